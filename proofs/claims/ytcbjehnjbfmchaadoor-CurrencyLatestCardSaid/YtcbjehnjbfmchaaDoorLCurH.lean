/-
CurrencyLatest: its row, its card.
-/
import Derived.Test.YtcbjehnjbfmchaaDoorS3
namespace Go.Proofs.YtcbjehnjbfmchaaDoor
open Go.ChangeShapes Go.WideShapes Go.ChangeAt Go.ChangeMaps Go.RowKit

set_option maxRecDepth 100000 in
theorem currencyLatest_holds : Rows.CurrencyLatestSaid :=
  OpenClaim.holds_of_wide 6 Tryd.f6 rfl rfl rfl rfl rfl rfl rfl ⟨rfl, rfl, rfl, rfl, rfl⟩ rfl rfl rfl rfl rfl currencyLatest_f5 Tryd.func6 currencyLatest_closed currencyLatest_f6 currencyLatest_f7
    (fun os started H enc _ => currencyLatest_lifted os started H enc)

set_option maxRecDepth 100000 in
theorem currencyLatest_card : Rows.CurrencyLatestCardSaid :=
  Claim7.holds_tied_plain_at .later [] [.data, .pinned] true (true, "9202a00ce268925bc076c3f8bf0d41c12160ba03541809317b2e0cdca78e2ce3") false currencyLatest_holds (fun _ h => by cases h) (by kernel_rfl) (fun _ h => by cases h) currencyLatest_row_tie rfl ⟨rfl, rfl⟩ (by kernel_rfl) rfl
    (fun f fn hf hfn => by
      obtain rfl : f = 6 := Option.some.inj ((show Tryd.prog.funcNamed "insolvency/insolvencylaw7.CurrencyLatest" = some 6 by kernel_rfl).symm.trans hf) |>.symm
      obtain rfl : fn = Tryd.f6 := (Option.some.inj (Tryd.func6.symm.trans hfn)).symm
      exact ⟨by kernel_rfl, fun j t ht => by
        rw [Tryd.params6] at ht
        have hm : t ∈ [40, 5, 5] := by simpa using Array.mem_of_getElem? ht
        have hall : ([40, 5, 5].all fun u => !Tryd.prog.wantsStandIn u) = true := by kernel_rfl
        exact (show Tryd.prog.wantsStandIn t = false by simpa using List.all_eq_true.1 hall t hm)⟩)
    (by kernel_rfl)
#print axioms currencyLatest_card

end Go.Proofs.YtcbjehnjbfmchaaDoor
