/-
CurrencyBack: its row, its card.
-/
import Derived.Test.YtcbjehnjbfmchaaDoorPQ
namespace Go.Proofs.YtcbjehnjbfmchaaDoor
open Go.ChangeShapes Go.WideShapes Go.ChangeAt Go.ChangeMaps Go.RowKit

set_option maxRecDepth 100000 in
theorem currencyBack_holds : Rows.CurrencyBackSaid :=
  OpenClaim.holds_of_wide 9 Tryd.f9 rfl rfl rfl rfl rfl rfl rfl ⟨rfl, rfl, rfl, rfl, rfl⟩ rfl rfl rfl rfl rfl currencyBack_f5 Tryd.func9 currencyBack_closed currencyBack_f6 currencyBack_f7
    (fun os started H enc _ => currencyBack_lifted os started H enc)

set_option maxRecDepth 100000 in
theorem currencyBack_card : Rows.CurrencyBackCardSaid :=
  Claim7.holds_tied_plain_at .later [] [.data, .pinned] true (true, "9202a00ce268925bc076c3f8bf0d41c12160ba03541809317b2e0cdca78e2ce3") false currencyBack_holds (fun _ h => by cases h) (by kernel_rfl) (fun _ h => by cases h) currencyBack_row_tie rfl ⟨rfl, rfl⟩ (by kernel_rfl) rfl
    (fun f fn hf hfn => by
      obtain rfl : f = 9 := Option.some.inj ((show Tryd.prog.funcNamed "insolvency/insolvencylaw7.CurrencyBack" = some 9 by kernel_rfl).symm.trans hf) |>.symm
      obtain rfl : fn = Tryd.f9 := (Option.some.inj (Tryd.func9.symm.trans hfn)).symm
      exact ⟨by kernel_rfl, fun j t ht => by
        rw [Tryd.params9] at ht
        have hm : t ∈ [40, 28, 5, 5, 5, 5] := by simpa using Array.mem_of_getElem? ht
        have hall : ([40, 28, 5, 5, 5, 5].all fun u => !Tryd.prog.wantsStandIn u) = true := by kernel_rfl
        exact (show Tryd.prog.wantsStandIn t = false by simpa using List.all_eq_true.1 hall t hm)⟩)
    (by kernel_rfl)
#print axioms currencyBack_card

end Go.Proofs.YtcbjehnjbfmchaaDoor
