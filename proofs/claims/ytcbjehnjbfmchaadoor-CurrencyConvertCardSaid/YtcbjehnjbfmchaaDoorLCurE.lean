/-
CurrencyConvert: its row, its card.
-/
import Derived.Test.YtcbjehnjbfmchaaDoorPG
namespace Go.Proofs.YtcbjehnjbfmchaaDoor
open Go.ChangeShapes Go.WideShapes Go.ChangeAt Go.ChangeMaps Go.RowKit

set_option maxRecDepth 100000 in
theorem currencyConvert_holds : Rows.CurrencyConvertSaid :=
  OpenClaim.holds_of_wide 7 Tryd.f7 rfl rfl rfl rfl rfl rfl rfl ⟨rfl, rfl, rfl, rfl, rfl⟩ rfl rfl rfl rfl rfl currencyConvert_f5 Tryd.func7 currencyConvert_closed currencyConvert_f6 currencyConvert_f7
    (fun os started H enc _ => currencyConvert_lifted os started H enc)

set_option maxRecDepth 100000 in
theorem currencyConvert_card : Rows.CurrencyConvertCardSaid :=
  Claim7.holds_tied_plain_at .later [] [.data, .pinned] true (true, "9202a00ce268925bc076c3f8bf0d41c12160ba03541809317b2e0cdca78e2ce3") false currencyConvert_holds (fun _ h => by cases h) (by kernel_rfl) (fun _ h => by cases h) currencyConvert_row_tie rfl ⟨rfl, rfl⟩ (by kernel_rfl) rfl
    (fun f fn hf hfn => by
      obtain rfl : f = 7 := Option.some.inj ((show Tryd.prog.funcNamed "insolvency/insolvencylaw7.CurrencyConvert" = some 7 by kernel_rfl).symm.trans hf) |>.symm
      obtain rfl : fn = Tryd.f7 := (Option.some.inj (Tryd.func7.symm.trans hfn)).symm
      exact ⟨by kernel_rfl, fun j t ht => by
        rw [Tryd.params7] at ht
        have hm : t ∈ [22, 30, 9, 9, 3] := by simpa using Array.mem_of_getElem? ht
        have hall : ([22, 30, 9, 9, 3].all fun u => !Tryd.prog.wantsStandIn u) = true := by kernel_rfl
        exact (show Tryd.prog.wantsStandIn t = false by simpa using List.all_eq_true.1 hall t hm)⟩)
    (by kernel_rfl)
#print axioms currencyConvert_card

end Go.Proofs.YtcbjehnjbfmchaaDoor
