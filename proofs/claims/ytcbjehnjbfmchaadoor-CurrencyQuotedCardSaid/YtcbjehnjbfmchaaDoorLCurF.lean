/-
CurrencyQuoted: its row, its card.
-/
import Derived.Test.YtcbjehnjbfmchaaDoorPL
namespace Go.Proofs.YtcbjehnjbfmchaaDoor
open Go.ChangeShapes Go.WideShapes Go.ChangeAt Go.ChangeMaps Go.RowKit

set_option maxRecDepth 100000 in
theorem currencyQuoted_holds : Rows.CurrencyQuotedSaid :=
  OpenClaim.holds_of_wide 8 Tryd.f8 rfl rfl rfl rfl rfl rfl rfl ⟨rfl, rfl, rfl, rfl, rfl⟩ rfl rfl rfl rfl rfl currencyQuoted_f5 Tryd.func8 currencyQuoted_closed currencyQuoted_f6 currencyQuoted_f7
    (fun os started H enc _ => currencyQuoted_lifted os started H enc)

set_option maxRecDepth 100000 in
theorem currencyQuoted_card : Rows.CurrencyQuotedCardSaid :=
  Claim7.holds_tied_plain_at .later [] [.data, .pinned] true (true, "9202a00ce268925bc076c3f8bf0d41c12160ba03541809317b2e0cdca78e2ce3") false currencyQuoted_holds (fun _ h => by cases h) (by kernel_rfl) (fun _ h => by cases h) currencyQuoted_row_tie rfl ⟨rfl, rfl⟩ (by kernel_rfl) rfl
    (fun f fn hf hfn => by
      obtain rfl : f = 8 := Option.some.inj ((show Tryd.prog.funcNamed "insolvency/insolvencylaw7.CurrencyQuoted" = some 8 by kernel_rfl).symm.trans hf) |>.symm
      obtain rfl : fn = Tryd.f8 := (Option.some.inj (Tryd.func8.symm.trans hfn)).symm
      exact ⟨by kernel_rfl, fun j t ht => by
        rw [Tryd.params8] at ht
        have hm : t ∈ [40, 28, 5, 5, 5] := by simpa using Array.mem_of_getElem? ht
        have hall : ([40, 28, 5, 5, 5].all fun u => !Tryd.prog.wantsStandIn u) = true := by kernel_rfl
        exact (show Tryd.prog.wantsStandIn t = false by simpa using List.all_eq_true.1 hall t hm)⟩)
    (by kernel_rfl)
#print axioms currencyQuoted_card

end Go.Proofs.YtcbjehnjbfmchaaDoor
