/-
InterestRate: its row, its card.
-/
import Derived.Test.YtcbjehnjbfmchaaDoorR3
namespace Go.Proofs.YtcbjehnjbfmchaaDoor
open Go.ChangeShapes Go.WideShapes Go.ChangeAt Go.ChangeMaps Go.RowKit

set_option maxRecDepth 100000 in
theorem interestRate_holds : Rows.InterestRateSaid :=
  OpenClaim.holds_of_wide 14 Tryd.f14 rfl rfl rfl rfl rfl rfl rfl ⟨rfl, rfl, rfl, rfl, rfl⟩ rfl rfl rfl rfl rfl interestRate_f5 Tryd.func14 interestRate_closed interestRate_f6 interestRate_f7
    (fun os started H enc _ => interestRate_lifted os started H enc)

set_option maxRecDepth 100000 in
theorem interestRate_card : Rows.InterestRateCardSaid :=
  Claim7.holds_tied_plain_at .later [] [.data, .pinned] true (true, "9202a00ce268925bc076c3f8bf0d41c12160ba03541809317b2e0cdca78e2ce3") false interestRate_holds (fun _ h => by cases h) (by kernel_rfl) (fun _ h => by cases h) interestRate_row_tie rfl ⟨rfl, rfl⟩ (by kernel_rfl) rfl
    (fun f fn hf hfn => by
      obtain rfl : f = 14 := Option.some.inj ((show Tryd.prog.funcNamed "insolvency/insolvencylaw6.InterestRate" = some 14 by kernel_rfl).symm.trans hf) |>.symm
      obtain rfl : fn = Tryd.f14 := (Option.some.inj (Tryd.func14.symm.trans hfn)).symm
      exact ⟨by kernel_rfl, fun j t ht => by
        rw [Tryd.params14] at ht
        have hm : t ∈ [51, 3] := by simpa using Array.mem_of_getElem? ht
        have hall : ([51, 3].all fun u => !Tryd.prog.wantsStandIn u) = true := by kernel_rfl
        exact (show Tryd.prog.wantsStandIn t = false by simpa using List.all_eq_true.1 hall t hm)⟩)
    (by kernel_rfl)
#print axioms interestRate_card

end Go.Proofs.YtcbjehnjbfmchaaDoor
