/-
InterestSums: its row, its card.
-/
import Derived.Test.YtcbjehnjbfmchaaDoorRD
namespace Go.Proofs.YtcbjehnjbfmchaaDoor
open Go.ChangeShapes Go.WideShapes Go.ChangeAt Go.ChangeMaps Go.RowKit

set_option maxRecDepth 100000 in
theorem interestSums_holds : Rows.InterestSumsSaid :=
  OpenClaim.holds_of_wide 15 Tryd.f15 rfl rfl rfl rfl rfl rfl rfl ⟨rfl, rfl, rfl, rfl, rfl⟩ rfl rfl rfl rfl rfl interestSums_f5 Tryd.func15 interestSums_closed interestSums_f6 interestSums_f7
    (fun os started H enc _ => interestSums_lifted os started H enc)

set_option maxRecDepth 100000 in
theorem interestSums_card : Rows.InterestSumsCardSaid :=
  Claim7.holds_tied_plain_at .later [] [.data, .pinned] true (true, "9202a00ce268925bc076c3f8bf0d41c12160ba03541809317b2e0cdca78e2ce3") false interestSums_holds (fun _ h => by cases h) (by kernel_rfl) (fun _ h => by cases h) interestSums_row_tie rfl ⟨rfl, rfl⟩ (by kernel_rfl) rfl
    (fun f fn hf hfn => by
      obtain rfl : f = 15 := Option.some.inj ((show Tryd.prog.funcNamed "insolvency/insolvencylaw6.InterestSums" = some 15 by kernel_rfl).symm.trans hf) |>.symm
      obtain rfl : fn = Tryd.f15 := (Option.some.inj (Tryd.func15.symm.trans hfn)).symm
      exact ⟨by kernel_rfl, fun j t ht => by
        rw [Tryd.params15] at ht
        have hm : t ∈ [28, 58, 5, 5] := by simpa using Array.mem_of_getElem? ht
        have hall : ([28, 58, 5, 5].all fun u => !Tryd.prog.wantsStandIn u) = true := by kernel_rfl
        exact (show Tryd.prog.wantsStandIn t = false by simpa using List.all_eq_true.1 hall t hm)⟩)
    (by kernel_rfl)
#print axioms interestSums_card

end Go.Proofs.YtcbjehnjbfmchaaDoor
