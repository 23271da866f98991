/-
VoteCheck: its row, its card.
-/
import Derived.Test.YtakoagjpmdcddaaDoorVcRB
namespace Go.Proofs.YtakoagjpmdcddaaDoor
open Go.ChangeShapes Go.WideShapes Go.ChangeAt Go.ChangeMaps Go.RowKit

set_option maxRecDepth 100000 in
theorem voteCheck_holds : Rows.VoteCheckSaid :=
  OpenClaim.holds_of_wide 3 Tryd.f3 rfl rfl rfl rfl rfl rfl rfl ⟨rfl, rfl, rfl, rfl, rfl⟩ rfl rfl rfl rfl rfl voteCheck_f5 Tryd.func3 voteCheck_closed voteCheck_f6 voteCheck_f7
    (fun os started H enc _ => voteCheck_lifted os started H enc)

set_option maxRecDepth 100000 in
theorem voteCheck_card : Rows.VoteCheckCardSaid :=
  Claim7.holds_tied_plain_at .later [] [.data, .pinned] true (true, "4312eee3ced996c5d1c1a671494921aeca60ddab5c8eaece76f96a47c31c2f16") false voteCheck_holds (fun _ h => by cases h) (by kernel_rfl) (fun _ h => by cases h) voteCheck_row_tie rfl ⟨rfl, rfl⟩ (by kernel_rfl) rfl
    (fun f fn hf hfn => by
      obtain rfl : f = 3 := Option.some.inj ((show Tryd.prog.funcNamed "insolvency/insolvencylaw30.VoteCheck" = some 3 by kernel_rfl).symm.trans hf) |>.symm
      obtain rfl : fn = Tryd.f3 := (Option.some.inj (Tryd.func3.symm.trans hfn)).symm
      exact ⟨by kernel_rfl, fun j t ht => by
        rw [Tryd.params3] at ht
        have hm : t ∈ [22, 23, 5] := by simpa using Array.mem_of_getElem? ht
        have hall : ([22, 23, 5].all fun u => !Tryd.prog.wantsStandIn u) = true := by kernel_rfl
        exact (show Tryd.prog.wantsStandIn t = false by simpa using List.all_eq_true.1 hall t hm)⟩)
    (by kernel_rfl)
#print axioms voteCheck_card

end Go.Proofs.YtakoagjpmdcddaaDoor
