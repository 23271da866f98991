/-
VoteCount: its row, its card.
-/
import Derived.Test.YtakoagjpmdcddaaGreatDoorVnRB
namespace Go.Proofs.YtakoagjpmdcddaaGreatDoor
open Go.ChangeShapes Go.WideShapes Go.ChangeAt Go.ChangeMaps Go.RowKit

set_option maxRecDepth 100000 in
theorem voteCount_holds : Rows.VoteCountSaid :=
  OpenClaim.holds_of_wide 6 Tryz.f6 rfl rfl rfl rfl rfl rfl rfl ⟨rfl, rfl, rfl, rfl, rfl⟩ rfl rfl rfl rfl rfl voteCount_f5 Tryz.func6 voteCount_closed voteCount_f6 voteCount_f7
    (fun os started H enc _ => voteCount_lifted os started H enc)

set_option maxRecDepth 100000 in
theorem voteCount_card : Rows.VoteCountCardSaid :=
  Claim7.holds_tied_plain_at .later [] [.data, .pinned] true (true, "b83ef53b3b7a4a21d86c2b80b0f69e995fbf76b4eb65c9a9c7b79ba6ba42cfb5") false voteCount_holds (fun _ h => by cases h) (by kernel_rfl) (fun _ h => by cases h) voteCount_row_tie rfl ⟨rfl, rfl⟩ (by kernel_rfl) rfl
    (fun f fn hf hfn => by
      obtain rfl : f = 6 := Option.some.inj ((show Tryz.prog.funcNamed "insolvency/insolvencylaw30.VoteCount" = some 6 by kernel_rfl).symm.trans hf) |>.symm
      obtain rfl : fn = Tryz.f6 := (Option.some.inj (Tryz.func6.symm.trans hfn)).symm
      exact ⟨by kernel_rfl, fun j t ht => by
        rw [Tryz.params6] at ht
        have hm : t ∈ [42, 5, 43, 23] := by simpa using Array.mem_of_getElem? ht
        have hall : ([42, 5, 43, 23].all fun u => !Tryz.prog.wantsStandIn u) = true := by kernel_rfl
        exact (show Tryz.prog.wantsStandIn t = false by simpa using List.all_eq_true.1 hall t hm)⟩)
    (by kernel_rfl)
#print axioms voteCount_card

end Go.Proofs.YtakoagjpmdcddaaGreatDoor
