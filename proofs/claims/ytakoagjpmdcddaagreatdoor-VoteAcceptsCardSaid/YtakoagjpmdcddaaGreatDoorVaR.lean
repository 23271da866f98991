/-
VoteAccepts: its row, its card.
-/
import Derived.Test.YtakoagjpmdcddaaGreatDoorVaRB
namespace Go.Proofs.YtakoagjpmdcddaaGreatDoor
open Go.ChangeShapes Go.WideShapes Go.ChangeAt Go.ChangeMaps Go.RowKit

set_option maxRecDepth 100000 in
theorem voteAccepts_holds : Rows.VoteAcceptsSaid :=
  OpenClaim.holds_of_wide 7 Tryz.f7 rfl rfl rfl rfl rfl rfl rfl ⟨rfl, rfl, rfl, rfl, rfl⟩ rfl rfl rfl rfl rfl voteAccepts_f5 Tryz.func7 voteAccepts_closed voteAccepts_f6 voteAccepts_f7
    (fun os started H enc _ => voteAccepts_lifted os started H enc)

set_option maxRecDepth 100000 in
theorem voteAccepts_card : Rows.VoteAcceptsCardSaid :=
  Claim7.holds_tied_plain_at .later [] [.data, .pinned] true (true, "b83ef53b3b7a4a21d86c2b80b0f69e995fbf76b4eb65c9a9c7b79ba6ba42cfb5") false voteAccepts_holds (fun _ h => by cases h) (by kernel_rfl) (fun _ h => by cases h) voteAccepts_row_tie rfl ⟨rfl, rfl⟩ (by kernel_rfl) rfl
    (fun f fn hf hfn => by
      obtain rfl : f = 7 := Option.some.inj ((show Tryz.prog.funcNamed "insolvency/insolvencylaw30.VoteAccepts" = some 7 by kernel_rfl).symm.trans hf) |>.symm
      obtain rfl : fn = Tryz.f7 := (Option.some.inj (Tryz.func7.symm.trans hfn)).symm
      exact ⟨by kernel_rfl, fun j t ht => by
        rw [Tryz.params7] at ht
        have hm : t ∈ [42, 5, 43, 23] := by simpa using Array.mem_of_getElem? ht
        have hall : ([42, 5, 43, 23].all fun u => !Tryz.prog.wantsStandIn u) = true := by kernel_rfl
        exact (show Tryz.prog.wantsStandIn t = false by simpa using List.all_eq_true.1 hall t hm)⟩)
    (by kernel_rfl)
#print axioms voteAccepts_card

end Go.Proofs.YtakoagjpmdcddaaGreatDoor
