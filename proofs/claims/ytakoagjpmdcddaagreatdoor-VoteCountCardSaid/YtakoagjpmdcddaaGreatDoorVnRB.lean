/-
VoteCount: the facts of its row that are reckoned from the program, each by itself.
-/
import Derived.Test.YtakoagjpmdcddaaGreatDoorVnRA
namespace Go.Proofs.YtakoagjpmdcddaaGreatDoor

set_option maxRecDepth 100000 in
theorem voteCount_f1 : (Rows.voteCountRow.inPlace == Tryz.pinned.checked.prog.inPlace 6) = true := by kernel_rfl
set_option maxRecDepth 100000 in
theorem voteCount_f2 : (Rows.voteCountRow.unfollowed == Tryz.pinned.checked.prog.unfollowed 6) = true := by kernel_rfl
set_option maxRecDepth 100000 in
theorem voteCount_f3 : (Rows.voteCountRow.recurses == Tryz.pinned.checked.prog.recurses 6) = true := by kernel_rfl
set_option maxRecDepth 100000 in
theorem voteCount_f4 : (Rows.voteCountRow.named == Tryz.pinned.checked.prog.varsNamed 6) = true := by kernel_rfl
set_option maxRecDepth 100000 in
theorem voteCount_f5 : Tryz.pinned.checked.prog.funcNamed Rows.voteCountRow.func = some 6 := by kernel_rfl
set_option maxRecDepth 100000 in
theorem voteCount_f6 : Tryz.f6.isInstance Tryz.pinned.checked.prog Rows.voteCountRow.origin Rows.voteCountRow.targs := of_decide_eq_true (by kernel_rfl)
set_option maxRecDepth 100000 in
theorem voteCount_f7 : Tryz.f6.isWrapper Tryz.pinned.checked.prog Rows.voteCountRow.wrapper Rows.voteCountRow.mainSum := by unfold Func.isWrapper; first | (rw [if_pos (by decide +kernel)]; kernel_rfl) | (rw [if_neg (by decide +kernel)]; exact ⟨rfl, rfl⟩)
set_option maxRecDepth 100000 in
theorem voteCount_closed : joinedFacts Tryz.pinned.checked.prog 6 Tryz.f6 Rows.voteCountSpec Rows.voteCountRow = true := by
  unfold joinedFacts
  rw [voteCount_f1, voteCount_f2, voteCount_f3, voteCount_f4]
  kernel_rfl
end Go.Proofs.YtakoagjpmdcddaaGreatDoor
