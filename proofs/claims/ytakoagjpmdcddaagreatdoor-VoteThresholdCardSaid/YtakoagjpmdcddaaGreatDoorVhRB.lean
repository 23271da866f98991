/-
VoteThreshold: the facts of its row that are reckoned from the program, each by itself.
-/
import Derived.Test.YtakoagjpmdcddaaGreatDoorVhRA
namespace Go.Proofs.YtakoagjpmdcddaaGreatDoor

set_option maxRecDepth 100000 in
theorem voteThreshold_f1 : (Rows.voteThresholdRow.inPlace == Tryz.pinned.checked.prog.inPlace 5) = true := by kernel_rfl
set_option maxRecDepth 100000 in
theorem voteThreshold_f2 : (Rows.voteThresholdRow.unfollowed == Tryz.pinned.checked.prog.unfollowed 5) = true := by kernel_rfl
set_option maxRecDepth 100000 in
theorem voteThreshold_f3 : (Rows.voteThresholdRow.recurses == Tryz.pinned.checked.prog.recurses 5) = true := by kernel_rfl
set_option maxRecDepth 100000 in
theorem voteThreshold_f4 : (Rows.voteThresholdRow.named == Tryz.pinned.checked.prog.varsNamed 5) = true := by kernel_rfl
set_option maxRecDepth 100000 in
theorem voteThreshold_f5 : Tryz.pinned.checked.prog.funcNamed Rows.voteThresholdRow.func = some 5 := by kernel_rfl
set_option maxRecDepth 100000 in
theorem voteThreshold_f6 : Tryz.f5.isInstance Tryz.pinned.checked.prog Rows.voteThresholdRow.origin Rows.voteThresholdRow.targs := of_decide_eq_true (by kernel_rfl)
set_option maxRecDepth 100000 in
theorem voteThreshold_f7 : Tryz.f5.isWrapper Tryz.pinned.checked.prog Rows.voteThresholdRow.wrapper Rows.voteThresholdRow.mainSum := by unfold Func.isWrapper; first | (rw [if_pos (by decide +kernel)]; kernel_rfl) | (rw [if_neg (by decide +kernel)]; exact ⟨rfl, rfl⟩)
set_option maxRecDepth 100000 in
theorem voteThreshold_closed : joinedFacts Tryz.pinned.checked.prog 5 Tryz.f5 Rows.voteThresholdSpec Rows.voteThresholdRow = true := by
  unfold joinedFacts
  rw [voteThreshold_f1, voteThreshold_f2, voteThreshold_f3, voteThreshold_f4]
  kernel_rfl
end Go.Proofs.YtakoagjpmdcddaaGreatDoor
