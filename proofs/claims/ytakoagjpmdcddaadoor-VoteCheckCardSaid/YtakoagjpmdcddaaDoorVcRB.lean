/-
VoteCheck: the facts of its row that are reckoned from the program, each by itself.
-/
import Derived.Test.YtakoagjpmdcddaaDoorVcRA
namespace Go.Proofs.YtakoagjpmdcddaaDoor

set_option maxRecDepth 100000 in
theorem voteCheck_f1 : (Rows.voteCheckRow.inPlace == Tryd.pinned.checked.prog.inPlace 3) = true := by kernel_rfl
set_option maxRecDepth 100000 in
theorem voteCheck_f2 : (Rows.voteCheckRow.unfollowed == Tryd.pinned.checked.prog.unfollowed 3) = true := by kernel_rfl
set_option maxRecDepth 100000 in
theorem voteCheck_f3 : (Rows.voteCheckRow.recurses == Tryd.pinned.checked.prog.recurses 3) = true := by kernel_rfl
set_option maxRecDepth 100000 in
theorem voteCheck_f4 : (Rows.voteCheckRow.named == Tryd.pinned.checked.prog.varsNamed 3) = true := by kernel_rfl
set_option maxRecDepth 100000 in
theorem voteCheck_f5 : Tryd.pinned.checked.prog.funcNamed Rows.voteCheckRow.func = some 3 := by kernel_rfl
set_option maxRecDepth 100000 in
theorem voteCheck_f6 : Tryd.f3.isInstance Tryd.pinned.checked.prog Rows.voteCheckRow.origin Rows.voteCheckRow.targs := of_decide_eq_true (by kernel_rfl)
set_option maxRecDepth 100000 in
theorem voteCheck_f7 : Tryd.f3.isWrapper Tryd.pinned.checked.prog Rows.voteCheckRow.wrapper Rows.voteCheckRow.mainSum := by unfold Func.isWrapper; first | (rw [if_pos (by decide +kernel)]; kernel_rfl) | (rw [if_neg (by decide +kernel)]; exact ⟨rfl, rfl⟩)
set_option maxRecDepth 100000 in
theorem voteCheck_closed : joinedFacts Tryd.pinned.checked.prog 3 Tryd.f3 Rows.voteCheckSpec Rows.voteCheckRow = true := by
  unfold joinedFacts
  rw [voteCheck_f1, voteCheck_f2, voteCheck_f3, voteCheck_f4]
  kernel_rfl
end Go.Proofs.YtakoagjpmdcddaaDoor
