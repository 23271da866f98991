/-
VoteMore: the facts of its row that are reckoned from the program, each by itself.
-/
import Derived.Test.YtakoagjpmdcddaaDoorVmRA
namespace Go.Proofs.YtakoagjpmdcddaaDoor

set_option maxRecDepth 100000 in
theorem voteMore_f1 : (Rows.voteMoreRow.inPlace == Tryd.pinned.checked.prog.inPlace 6) = true := by kernel_rfl
set_option maxRecDepth 100000 in
theorem voteMore_f2 : (Rows.voteMoreRow.unfollowed == Tryd.pinned.checked.prog.unfollowed 6) = true := by kernel_rfl
set_option maxRecDepth 100000 in
theorem voteMore_f3 : (Rows.voteMoreRow.recurses == Tryd.pinned.checked.prog.recurses 6) = true := by kernel_rfl
set_option maxRecDepth 100000 in
theorem voteMore_f4 : (Rows.voteMoreRow.named == Tryd.pinned.checked.prog.varsNamed 6) = true := by kernel_rfl
set_option maxRecDepth 100000 in
theorem voteMore_f5 : Tryd.pinned.checked.prog.funcNamed Rows.voteMoreRow.func = some 6 := by kernel_rfl
set_option maxRecDepth 100000 in
theorem voteMore_f6 : Tryd.f6.isInstance Tryd.pinned.checked.prog Rows.voteMoreRow.origin Rows.voteMoreRow.targs := of_decide_eq_true (by kernel_rfl)
set_option maxRecDepth 100000 in
theorem voteMore_f7 : Tryd.f6.isWrapper Tryd.pinned.checked.prog Rows.voteMoreRow.wrapper Rows.voteMoreRow.mainSum := by unfold Func.isWrapper; first | (rw [if_pos (by decide +kernel)]; kernel_rfl) | (rw [if_neg (by decide +kernel)]; exact ⟨rfl, rfl⟩)
set_option maxRecDepth 100000 in
theorem voteMore_closed : joinedFacts Tryd.pinned.checked.prog 6 Tryd.f6 Rows.voteMoreSpec Rows.voteMoreRow = true := by
  unfold joinedFacts
  rw [voteMore_f1, voteMore_f2, voteMore_f3, voteMore_f4]
  kernel_rfl
end Go.Proofs.YtakoagjpmdcddaaDoor
