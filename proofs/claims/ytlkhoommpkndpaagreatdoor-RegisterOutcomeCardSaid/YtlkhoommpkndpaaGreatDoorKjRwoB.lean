/-
RegisterOutcome: the facts of its row that are reckoned from the program, each by itself.
-/
import Derived.Test.YtlkhoommpkndpaaGreatDoorKjRwoA
namespace Go.Proofs.YtlkhoommpkndpaaGreatDoor

set_option maxRecDepth 100000 in
theorem a8z : (Rows.registerOutcomeRow.inPlace == Tryz.pinned.checked.prog.inPlace 10) = true := by kernel_rfl
set_option maxRecDepth 100000 in
theorem a8y : (Rows.registerOutcomeRow.unfollowed == Tryz.pinned.checked.prog.unfollowed 10) = true := by kernel_rfl
set_option maxRecDepth 100000 in
theorem a8x : (Rows.registerOutcomeRow.recurses == Tryz.pinned.checked.prog.recurses 10) = true := by kernel_rfl
set_option maxRecDepth 100000 in
theorem a8w : (Rows.registerOutcomeRow.named == Tryz.pinned.checked.prog.varsNamed 10) = true := by kernel_rfl
set_option maxRecDepth 100000 in
theorem a8v : Tryz.pinned.checked.prog.funcNamed Rows.registerOutcomeRow.func = some 10 := by kernel_rfl
set_option maxRecDepth 100000 in
theorem a8u : Tryz.f10.isInstance Tryz.pinned.checked.prog Rows.registerOutcomeRow.origin Rows.registerOutcomeRow.targs := of_decide_eq_true (by kernel_rfl)
set_option maxRecDepth 100000 in
theorem a8t : Tryz.f10.isWrapper Tryz.pinned.checked.prog Rows.registerOutcomeRow.wrapper Rows.registerOutcomeRow.mainSum := by unfold Func.isWrapper; first | (rw [if_pos (by decide +kernel)]; kernel_rfl) | (rw [if_neg (by decide +kernel)]; exact ⟨rfl, rfl⟩)
set_option maxRecDepth 100000 in
theorem a6w : joinedFacts Tryz.pinned.checked.prog 10 Tryz.f10 Rows.registerOutcomeSpec Rows.registerOutcomeRow = true := by
  unfold joinedFacts
  rw [a8z, a8y, a8x, a8w]
  kernel_rfl
end Go.Proofs.YtlkhoommpkndpaaGreatDoor
