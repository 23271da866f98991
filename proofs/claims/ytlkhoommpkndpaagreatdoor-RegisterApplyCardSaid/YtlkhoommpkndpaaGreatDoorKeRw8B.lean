/-
RegisterApply: the facts of its row that are reckoned from the program, each by itself.
-/
import Derived.Test.YtlkhoommpkndpaaGreatDoorKeRw8A
namespace Go.Proofs.YtlkhoommpkndpaaGreatDoor

set_option maxRecDepth 100000 in
theorem b4a : (Rows.registerApplyRow.inPlace == Tryz.pinned.checked.prog.inPlace 6) = true := by kernel_rfl
set_option maxRecDepth 100000 in
theorem b3z : (Rows.registerApplyRow.unfollowed == Tryz.pinned.checked.prog.unfollowed 6) = true := by kernel_rfl
set_option maxRecDepth 100000 in
theorem b3y : (Rows.registerApplyRow.recurses == Tryz.pinned.checked.prog.recurses 6) = true := by kernel_rfl
set_option maxRecDepth 100000 in
theorem b3x : (Rows.registerApplyRow.named == Tryz.pinned.checked.prog.varsNamed 6) = true := by kernel_rfl
set_option maxRecDepth 100000 in
theorem b3w : Tryz.pinned.checked.prog.funcNamed Rows.registerApplyRow.func = some 6 := by kernel_rfl
set_option maxRecDepth 100000 in
theorem b3v : Tryz.f6.isInstance Tryz.pinned.checked.prog Rows.registerApplyRow.origin Rows.registerApplyRow.targs := of_decide_eq_true (by kernel_rfl)
set_option maxRecDepth 100000 in
theorem b3u : Tryz.f6.isWrapper Tryz.pinned.checked.prog Rows.registerApplyRow.wrapper Rows.registerApplyRow.mainSum := by unfold Func.isWrapper; first | (rw [if_pos (by decide +kernel)]; kernel_rfl) | (rw [if_neg (by decide +kernel)]; exact ⟨rfl, rfl⟩)
set_option maxRecDepth 100000 in
theorem b0f : joinedFacts Tryz.pinned.checked.prog 6 Tryz.f6 Rows.registerApplySpec Rows.registerApplyRow = true := by
  unfold joinedFacts
  rw [b4a, b3z, b3y, b3x]
  kernel_rfl
end Go.Proofs.YtlkhoommpkndpaaGreatDoor
