/-
RegisterBounds: the facts of its row that are reckoned from the program, each by itself.
-/
import Derived.Test.YtlkhoommpkndpaaGreatDoorKbRw6A
namespace Go.Proofs.YtlkhoommpkndpaaGreatDoor

set_option maxRecDepth 100000 in
theorem registerBounds_f1 : (Rows.registerBoundsRow.inPlace == Tryz.pinned.checked.prog.inPlace 7) = true := by kernel_rfl
set_option maxRecDepth 100000 in
theorem registerBounds_f2 : (Rows.registerBoundsRow.unfollowed == Tryz.pinned.checked.prog.unfollowed 7) = true := by kernel_rfl
set_option maxRecDepth 100000 in
theorem registerBounds_f3 : (Rows.registerBoundsRow.recurses == Tryz.pinned.checked.prog.recurses 7) = true := by kernel_rfl
set_option maxRecDepth 100000 in
theorem registerBounds_f4 : (Rows.registerBoundsRow.named == Tryz.pinned.checked.prog.varsNamed 7) = true := by kernel_rfl
set_option maxRecDepth 100000 in
theorem registerBounds_f5 : Tryz.pinned.checked.prog.funcNamed Rows.registerBoundsRow.func = some 7 := by kernel_rfl
set_option maxRecDepth 100000 in
theorem registerBounds_f6 : Tryz.f7.isInstance Tryz.pinned.checked.prog Rows.registerBoundsRow.origin Rows.registerBoundsRow.targs := of_decide_eq_true (by kernel_rfl)
set_option maxRecDepth 100000 in
theorem registerBounds_f7 : Tryz.f7.isWrapper Tryz.pinned.checked.prog Rows.registerBoundsRow.wrapper Rows.registerBoundsRow.mainSum := by unfold Func.isWrapper; first | (rw [if_pos (by decide +kernel)]; kernel_rfl) | (rw [if_neg (by decide +kernel)]; exact ⟨rfl, rfl⟩)
set_option maxRecDepth 100000 in
theorem registerBounds_closed : joinedFacts Tryz.pinned.checked.prog 7 Tryz.f7 Rows.registerBoundsSpec Rows.registerBoundsRow = true := by
  unfold joinedFacts
  rw [registerBounds_f1, registerBounds_f2, registerBounds_f3, registerBounds_f4]
  kernel_rfl
end Go.Proofs.YtlkhoommpkndpaaGreatDoor
