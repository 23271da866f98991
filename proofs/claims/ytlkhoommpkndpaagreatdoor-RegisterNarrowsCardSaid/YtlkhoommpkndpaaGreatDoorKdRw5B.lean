/-
RegisterNarrows: the facts of its row that are reckoned from the program, each by itself.
-/
import Derived.Test.YtlkhoommpkndpaaGreatDoorKdRw5A
namespace Go.Proofs.YtlkhoommpkndpaaGreatDoor

set_option maxRecDepth 100000 in
theorem registerNarrows_f1 : (Rows.registerNarrowsRow.inPlace == Tryz.pinned.checked.prog.inPlace 8) = true := by kernel_rfl
set_option maxRecDepth 100000 in
theorem registerNarrows_f2 : (Rows.registerNarrowsRow.unfollowed == Tryz.pinned.checked.prog.unfollowed 8) = true := by kernel_rfl
set_option maxRecDepth 100000 in
theorem registerNarrows_f3 : (Rows.registerNarrowsRow.recurses == Tryz.pinned.checked.prog.recurses 8) = true := by kernel_rfl
set_option maxRecDepth 100000 in
theorem registerNarrows_f4 : (Rows.registerNarrowsRow.named == Tryz.pinned.checked.prog.varsNamed 8) = true := by kernel_rfl
set_option maxRecDepth 100000 in
theorem registerNarrows_f5 : Tryz.pinned.checked.prog.funcNamed Rows.registerNarrowsRow.func = some 8 := by kernel_rfl
set_option maxRecDepth 100000 in
theorem registerNarrows_f6 : Tryz.f8.isInstance Tryz.pinned.checked.prog Rows.registerNarrowsRow.origin Rows.registerNarrowsRow.targs := of_decide_eq_true (by kernel_rfl)
set_option maxRecDepth 100000 in
theorem registerNarrows_f7 : Tryz.f8.isWrapper Tryz.pinned.checked.prog Rows.registerNarrowsRow.wrapper Rows.registerNarrowsRow.mainSum := by unfold Func.isWrapper; first | (rw [if_pos (by decide +kernel)]; kernel_rfl) | (rw [if_neg (by decide +kernel)]; exact ⟨rfl, rfl⟩)
set_option maxRecDepth 100000 in
theorem registerNarrows_closed : joinedFacts Tryz.pinned.checked.prog 8 Tryz.f8 Rows.registerNarrowsSpec Rows.registerNarrowsRow = true := by
  unfold joinedFacts
  rw [registerNarrows_f1, registerNarrows_f2, registerNarrows_f3, registerNarrows_f4]
  kernel_rfl
end Go.Proofs.YtlkhoommpkndpaaGreatDoor
