/-
RegisterValue: the facts of its row that are reckoned from the program, each by itself.
-/
import Derived.Test.YtlkhoommpkndpaaGreatDoorKbRw3A
namespace Go.Proofs.YtlkhoommpkndpaaGreatDoor

set_option maxRecDepth 100000 in
theorem registerValue_f1 : (Rows.registerValueRow.inPlace == Tryz.pinned.checked.prog.inPlace 4) = true := by kernel_rfl
set_option maxRecDepth 100000 in
theorem registerValue_f2 : (Rows.registerValueRow.unfollowed == Tryz.pinned.checked.prog.unfollowed 4) = true := by kernel_rfl
set_option maxRecDepth 100000 in
theorem registerValue_f3 : (Rows.registerValueRow.recurses == Tryz.pinned.checked.prog.recurses 4) = true := by kernel_rfl
set_option maxRecDepth 100000 in
theorem registerValue_f4 : (Rows.registerValueRow.named == Tryz.pinned.checked.prog.varsNamed 4) = true := by kernel_rfl
set_option maxRecDepth 100000 in
theorem registerValue_f5 : Tryz.pinned.checked.prog.funcNamed Rows.registerValueRow.func = some 4 := by kernel_rfl
set_option maxRecDepth 100000 in
theorem registerValue_f6 : Tryz.f4.isInstance Tryz.pinned.checked.prog Rows.registerValueRow.origin Rows.registerValueRow.targs := of_decide_eq_true (by kernel_rfl)
set_option maxRecDepth 100000 in
theorem registerValue_f7 : Tryz.f4.isWrapper Tryz.pinned.checked.prog Rows.registerValueRow.wrapper Rows.registerValueRow.mainSum := by unfold Func.isWrapper; first | (rw [if_pos (by decide +kernel)]; kernel_rfl) | (rw [if_neg (by decide +kernel)]; exact ⟨rfl, rfl⟩)
set_option maxRecDepth 100000 in
theorem registerValue_closed : joinedFacts Tryz.pinned.checked.prog 4 Tryz.f4 Rows.registerValueSpec Rows.registerValueRow = true := by
  unfold joinedFacts
  rw [registerValue_f1, registerValue_f2, registerValue_f3, registerValue_f4]
  kernel_rfl
end Go.Proofs.YtlkhoommpkndpaaGreatDoor
