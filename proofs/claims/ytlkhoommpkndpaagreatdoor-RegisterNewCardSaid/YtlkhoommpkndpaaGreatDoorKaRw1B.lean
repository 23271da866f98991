/-
RegisterNew: the facts of its row that are reckoned from the program, each by itself.
-/
import Derived.Test.YtlkhoommpkndpaaGreatDoorKaRw1A
namespace Go.Proofs.YtlkhoommpkndpaaGreatDoor

set_option maxRecDepth 100000 in
theorem registerNew_f1 : (Rows.registerNewRow.inPlace == Tryz.pinned.checked.prog.inPlace 3) = true := by kernel_rfl
set_option maxRecDepth 100000 in
theorem registerNew_f2 : (Rows.registerNewRow.unfollowed == Tryz.pinned.checked.prog.unfollowed 3) = true := by kernel_rfl
set_option maxRecDepth 100000 in
theorem registerNew_f3 : (Rows.registerNewRow.recurses == Tryz.pinned.checked.prog.recurses 3) = true := by kernel_rfl
set_option maxRecDepth 100000 in
theorem registerNew_f4 : (Rows.registerNewRow.named == Tryz.pinned.checked.prog.varsNamed 3) = true := by kernel_rfl
set_option maxRecDepth 100000 in
theorem registerNew_f5 : Tryz.pinned.checked.prog.funcNamed Rows.registerNewRow.func = some 3 := by kernel_rfl
set_option maxRecDepth 100000 in
theorem registerNew_f6 : Tryz.f3.isInstance Tryz.pinned.checked.prog Rows.registerNewRow.origin Rows.registerNewRow.targs := of_decide_eq_true (by kernel_rfl)
set_option maxRecDepth 100000 in
theorem registerNew_f7 : Tryz.f3.isWrapper Tryz.pinned.checked.prog Rows.registerNewRow.wrapper Rows.registerNewRow.mainSum := by unfold Func.isWrapper; first | (rw [if_pos (by decide +kernel)]; kernel_rfl) | (rw [if_neg (by decide +kernel)]; exact ⟨rfl, rfl⟩)
set_option maxRecDepth 100000 in
theorem registerNew_closed : joinedFacts Tryz.pinned.checked.prog 3 Tryz.f3 Rows.registerNewSpec Rows.registerNewRow = true := by
  unfold joinedFacts
  rw [registerNew_f1, registerNew_f2, registerNew_f3, registerNew_f4]
  kernel_rfl
end Go.Proofs.YtlkhoommpkndpaaGreatDoor
