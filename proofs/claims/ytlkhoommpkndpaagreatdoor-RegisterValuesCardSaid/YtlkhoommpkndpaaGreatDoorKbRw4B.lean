/-
RegisterValues: the facts of its row that are reckoned from the program, each by itself.
-/
import Derived.Test.YtlkhoommpkndpaaGreatDoorKbRw4A
namespace Go.Proofs.YtlkhoommpkndpaaGreatDoor

set_option maxRecDepth 100000 in
theorem registerValues_f1 : (Rows.registerValuesRow.inPlace == Tryz.pinned.checked.prog.inPlace 5) = true := by kernel_rfl
set_option maxRecDepth 100000 in
theorem registerValues_f2 : (Rows.registerValuesRow.unfollowed == Tryz.pinned.checked.prog.unfollowed 5) = true := by kernel_rfl
set_option maxRecDepth 100000 in
theorem registerValues_f3 : (Rows.registerValuesRow.recurses == Tryz.pinned.checked.prog.recurses 5) = true := by kernel_rfl
set_option maxRecDepth 100000 in
theorem registerValues_f4 : (Rows.registerValuesRow.named == Tryz.pinned.checked.prog.varsNamed 5) = true := by kernel_rfl
set_option maxRecDepth 100000 in
theorem registerValues_f5 : Tryz.pinned.checked.prog.funcNamed Rows.registerValuesRow.func = some 5 := by kernel_rfl
set_option maxRecDepth 100000 in
theorem registerValues_f6 : Tryz.f5.isInstance Tryz.pinned.checked.prog Rows.registerValuesRow.origin Rows.registerValuesRow.targs := of_decide_eq_true (by kernel_rfl)
set_option maxRecDepth 100000 in
theorem registerValues_f7 : Tryz.f5.isWrapper Tryz.pinned.checked.prog Rows.registerValuesRow.wrapper Rows.registerValuesRow.mainSum := by unfold Func.isWrapper; first | (rw [if_pos (by decide +kernel)]; kernel_rfl) | (rw [if_neg (by decide +kernel)]; exact ⟨rfl, rfl⟩)
set_option maxRecDepth 100000 in
theorem registerValues_closed : joinedFacts Tryz.pinned.checked.prog 5 Tryz.f5 Rows.registerValuesSpec Rows.registerValuesRow = true := by
  unfold joinedFacts
  rw [registerValues_f1, registerValues_f2, registerValues_f3, registerValues_f4]
  kernel_rfl
end Go.Proofs.YtlkhoommpkndpaaGreatDoor
