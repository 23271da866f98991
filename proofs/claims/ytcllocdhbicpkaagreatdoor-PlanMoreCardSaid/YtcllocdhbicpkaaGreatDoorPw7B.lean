/-
PlanMore: the facts of its row that are reckoned from the program, each by itself.
-/
import Derived.Test.YtcllocdhbicpkaaGreatDoorPw7A
namespace Go.Proofs.YtcllocdhbicpkaaGreatDoor

set_option maxRecDepth 100000 in
theorem planMore_f1 : (Rows.planMoreRow.inPlace == Tryz.pinned.checked.prog.inPlace 9) = true := by kernel_rfl
set_option maxRecDepth 100000 in
theorem planMore_f2 : (Rows.planMoreRow.unfollowed == Tryz.pinned.checked.prog.unfollowed 9) = true := by kernel_rfl
set_option maxRecDepth 100000 in
theorem planMore_f3 : (Rows.planMoreRow.recurses == Tryz.pinned.checked.prog.recurses 9) = true := by kernel_rfl
set_option maxRecDepth 100000 in
theorem planMore_f4 : (Rows.planMoreRow.named == Tryz.pinned.checked.prog.varsNamed 9) = true := by kernel_rfl
set_option maxRecDepth 100000 in
theorem planMore_f5 : Tryz.pinned.checked.prog.funcNamed Rows.planMoreRow.func = some 9 := by kernel_rfl
set_option maxRecDepth 100000 in
theorem planMore_f6 : Tryz.f9.isInstance Tryz.pinned.checked.prog Rows.planMoreRow.origin Rows.planMoreRow.targs := of_decide_eq_true (by kernel_rfl)
set_option maxRecDepth 100000 in
theorem planMore_f7 : Tryz.f9.isWrapper Tryz.pinned.checked.prog Rows.planMoreRow.wrapper Rows.planMoreRow.mainSum := by unfold Func.isWrapper; first | (rw [if_pos (by decide +kernel)]; kernel_rfl) | (rw [if_neg (by decide +kernel)]; exact ⟨rfl, rfl⟩)
set_option maxRecDepth 100000 in
theorem planMore_closed : joinedFacts Tryz.pinned.checked.prog 9 Tryz.f9 Rows.planMoreSpec Rows.planMoreRow = true := by
  unfold joinedFacts
  rw [planMore_f1, planMore_f2, planMore_f3, planMore_f4]
  kernel_rfl
end Go.Proofs.YtcllocdhbicpkaaGreatDoor
