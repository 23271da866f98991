/-
PlanFound: the facts of its row that are reckoned from the program, each by itself.
-/
import Derived.Test.YtcllocdhbicpkaaGreatDoorPw5A
namespace Go.Proofs.YtcllocdhbicpkaaGreatDoor

set_option maxRecDepth 100000 in
theorem planFound_f1 : (Rows.planFoundRow.inPlace == Tryz.pinned.checked.prog.inPlace 7) = true := by kernel_rfl
set_option maxRecDepth 100000 in
theorem planFound_f2 : (Rows.planFoundRow.unfollowed == Tryz.pinned.checked.prog.unfollowed 7) = true := by kernel_rfl
set_option maxRecDepth 100000 in
theorem planFound_f3 : (Rows.planFoundRow.recurses == Tryz.pinned.checked.prog.recurses 7) = true := by kernel_rfl
set_option maxRecDepth 100000 in
theorem planFound_f4 : (Rows.planFoundRow.named == Tryz.pinned.checked.prog.varsNamed 7) = true := by kernel_rfl
set_option maxRecDepth 100000 in
theorem planFound_f5 : Tryz.pinned.checked.prog.funcNamed Rows.planFoundRow.func = some 7 := by kernel_rfl
set_option maxRecDepth 100000 in
theorem planFound_f6 : Tryz.f7.isInstance Tryz.pinned.checked.prog Rows.planFoundRow.origin Rows.planFoundRow.targs := of_decide_eq_true (by kernel_rfl)
set_option maxRecDepth 100000 in
theorem planFound_f7 : Tryz.f7.isWrapper Tryz.pinned.checked.prog Rows.planFoundRow.wrapper Rows.planFoundRow.mainSum := by unfold Func.isWrapper; first | (rw [if_pos (by decide +kernel)]; kernel_rfl) | (rw [if_neg (by decide +kernel)]; exact ⟨rfl, rfl⟩)
set_option maxRecDepth 100000 in
theorem planFound_closed : joinedFacts Tryz.pinned.checked.prog 7 Tryz.f7 Rows.planFoundSpec Rows.planFoundRow = true := by
  unfold joinedFacts
  rw [planFound_f1, planFound_f2, planFound_f3, planFound_f4]
  kernel_rfl
end Go.Proofs.YtcllocdhbicpkaaGreatDoor
