/-
PlanSearch: the facts of its row that are reckoned from the program, each by itself.
-/
import Derived.Test.YtcllocdhbicpkaaGreatDoorPw4A
namespace Go.Proofs.YtcllocdhbicpkaaGreatDoor

set_option maxRecDepth 100000 in
theorem planSearch_f1 : (Rows.planSearchRow.inPlace == Tryz.pinned.checked.prog.inPlace 6) = true := by kernel_rfl
set_option maxRecDepth 100000 in
theorem planSearch_f2 : (Rows.planSearchRow.unfollowed == Tryz.pinned.checked.prog.unfollowed 6) = true := by kernel_rfl
set_option maxRecDepth 100000 in
theorem planSearch_f3 : (Rows.planSearchRow.recurses == Tryz.pinned.checked.prog.recurses 6) = true := by kernel_rfl
set_option maxRecDepth 100000 in
theorem planSearch_f4 : (Rows.planSearchRow.named == Tryz.pinned.checked.prog.varsNamed 6) = true := by kernel_rfl
set_option maxRecDepth 100000 in
theorem planSearch_f5 : Tryz.pinned.checked.prog.funcNamed Rows.planSearchRow.func = some 6 := by kernel_rfl
set_option maxRecDepth 100000 in
theorem planSearch_f6 : Tryz.f6.isInstance Tryz.pinned.checked.prog Rows.planSearchRow.origin Rows.planSearchRow.targs := of_decide_eq_true (by kernel_rfl)
set_option maxRecDepth 100000 in
theorem planSearch_f7 : Tryz.f6.isWrapper Tryz.pinned.checked.prog Rows.planSearchRow.wrapper Rows.planSearchRow.mainSum := by unfold Func.isWrapper; first | (rw [if_pos (by decide +kernel)]; kernel_rfl) | (rw [if_neg (by decide +kernel)]; exact ⟨rfl, rfl⟩)
set_option maxRecDepth 100000 in
theorem planSearch_closed : joinedFacts Tryz.pinned.checked.prog 6 Tryz.f6 Rows.planSearchSpec Rows.planSearchRow = true := by
  unfold joinedFacts
  rw [planSearch_f1, planSearch_f2, planSearch_f3, planSearch_f4]
  kernel_rfl
end Go.Proofs.YtcllocdhbicpkaaGreatDoor
