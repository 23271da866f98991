/-
PlanCheck: the facts of its row that are reckoned from the program, each by itself.
-/
import Derived.Test.YtcllocdhbicpkaaGreatDoorPw1A
namespace Go.Proofs.YtcllocdhbicpkaaGreatDoor

set_option maxRecDepth 100000 in
theorem planCheck_f1 : (Rows.planCheckRow.inPlace == Tryz.pinned.checked.prog.inPlace 3) = true := by kernel_rfl
set_option maxRecDepth 100000 in
theorem planCheck_f2 : (Rows.planCheckRow.unfollowed == Tryz.pinned.checked.prog.unfollowed 3) = true := by kernel_rfl
set_option maxRecDepth 100000 in
theorem planCheck_f3 : (Rows.planCheckRow.recurses == Tryz.pinned.checked.prog.recurses 3) = true := by kernel_rfl
set_option maxRecDepth 100000 in
theorem planCheck_f4 : (Rows.planCheckRow.named == Tryz.pinned.checked.prog.varsNamed 3) = true := by kernel_rfl
set_option maxRecDepth 100000 in
theorem planCheck_f5 : Tryz.pinned.checked.prog.funcNamed Rows.planCheckRow.func = some 3 := by kernel_rfl
set_option maxRecDepth 100000 in
theorem planCheck_f6 : Tryz.f3.isInstance Tryz.pinned.checked.prog Rows.planCheckRow.origin Rows.planCheckRow.targs := of_decide_eq_true (by kernel_rfl)
set_option maxRecDepth 100000 in
theorem planCheck_f7 : Tryz.f3.isWrapper Tryz.pinned.checked.prog Rows.planCheckRow.wrapper Rows.planCheckRow.mainSum := by unfold Func.isWrapper; first | (rw [if_pos (by decide +kernel)]; kernel_rfl) | (rw [if_neg (by decide +kernel)]; exact ⟨rfl, rfl⟩)
set_option maxRecDepth 100000 in
theorem planCheck_closed : joinedFacts Tryz.pinned.checked.prog 3 Tryz.f3 Rows.planCheckSpec Rows.planCheckRow = true := by
  unfold joinedFacts
  rw [planCheck_f1, planCheck_f2, planCheck_f3, planCheck_f4]
  kernel_rfl
end Go.Proofs.YtcllocdhbicpkaaGreatDoor
