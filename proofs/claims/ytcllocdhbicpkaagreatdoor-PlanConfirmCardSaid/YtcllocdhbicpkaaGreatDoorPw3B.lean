/-
PlanConfirm: the facts of its row that are reckoned from the program, each by itself.
-/
import Derived.Test.YtcllocdhbicpkaaGreatDoorPw3A
namespace Go.Proofs.YtcllocdhbicpkaaGreatDoor

set_option maxRecDepth 100000 in
theorem planConfirm_f1 : (Rows.planConfirmRow.inPlace == Tryz.pinned.checked.prog.inPlace 5) = true := by kernel_rfl
set_option maxRecDepth 100000 in
theorem planConfirm_f2 : (Rows.planConfirmRow.unfollowed == Tryz.pinned.checked.prog.unfollowed 5) = true := by kernel_rfl
set_option maxRecDepth 100000 in
theorem planConfirm_f3 : (Rows.planConfirmRow.recurses == Tryz.pinned.checked.prog.recurses 5) = true := by kernel_rfl
set_option maxRecDepth 100000 in
theorem planConfirm_f4 : (Rows.planConfirmRow.named == Tryz.pinned.checked.prog.varsNamed 5) = true := by kernel_rfl
set_option maxRecDepth 100000 in
theorem planConfirm_f5 : Tryz.pinned.checked.prog.funcNamed Rows.planConfirmRow.func = some 5 := by kernel_rfl
set_option maxRecDepth 100000 in
theorem planConfirm_f6 : Tryz.f5.isInstance Tryz.pinned.checked.prog Rows.planConfirmRow.origin Rows.planConfirmRow.targs := of_decide_eq_true (by kernel_rfl)
set_option maxRecDepth 100000 in
theorem planConfirm_f7 : Tryz.f5.isWrapper Tryz.pinned.checked.prog Rows.planConfirmRow.wrapper Rows.planConfirmRow.mainSum := by unfold Func.isWrapper; first | (rw [if_pos (by decide +kernel)]; kernel_rfl) | (rw [if_neg (by decide +kernel)]; exact ⟨rfl, rfl⟩)
set_option maxRecDepth 100000 in
theorem planConfirm_closed : joinedFacts Tryz.pinned.checked.prog 5 Tryz.f5 Rows.planConfirmSpec Rows.planConfirmRow = true := by
  unfold joinedFacts
  rw [planConfirm_f1, planConfirm_f2, planConfirm_f3, planConfirm_f4]
  kernel_rfl
end Go.Proofs.YtcllocdhbicpkaaGreatDoor
