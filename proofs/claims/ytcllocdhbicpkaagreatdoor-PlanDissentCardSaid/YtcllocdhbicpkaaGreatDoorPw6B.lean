/-
PlanDissent: the facts of its row that are reckoned from the program, each by itself.
-/
import Derived.Test.YtcllocdhbicpkaaGreatDoorPw6A
namespace Go.Proofs.YtcllocdhbicpkaaGreatDoor

set_option maxRecDepth 100000 in
theorem planDissent_f1 : (Rows.planDissentRow.inPlace == Tryz.pinned.checked.prog.inPlace 8) = true := by kernel_rfl
set_option maxRecDepth 100000 in
theorem planDissent_f2 : (Rows.planDissentRow.unfollowed == Tryz.pinned.checked.prog.unfollowed 8) = true := by kernel_rfl
set_option maxRecDepth 100000 in
theorem planDissent_f3 : (Rows.planDissentRow.recurses == Tryz.pinned.checked.prog.recurses 8) = true := by kernel_rfl
set_option maxRecDepth 100000 in
theorem planDissent_f4 : (Rows.planDissentRow.named == Tryz.pinned.checked.prog.varsNamed 8) = true := by kernel_rfl
set_option maxRecDepth 100000 in
theorem planDissent_f5 : Tryz.pinned.checked.prog.funcNamed Rows.planDissentRow.func = some 8 := by kernel_rfl
set_option maxRecDepth 100000 in
theorem planDissent_f6 : Tryz.f8.isInstance Tryz.pinned.checked.prog Rows.planDissentRow.origin Rows.planDissentRow.targs := of_decide_eq_true (by kernel_rfl)
set_option maxRecDepth 100000 in
theorem planDissent_f7 : Tryz.f8.isWrapper Tryz.pinned.checked.prog Rows.planDissentRow.wrapper Rows.planDissentRow.mainSum := by unfold Func.isWrapper; first | (rw [if_pos (by decide +kernel)]; kernel_rfl) | (rw [if_neg (by decide +kernel)]; exact ⟨rfl, rfl⟩)
set_option maxRecDepth 100000 in
theorem planDissent_closed : joinedFacts Tryz.pinned.checked.prog 8 Tryz.f8 Rows.planDissentSpec Rows.planDissentRow = true := by
  unfold joinedFacts
  rw [planDissent_f1, planDissent_f2, planDissent_f3, planDissent_f4]
  kernel_rfl
end Go.Proofs.YtcllocdhbicpkaaGreatDoor
