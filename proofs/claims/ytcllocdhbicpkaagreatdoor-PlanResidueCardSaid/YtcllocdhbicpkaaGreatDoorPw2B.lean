/-
PlanResidue: the facts of its row that are reckoned from the program, each by itself.
-/
import Derived.Test.YtcllocdhbicpkaaGreatDoorPw2A
namespace Go.Proofs.YtcllocdhbicpkaaGreatDoor

set_option maxRecDepth 100000 in
theorem planResidue_f1 : (Rows.planResidueRow.inPlace == Tryz.pinned.checked.prog.inPlace 4) = true := by kernel_rfl
set_option maxRecDepth 100000 in
theorem planResidue_f2 : (Rows.planResidueRow.unfollowed == Tryz.pinned.checked.prog.unfollowed 4) = true := by kernel_rfl
set_option maxRecDepth 100000 in
theorem planResidue_f3 : (Rows.planResidueRow.recurses == Tryz.pinned.checked.prog.recurses 4) = true := by kernel_rfl
set_option maxRecDepth 100000 in
theorem planResidue_f4 : (Rows.planResidueRow.named == Tryz.pinned.checked.prog.varsNamed 4) = true := by kernel_rfl
set_option maxRecDepth 100000 in
theorem planResidue_f5 : Tryz.pinned.checked.prog.funcNamed Rows.planResidueRow.func = some 4 := by kernel_rfl
set_option maxRecDepth 100000 in
theorem planResidue_f6 : Tryz.f4.isInstance Tryz.pinned.checked.prog Rows.planResidueRow.origin Rows.planResidueRow.targs := of_decide_eq_true (by kernel_rfl)
set_option maxRecDepth 100000 in
theorem planResidue_f7 : Tryz.f4.isWrapper Tryz.pinned.checked.prog Rows.planResidueRow.wrapper Rows.planResidueRow.mainSum := by unfold Func.isWrapper; first | (rw [if_pos (by decide +kernel)]; kernel_rfl) | (rw [if_neg (by decide +kernel)]; exact ⟨rfl, rfl⟩)
set_option maxRecDepth 100000 in
theorem planResidue_closed : joinedFacts Tryz.pinned.checked.prog 4 Tryz.f4 Rows.planResidueSpec Rows.planResidueRow = true := by
  unfold joinedFacts
  rw [planResidue_f1, planResidue_f2, planResidue_f3, planResidue_f4]
  kernel_rfl
end Go.Proofs.YtcllocdhbicpkaaGreatDoor
