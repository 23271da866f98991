/-
InterestPeriods: the facts of its row that are reckoned from the program, each by itself.
-/
import Derived.Test.YtakoagjpmdcddaaGreatDoorJpRA
namespace Go.Proofs.YtakoagjpmdcddaaGreatDoor

set_option maxRecDepth 100000 in
theorem interestPeriods_f1 : (Rows.interestPeriodsRow.inPlace == Tryz.pinned.checked.prog.inPlace 4) = true := by kernel_rfl
set_option maxRecDepth 100000 in
theorem interestPeriods_f2 : (Rows.interestPeriodsRow.unfollowed == Tryz.pinned.checked.prog.unfollowed 4) = true := by kernel_rfl
set_option maxRecDepth 100000 in
theorem interestPeriods_f3 : (Rows.interestPeriodsRow.recurses == Tryz.pinned.checked.prog.recurses 4) = true := by kernel_rfl
set_option maxRecDepth 100000 in
theorem interestPeriods_f4 : (Rows.interestPeriodsRow.named == Tryz.pinned.checked.prog.varsNamed 4) = true := by kernel_rfl
set_option maxRecDepth 100000 in
theorem interestPeriods_f5 : Tryz.pinned.checked.prog.funcNamed Rows.interestPeriodsRow.func = some 4 := by kernel_rfl
set_option maxRecDepth 100000 in
theorem interestPeriods_f6 : Tryz.f4.isInstance Tryz.pinned.checked.prog Rows.interestPeriodsRow.origin Rows.interestPeriodsRow.targs := of_decide_eq_true (by kernel_rfl)
set_option maxRecDepth 100000 in
theorem interestPeriods_f7 : Tryz.f4.isWrapper Tryz.pinned.checked.prog Rows.interestPeriodsRow.wrapper Rows.interestPeriodsRow.mainSum := by unfold Func.isWrapper; first | (rw [if_pos (by decide +kernel)]; kernel_rfl) | (rw [if_neg (by decide +kernel)]; exact ⟨rfl, rfl⟩)
set_option maxRecDepth 100000 in
theorem interestPeriods_closed : joinedFacts Tryz.pinned.checked.prog 4 Tryz.f4 Rows.interestPeriodsSpec Rows.interestPeriodsRow = true := by
  unfold joinedFacts
  rw [interestPeriods_f1, interestPeriods_f2, interestPeriods_f3, interestPeriods_f4]
  kernel_rfl
end Go.Proofs.YtakoagjpmdcddaaGreatDoor
