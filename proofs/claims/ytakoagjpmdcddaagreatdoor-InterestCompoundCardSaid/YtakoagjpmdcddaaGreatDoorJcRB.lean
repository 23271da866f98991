/-
InterestCompound: the facts of its row that are reckoned from the program, each by itself.
-/
import Derived.Test.YtakoagjpmdcddaaGreatDoorJcRA
namespace Go.Proofs.YtakoagjpmdcddaaGreatDoor

set_option maxRecDepth 100000 in
theorem interestCompound_f1 : (Rows.interestCompoundRow.inPlace == Tryz.pinned.checked.prog.inPlace 3) = true := by kernel_rfl
set_option maxRecDepth 100000 in
theorem interestCompound_f2 : (Rows.interestCompoundRow.unfollowed == Tryz.pinned.checked.prog.unfollowed 3) = true := by kernel_rfl
set_option maxRecDepth 100000 in
theorem interestCompound_f3 : (Rows.interestCompoundRow.recurses == Tryz.pinned.checked.prog.recurses 3) = true := by kernel_rfl
set_option maxRecDepth 100000 in
theorem interestCompound_f4 : (Rows.interestCompoundRow.named == Tryz.pinned.checked.prog.varsNamed 3) = true := by kernel_rfl
set_option maxRecDepth 100000 in
theorem interestCompound_f5 : Tryz.pinned.checked.prog.funcNamed Rows.interestCompoundRow.func = some 3 := by kernel_rfl
set_option maxRecDepth 100000 in
theorem interestCompound_f6 : Tryz.f3.isInstance Tryz.pinned.checked.prog Rows.interestCompoundRow.origin Rows.interestCompoundRow.targs := of_decide_eq_true (by kernel_rfl)
set_option maxRecDepth 100000 in
theorem interestCompound_f7 : Tryz.f3.isWrapper Tryz.pinned.checked.prog Rows.interestCompoundRow.wrapper Rows.interestCompoundRow.mainSum := by unfold Func.isWrapper; first | (rw [if_pos (by decide +kernel)]; kernel_rfl) | (rw [if_neg (by decide +kernel)]; exact ⟨rfl, rfl⟩)
set_option maxRecDepth 100000 in
theorem interestCompound_closed : joinedFacts Tryz.pinned.checked.prog 3 Tryz.f3 Rows.interestCompoundSpec Rows.interestCompoundRow = true := by
  unfold joinedFacts
  rw [interestCompound_f1, interestCompound_f2, interestCompound_f3, interestCompound_f4]
  kernel_rfl
end Go.Proofs.YtakoagjpmdcddaaGreatDoor
