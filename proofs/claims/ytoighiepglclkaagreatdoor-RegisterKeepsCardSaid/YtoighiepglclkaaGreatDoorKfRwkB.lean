/-
RegisterKeeps: the facts of its row that are reckoned from the program, each by itself.
-/
import Derived.Test.YtoighiepglclkaaGreatDoorKfRwkA
namespace Go.Proofs.YtoighiepglclkaaGreatDoor

set_option maxRecDepth 100000 in
theorem b4j : (Rows.registerKeepsRow.inPlace == Tryz.pinned.checked.prog.inPlace 3) = true := by kernel_rfl
set_option maxRecDepth 100000 in
theorem b4h : (Rows.registerKeepsRow.unfollowed == Tryz.pinned.checked.prog.unfollowed 3) = true := by kernel_rfl
set_option maxRecDepth 100000 in
theorem b4g : (Rows.registerKeepsRow.recurses == Tryz.pinned.checked.prog.recurses 3) = true := by kernel_rfl
set_option maxRecDepth 100000 in
theorem b4f : (Rows.registerKeepsRow.named == Tryz.pinned.checked.prog.varsNamed 3) = true := by kernel_rfl
set_option maxRecDepth 100000 in
theorem b4e : Tryz.pinned.checked.prog.funcNamed Rows.registerKeepsRow.func = some 3 := by kernel_rfl
set_option maxRecDepth 100000 in
theorem b4d : Tryz.f3.isInstance Tryz.pinned.checked.prog Rows.registerKeepsRow.origin Rows.registerKeepsRow.targs := of_decide_eq_true (by kernel_rfl)
set_option maxRecDepth 100000 in
theorem b4c : Tryz.f3.isWrapper Tryz.pinned.checked.prog Rows.registerKeepsRow.wrapper Rows.registerKeepsRow.mainSum := by unfold Func.isWrapper; first | (rw [if_pos (by decide +kernel)]; kernel_rfl) | (rw [if_neg (by decide +kernel)]; exact ⟨rfl, rfl⟩)
set_option maxRecDepth 100000 in
theorem b0r : joinedFacts Tryz.pinned.checked.prog 3 Tryz.f3 Rows.registerKeepsSpec Rows.registerKeepsRow = true := by
  unfold joinedFacts
  rw [b4j, b4h, b4g, b4f]
  kernel_rfl
end Go.Proofs.YtoighiepglclkaaGreatDoor
