/-
RegisterRaw: the facts of its row that are reckoned from the program, each by itself.
-/
import Derived.Test.YtlkhoommpkndpaaGreatDoorKhRw9A
namespace Go.Proofs.YtlkhoommpkndpaaGreatDoor

set_option maxRecDepth 100000 in
theorem b6t : (Rows.registerRawRow.inPlace == Tryz.pinned.checked.prog.inPlace 12) = true := by kernel_rfl
set_option maxRecDepth 100000 in
theorem b6s : (Rows.registerRawRow.unfollowed == Tryz.pinned.checked.prog.unfollowed 12) = true := by kernel_rfl
set_option maxRecDepth 100000 in
theorem b6r : (Rows.registerRawRow.recurses == Tryz.pinned.checked.prog.recurses 12) = true := by kernel_rfl
set_option maxRecDepth 100000 in
theorem b6q : (Rows.registerRawRow.named == Tryz.pinned.checked.prog.varsNamed 12) = true := by kernel_rfl
set_option maxRecDepth 100000 in
theorem b6p : Tryz.pinned.checked.prog.funcNamed Rows.registerRawRow.func = some 12 := by kernel_rfl
set_option maxRecDepth 100000 in
theorem b6n : Tryz.f12.isInstance Tryz.pinned.checked.prog Rows.registerRawRow.origin Rows.registerRawRow.targs := of_decide_eq_true (by kernel_rfl)
set_option maxRecDepth 100000 in
theorem b6m : Tryz.f12.isWrapper Tryz.pinned.checked.prog Rows.registerRawRow.wrapper Rows.registerRawRow.mainSum := by unfold Func.isWrapper; first | (rw [if_pos (by decide +kernel)]; kernel_rfl) | (rw [if_neg (by decide +kernel)]; exact ⟨rfl, rfl⟩)
set_option maxRecDepth 100000 in
theorem b1b : joinedFacts Tryz.pinned.checked.prog 12 Tryz.f12 Rows.registerRawSpec Rows.registerRawRow = true := by
  unfold joinedFacts
  rw [b6t, b6s, b6r, b6q]
  kernel_rfl
end Go.Proofs.YtlkhoommpkndpaaGreatDoor
