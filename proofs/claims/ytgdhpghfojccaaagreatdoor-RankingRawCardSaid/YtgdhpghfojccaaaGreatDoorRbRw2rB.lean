/-
RankingRaw: the facts of its row that are reckoned from the program, each by itself.
-/
import Derived.Test.YtgdhpghfojccaaaGreatDoorRbRw2rA
namespace Go.Proofs.YtgdhpghfojccaaaGreatDoor

set_option maxRecDepth 100000 in
theorem b8j : (Rows.rankingRawRow.inPlace == Tryz.pinned.checked.prog.inPlace 3) = true := by kernel_rfl
set_option maxRecDepth 100000 in
theorem b8h : (Rows.rankingRawRow.unfollowed == Tryz.pinned.checked.prog.unfollowed 3) = true := by kernel_rfl
set_option maxRecDepth 100000 in
theorem b8g : (Rows.rankingRawRow.recurses == Tryz.pinned.checked.prog.recurses 3) = true := by kernel_rfl
set_option maxRecDepth 100000 in
theorem b8f : (Rows.rankingRawRow.named == Tryz.pinned.checked.prog.varsNamed 3) = true := by kernel_rfl
set_option maxRecDepth 100000 in
theorem b8e : Tryz.pinned.checked.prog.funcNamed Rows.rankingRawRow.func = some 3 := by kernel_rfl
set_option maxRecDepth 100000 in
theorem b8d : Tryz.f3.isInstance Tryz.pinned.checked.prog Rows.rankingRawRow.origin Rows.rankingRawRow.targs := of_decide_eq_true (by kernel_rfl)
set_option maxRecDepth 100000 in
theorem b8c : Tryz.f3.isWrapper Tryz.pinned.checked.prog Rows.rankingRawRow.wrapper Rows.rankingRawRow.mainSum := by unfold Func.isWrapper; first | (rw [if_pos (by decide +kernel)]; kernel_rfl) | (rw [if_neg (by decide +kernel)]; exact ⟨rfl, rfl⟩)
set_option maxRecDepth 100000 in
theorem b0t : joinedFacts Tryz.pinned.checked.prog 3 Tryz.f3 Rows.rankingRawSpec Rows.rankingRawRow = true := by
  unfold joinedFacts
  rw [b8j, b8h, b8g, b8f]
  kernel_rfl
end Go.Proofs.YtgdhpghfojccaaaGreatDoor
