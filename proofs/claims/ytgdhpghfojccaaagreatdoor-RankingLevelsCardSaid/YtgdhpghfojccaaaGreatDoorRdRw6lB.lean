/-
RankingLevels: the facts of its row that are reckoned from the program, each by itself.
-/
import Derived.Test.YtgdhpghfojccaaaGreatDoorRdRw6lA
namespace Go.Proofs.YtgdhpghfojccaaaGreatDoor

set_option maxRecDepth 100000 in
theorem b0s : (Rows.rankingLevelsRow.inPlace == Tryz.pinned.checked.prog.inPlace 5) = true := by kernel_rfl
set_option maxRecDepth 100000 in
theorem b0r : (Rows.rankingLevelsRow.unfollowed == Tryz.pinned.checked.prog.unfollowed 5) = true := by kernel_rfl
set_option maxRecDepth 100000 in
theorem b0q : (Rows.rankingLevelsRow.recurses == Tryz.pinned.checked.prog.recurses 5) = true := by kernel_rfl
set_option maxRecDepth 100000 in
theorem b0p : (Rows.rankingLevelsRow.named == Tryz.pinned.checked.prog.varsNamed 5) = true := by kernel_rfl
set_option maxRecDepth 100000 in
theorem b0n : Tryz.pinned.checked.prog.funcNamed Rows.rankingLevelsRow.func = some 5 := by kernel_rfl
set_option maxRecDepth 100000 in
theorem b0m : Tryz.f5.isInstance Tryz.pinned.checked.prog Rows.rankingLevelsRow.origin Rows.rankingLevelsRow.targs := of_decide_eq_true (by kernel_rfl)
set_option maxRecDepth 100000 in
theorem b0k : Tryz.f5.isWrapper Tryz.pinned.checked.prog Rows.rankingLevelsRow.wrapper Rows.rankingLevelsRow.mainSum := by unfold Func.isWrapper; first | (rw [if_pos (by decide +kernel)]; kernel_rfl) | (rw [if_neg (by decide +kernel)]; exact ⟨rfl, rfl⟩)
set_option maxRecDepth 100000 in
theorem a7s : joinedFacts Tryz.pinned.checked.prog 5 Tryz.f5 Rows.rankingLevelsSpec Rows.rankingLevelsRow = true := by
  unfold joinedFacts
  rw [b0s, b0r, b0q, b0p]
  kernel_rfl
end Go.Proofs.YtgdhpghfojccaaaGreatDoor
