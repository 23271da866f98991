/-
RankingMany: the facts of its row that are reckoned from the program, each by itself.
-/
import Derived.Test.YtgdhpghfojccaaaDoorReRw7mA
namespace Go.Proofs.YtgdhpghfojccaaaDoor

set_option maxRecDepth 100000 in
theorem b0j : (Rows.rankingManyRow.inPlace == Tryd.pinned.checked.prog.inPlace 3) = true := by kernel_rfl
set_option maxRecDepth 100000 in
theorem b0h : (Rows.rankingManyRow.unfollowed == Tryd.pinned.checked.prog.unfollowed 3) = true := by kernel_rfl
set_option maxRecDepth 100000 in
theorem b0g : (Rows.rankingManyRow.recurses == Tryd.pinned.checked.prog.recurses 3) = true := by kernel_rfl
set_option maxRecDepth 100000 in
theorem b0f : (Rows.rankingManyRow.named == Tryd.pinned.checked.prog.varsNamed 3) = true := by kernel_rfl
set_option maxRecDepth 100000 in
theorem b0e : Tryd.pinned.checked.prog.funcNamed Rows.rankingManyRow.func = some 3 := by kernel_rfl
set_option maxRecDepth 100000 in
theorem b0d : Tryd.f3.isInstance Tryd.pinned.checked.prog Rows.rankingManyRow.origin Rows.rankingManyRow.targs := of_decide_eq_true (by kernel_rfl)
set_option maxRecDepth 100000 in
theorem b0c : Tryd.f3.isWrapper Tryd.pinned.checked.prog Rows.rankingManyRow.wrapper Rows.rankingManyRow.mainSum := by unfold Func.isWrapper; first | (rw [if_pos (by decide +kernel)]; kernel_rfl) | (rw [if_neg (by decide +kernel)]; exact ⟨rfl, rfl⟩)
set_option maxRecDepth 100000 in
theorem a6f : joinedFacts Tryd.pinned.checked.prog 3 Tryd.f3 Rows.rankingManySpec Rows.rankingManyRow = true := by
  unfold joinedFacts
  rw [b0j, b0h, b0g, b0f]
  kernel_rfl
end Go.Proofs.YtgdhpghfojccaaaDoor
