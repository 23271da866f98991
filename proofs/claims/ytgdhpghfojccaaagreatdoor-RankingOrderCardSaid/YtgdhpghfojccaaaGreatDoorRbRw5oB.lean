/-
RankingOrder: the facts of its row that are reckoned from the program, each by itself.
-/
import Derived.Test.YtgdhpghfojccaaaGreatDoorRbRw5oA
namespace Go.Proofs.YtgdhpghfojccaaaGreatDoor

set_option maxRecDepth 100000 in
theorem b4d : (Rows.rankingOrderRow.inPlace == Tryz.pinned.checked.prog.inPlace 6) = true := by kernel_rfl
set_option maxRecDepth 100000 in
theorem b4c : (Rows.rankingOrderRow.unfollowed == Tryz.pinned.checked.prog.unfollowed 6) = true := by kernel_rfl
set_option maxRecDepth 100000 in
theorem b4b : (Rows.rankingOrderRow.recurses == Tryz.pinned.checked.prog.recurses 6) = true := by kernel_rfl
set_option maxRecDepth 100000 in
theorem b4a : (Rows.rankingOrderRow.named == Tryz.pinned.checked.prog.varsNamed 6) = true := by kernel_rfl
set_option maxRecDepth 100000 in
theorem b3z : Tryz.pinned.checked.prog.funcNamed Rows.rankingOrderRow.func = some 6 := by kernel_rfl
set_option maxRecDepth 100000 in
theorem b3y : Tryz.f6.isInstance Tryz.pinned.checked.prog Rows.rankingOrderRow.origin Rows.rankingOrderRow.targs := of_decide_eq_true (by kernel_rfl)
set_option maxRecDepth 100000 in
theorem b3x : Tryz.f6.isWrapper Tryz.pinned.checked.prog Rows.rankingOrderRow.wrapper Rows.rankingOrderRow.mainSum := by unfold Func.isWrapper; first | (rw [if_pos (by decide +kernel)]; kernel_rfl) | (rw [if_neg (by decide +kernel)]; exact ⟨rfl, rfl⟩)
set_option maxRecDepth 100000 in
theorem a8w : joinedFacts Tryz.pinned.checked.prog 6 Tryz.f6 Rows.rankingOrderSpec Rows.rankingOrderRow = true := by
  unfold joinedFacts
  rw [b4d, b4c, b4b, b4a]
  kernel_rfl
end Go.Proofs.YtgdhpghfojccaaaGreatDoor
