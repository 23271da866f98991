/-
RankingCheck: the facts of its row that are reckoned from the program, each by itself.
-/
import Derived.Test.YtbkbiokgfoomfaaGreatDoorRaRw1cA
namespace Go.Proofs.YtbkbiokgfoomfaaGreatDoor

set_option maxRecDepth 100000 in
theorem b0c : (Rows.rankingCheckRow.inPlace == Tryz.pinned.checked.prog.inPlace 3) = true := by kernel_rfl
set_option maxRecDepth 100000 in
theorem b0b : (Rows.rankingCheckRow.unfollowed == Tryz.pinned.checked.prog.unfollowed 3) = true := by kernel_rfl
set_option maxRecDepth 100000 in
theorem b0a : (Rows.rankingCheckRow.recurses == Tryz.pinned.checked.prog.recurses 3) = true := by kernel_rfl
set_option maxRecDepth 100000 in
theorem a9z : (Rows.rankingCheckRow.named == Tryz.pinned.checked.prog.varsNamed 3) = true := by kernel_rfl
set_option maxRecDepth 100000 in
theorem a9y : Tryz.pinned.checked.prog.funcNamed Rows.rankingCheckRow.func = some 3 := by kernel_rfl
set_option maxRecDepth 100000 in
theorem a9x : Tryz.f3.isInstance Tryz.pinned.checked.prog Rows.rankingCheckRow.origin Rows.rankingCheckRow.targs := of_decide_eq_true (by kernel_rfl)
set_option maxRecDepth 100000 in
theorem a9w : Tryz.f3.isWrapper Tryz.pinned.checked.prog Rows.rankingCheckRow.wrapper Rows.rankingCheckRow.mainSum := by unfold Func.isWrapper; first | (rw [if_pos (by decide +kernel)]; kernel_rfl) | (rw [if_neg (by decide +kernel)]; exact ⟨rfl, rfl⟩)
set_option maxRecDepth 100000 in
theorem a6q : joinedFacts Tryz.pinned.checked.prog 3 Tryz.f3 Rows.rankingCheckSpec Rows.rankingCheckRow = true := by
  unfold joinedFacts
  rw [b0c, b0b, b0a, a9z]
  kernel_rfl
end Go.Proofs.YtbkbiokgfoomfaaGreatDoor
