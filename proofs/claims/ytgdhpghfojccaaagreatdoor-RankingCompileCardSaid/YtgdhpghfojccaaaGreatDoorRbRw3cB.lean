/-
RankingCompile: the facts of its row that are reckoned from the program, each by itself.
-/
import Derived.Test.YtgdhpghfojccaaaGreatDoorRbRw3cA
namespace Go.Proofs.YtgdhpghfojccaaaGreatDoor

set_option maxRecDepth 100000 in
theorem b1a : (Rows.rankingCompileRow.inPlace == Tryz.pinned.checked.prog.inPlace 4) = true := by kernel_rfl
set_option maxRecDepth 100000 in
theorem b0z : (Rows.rankingCompileRow.unfollowed == Tryz.pinned.checked.prog.unfollowed 4) = true := by kernel_rfl
set_option maxRecDepth 100000 in
theorem b0y : (Rows.rankingCompileRow.recurses == Tryz.pinned.checked.prog.recurses 4) = true := by kernel_rfl
set_option maxRecDepth 100000 in
theorem b0x : (Rows.rankingCompileRow.named == Tryz.pinned.checked.prog.varsNamed 4) = true := by kernel_rfl
set_option maxRecDepth 100000 in
theorem b0w : Tryz.pinned.checked.prog.funcNamed Rows.rankingCompileRow.func = some 4 := by kernel_rfl
set_option maxRecDepth 100000 in
theorem b0v : Tryz.f4.isInstance Tryz.pinned.checked.prog Rows.rankingCompileRow.origin Rows.rankingCompileRow.targs := of_decide_eq_true (by kernel_rfl)
set_option maxRecDepth 100000 in
theorem b0u : Tryz.f4.isWrapper Tryz.pinned.checked.prog Rows.rankingCompileRow.wrapper Rows.rankingCompileRow.mainSum := by unfold Func.isWrapper; first | (rw [if_pos (by decide +kernel)]; kernel_rfl) | (rw [if_neg (by decide +kernel)]; exact ⟨rfl, rfl⟩)
set_option maxRecDepth 100000 in
theorem a7f : joinedFacts Tryz.pinned.checked.prog 4 Tryz.f4 Rows.rankingCompileSpec Rows.rankingCompileRow = true := by
  unfold joinedFacts
  rw [b1a, b0z, b0y, b0x]
  kernel_rfl
end Go.Proofs.YtgdhpghfojccaaaGreatDoor
