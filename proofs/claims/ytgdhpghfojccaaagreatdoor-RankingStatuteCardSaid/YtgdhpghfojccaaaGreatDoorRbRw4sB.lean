/-
RankingStatute: the facts of its row that are reckoned from the program, each by itself.
-/
import Derived.Test.YtgdhpghfojccaaaGreatDoorRbRw4sA
namespace Go.Proofs.YtgdhpghfojccaaaGreatDoor

set_option maxRecDepth 100000 in
theorem b0s : (Rows.rankingStatuteRow.inPlace == Tryz.pinned.checked.prog.inPlace 7) = true := by kernel_rfl
set_option maxRecDepth 100000 in
theorem b0r : (Rows.rankingStatuteRow.unfollowed == Tryz.pinned.checked.prog.unfollowed 7) = true := by kernel_rfl
set_option maxRecDepth 100000 in
theorem b0q : (Rows.rankingStatuteRow.recurses == Tryz.pinned.checked.prog.recurses 7) = true := by kernel_rfl
set_option maxRecDepth 100000 in
theorem b0p : (Rows.rankingStatuteRow.named == Tryz.pinned.checked.prog.varsNamed 7) = true := by kernel_rfl
set_option maxRecDepth 100000 in
theorem b0n : Tryz.pinned.checked.prog.funcNamed Rows.rankingStatuteRow.func = some 7 := by kernel_rfl
set_option maxRecDepth 100000 in
theorem b0m : Tryz.f7.isInstance Tryz.pinned.checked.prog Rows.rankingStatuteRow.origin Rows.rankingStatuteRow.targs := of_decide_eq_true (by kernel_rfl)
set_option maxRecDepth 100000 in
theorem b0k : Tryz.f7.isWrapper Tryz.pinned.checked.prog Rows.rankingStatuteRow.wrapper Rows.rankingStatuteRow.mainSum := by unfold Func.isWrapper; first | (rw [if_pos (by decide +kernel)]; kernel_rfl) | (rw [if_neg (by decide +kernel)]; exact ⟨rfl, rfl⟩)
set_option maxRecDepth 100000 in
theorem a7e : joinedFacts Tryz.pinned.checked.prog 7 Tryz.f7 Rows.rankingStatuteSpec Rows.rankingStatuteRow = true := by
  unfold joinedFacts
  rw [b0s, b0r, b0q, b0p]
  kernel_rfl
end Go.Proofs.YtgdhpghfojccaaaGreatDoor
