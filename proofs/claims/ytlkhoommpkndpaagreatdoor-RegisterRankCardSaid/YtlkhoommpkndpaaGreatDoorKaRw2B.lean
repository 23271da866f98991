/-
RegisterRank: the facts of its row that are reckoned from the program, each by itself.
-/
import Derived.Test.YtlkhoommpkndpaaGreatDoorKaRw2A
namespace Go.Proofs.YtlkhoommpkndpaaGreatDoor

set_option maxRecDepth 100000 in
theorem registerRank_f1 : (Rows.registerRankRow.inPlace == Tryz.pinned.checked.prog.inPlace 11) = true := by kernel_rfl
set_option maxRecDepth 100000 in
theorem registerRank_f2 : (Rows.registerRankRow.unfollowed == Tryz.pinned.checked.prog.unfollowed 11) = true := by kernel_rfl
set_option maxRecDepth 100000 in
theorem registerRank_f3 : (Rows.registerRankRow.recurses == Tryz.pinned.checked.prog.recurses 11) = true := by kernel_rfl
set_option maxRecDepth 100000 in
theorem registerRank_f4 : (Rows.registerRankRow.named == Tryz.pinned.checked.prog.varsNamed 11) = true := by kernel_rfl
set_option maxRecDepth 100000 in
theorem registerRank_f5 : Tryz.pinned.checked.prog.funcNamed Rows.registerRankRow.func = some 11 := by kernel_rfl
set_option maxRecDepth 100000 in
theorem registerRank_f6 : Tryz.f11.isInstance Tryz.pinned.checked.prog Rows.registerRankRow.origin Rows.registerRankRow.targs := of_decide_eq_true (by kernel_rfl)
set_option maxRecDepth 100000 in
theorem registerRank_f7 : Tryz.f11.isWrapper Tryz.pinned.checked.prog Rows.registerRankRow.wrapper Rows.registerRankRow.mainSum := by unfold Func.isWrapper; first | (rw [if_pos (by decide +kernel)]; kernel_rfl) | (rw [if_neg (by decide +kernel)]; exact ⟨rfl, rfl⟩)
set_option maxRecDepth 100000 in
theorem registerRank_closed : joinedFacts Tryz.pinned.checked.prog 11 Tryz.f11 Rows.registerRankSpec Rows.registerRankRow = true := by
  unfold joinedFacts
  rw [registerRank_f1, registerRank_f2, registerRank_f3, registerRank_f4]
  kernel_rfl
end Go.Proofs.YtlkhoommpkndpaaGreatDoor
