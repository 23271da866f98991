/-
VoteAccepts: the facts of its row that are reckoned from the program, each by itself.
-/
import Derived.Test.YtakoagjpmdcddaaGreatDoorVaRA
namespace Go.Proofs.YtakoagjpmdcddaaGreatDoor

set_option maxRecDepth 100000 in
theorem voteAccepts_f1 : (Rows.voteAcceptsRow.inPlace == Tryz.pinned.checked.prog.inPlace 7) = true := by kernel_rfl
set_option maxRecDepth 100000 in
theorem voteAccepts_f2 : (Rows.voteAcceptsRow.unfollowed == Tryz.pinned.checked.prog.unfollowed 7) = true := by kernel_rfl
set_option maxRecDepth 100000 in
theorem voteAccepts_f3 : (Rows.voteAcceptsRow.recurses == Tryz.pinned.checked.prog.recurses 7) = true := by kernel_rfl
set_option maxRecDepth 100000 in
theorem voteAccepts_f4 : (Rows.voteAcceptsRow.named == Tryz.pinned.checked.prog.varsNamed 7) = true := by kernel_rfl
set_option maxRecDepth 100000 in
theorem voteAccepts_f5 : Tryz.pinned.checked.prog.funcNamed Rows.voteAcceptsRow.func = some 7 := by kernel_rfl
set_option maxRecDepth 100000 in
theorem voteAccepts_f6 : Tryz.f7.isInstance Tryz.pinned.checked.prog Rows.voteAcceptsRow.origin Rows.voteAcceptsRow.targs := of_decide_eq_true (by kernel_rfl)
set_option maxRecDepth 100000 in
theorem voteAccepts_f7 : Tryz.f7.isWrapper Tryz.pinned.checked.prog Rows.voteAcceptsRow.wrapper Rows.voteAcceptsRow.mainSum := by unfold Func.isWrapper; first | (rw [if_pos (by decide +kernel)]; kernel_rfl) | (rw [if_neg (by decide +kernel)]; exact ⟨rfl, rfl⟩)
set_option maxRecDepth 100000 in
theorem voteAccepts_closed : joinedFacts Tryz.pinned.checked.prog 7 Tryz.f7 Rows.voteAcceptsSpec Rows.voteAcceptsRow = true := by
  unfold joinedFacts
  rw [voteAccepts_f1, voteAccepts_f2, voteAccepts_f3, voteAccepts_f4]
  kernel_rfl
end Go.Proofs.YtakoagjpmdcddaaGreatDoor
