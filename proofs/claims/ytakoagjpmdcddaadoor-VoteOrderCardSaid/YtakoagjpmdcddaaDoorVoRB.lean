/-
VoteOrder: the facts of its row that are reckoned from the program, each by itself.
-/
import Derived.Test.YtakoagjpmdcddaaDoorVoRA
namespace Go.Proofs.YtakoagjpmdcddaaDoor

set_option maxRecDepth 100000 in
theorem voteOrder_f1 : (Rows.voteOrderRow.inPlace == Tryd.pinned.checked.prog.inPlace 5) = true := by kernel_rfl
set_option maxRecDepth 100000 in
theorem voteOrder_f2 : (Rows.voteOrderRow.unfollowed == Tryd.pinned.checked.prog.unfollowed 5) = true := by kernel_rfl
set_option maxRecDepth 100000 in
theorem voteOrder_f3 : (Rows.voteOrderRow.recurses == Tryd.pinned.checked.prog.recurses 5) = true := by kernel_rfl
set_option maxRecDepth 100000 in
theorem voteOrder_f4 : (Rows.voteOrderRow.named == Tryd.pinned.checked.prog.varsNamed 5) = true := by kernel_rfl
set_option maxRecDepth 100000 in
theorem voteOrder_f5 : Tryd.pinned.checked.prog.funcNamed Rows.voteOrderRow.func = some 5 := by kernel_rfl
set_option maxRecDepth 100000 in
theorem voteOrder_f6 : Tryd.f5.isInstance Tryd.pinned.checked.prog Rows.voteOrderRow.origin Rows.voteOrderRow.targs := of_decide_eq_true (by kernel_rfl)
set_option maxRecDepth 100000 in
theorem voteOrder_f7 : Tryd.f5.isWrapper Tryd.pinned.checked.prog Rows.voteOrderRow.wrapper Rows.voteOrderRow.mainSum := by unfold Func.isWrapper; first | (rw [if_pos (by decide +kernel)]; kernel_rfl) | (rw [if_neg (by decide +kernel)]; exact ⟨rfl, rfl⟩)
set_option maxRecDepth 100000 in
theorem voteOrder_closed : joinedFacts Tryd.pinned.checked.prog 5 Tryd.f5 Rows.voteOrderSpec Rows.voteOrderRow = true := by
  unfold joinedFacts
  rw [voteOrder_f1, voteOrder_f2, voteOrder_f3, voteOrder_f4]
  kernel_rfl
end Go.Proofs.YtakoagjpmdcddaaDoor
