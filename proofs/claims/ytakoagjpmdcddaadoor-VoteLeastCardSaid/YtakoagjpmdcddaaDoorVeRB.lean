/-
VoteLeast: the facts of its row that are reckoned from the program, each by itself.
-/
import Derived.Test.YtakoagjpmdcddaaDoorVeRA
namespace Go.Proofs.YtakoagjpmdcddaaDoor

set_option maxRecDepth 100000 in
theorem voteLeast_f1 : (Rows.voteLeastRow.inPlace == Tryd.pinned.checked.prog.inPlace 4) = true := by kernel_rfl
set_option maxRecDepth 100000 in
theorem voteLeast_f2 : (Rows.voteLeastRow.unfollowed == Tryd.pinned.checked.prog.unfollowed 4) = true := by kernel_rfl
set_option maxRecDepth 100000 in
theorem voteLeast_f3 : (Rows.voteLeastRow.recurses == Tryd.pinned.checked.prog.recurses 4) = true := by kernel_rfl
set_option maxRecDepth 100000 in
theorem voteLeast_f4 : (Rows.voteLeastRow.named == Tryd.pinned.checked.prog.varsNamed 4) = true := by kernel_rfl
set_option maxRecDepth 100000 in
theorem voteLeast_f5 : Tryd.pinned.checked.prog.funcNamed Rows.voteLeastRow.func = some 4 := by kernel_rfl
set_option maxRecDepth 100000 in
theorem voteLeast_f6 : Tryd.f4.isInstance Tryd.pinned.checked.prog Rows.voteLeastRow.origin Rows.voteLeastRow.targs := of_decide_eq_true (by kernel_rfl)
set_option maxRecDepth 100000 in
theorem voteLeast_f7 : Tryd.f4.isWrapper Tryd.pinned.checked.prog Rows.voteLeastRow.wrapper Rows.voteLeastRow.mainSum := by unfold Func.isWrapper; first | (rw [if_pos (by decide +kernel)]; kernel_rfl) | (rw [if_neg (by decide +kernel)]; exact ⟨rfl, rfl⟩)
set_option maxRecDepth 100000 in
theorem voteLeast_closed : joinedFacts Tryd.pinned.checked.prog 4 Tryd.f4 Rows.voteLeastSpec Rows.voteLeastRow = true := by
  unfold joinedFacts
  rw [voteLeast_f1, voteLeast_f2, voteLeast_f3, voteLeast_f4]
  kernel_rfl
end Go.Proofs.YtakoagjpmdcddaaDoor
