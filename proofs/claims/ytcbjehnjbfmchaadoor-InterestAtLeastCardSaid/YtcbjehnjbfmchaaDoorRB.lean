/-
InterestAtLeast: the facts of its row that are reckoned from the program, each by itself.
-/
import Derived.Test.YtcbjehnjbfmchaaDoorRA
namespace Go.Proofs.YtcbjehnjbfmchaaDoor

set_option maxRecDepth 100000 in
theorem interestAtLeast_f1 : (Rows.interestAtLeastRow.inPlace == Tryd.pinned.checked.prog.inPlace 16) = true := by kernel_rfl
set_option maxRecDepth 100000 in
theorem interestAtLeast_f2 : (Rows.interestAtLeastRow.unfollowed == Tryd.pinned.checked.prog.unfollowed 16) = true := by kernel_rfl
set_option maxRecDepth 100000 in
theorem interestAtLeast_f3 : (Rows.interestAtLeastRow.recurses == Tryd.pinned.checked.prog.recurses 16) = true := by kernel_rfl
set_option maxRecDepth 100000 in
theorem interestAtLeast_f4 : (Rows.interestAtLeastRow.named == Tryd.pinned.checked.prog.varsNamed 16) = true := by kernel_rfl
set_option maxRecDepth 100000 in
theorem interestAtLeast_f5 : Tryd.pinned.checked.prog.funcNamed Rows.interestAtLeastRow.func = some 16 := by kernel_rfl
set_option maxRecDepth 100000 in
theorem interestAtLeast_f6 : Tryd.f16.isInstance Tryd.pinned.checked.prog Rows.interestAtLeastRow.origin Rows.interestAtLeastRow.targs := of_decide_eq_true (by kernel_rfl)
set_option maxRecDepth 100000 in
theorem interestAtLeast_f7 : Tryd.f16.isWrapper Tryd.pinned.checked.prog Rows.interestAtLeastRow.wrapper Rows.interestAtLeastRow.mainSum := by unfold Func.isWrapper; first | (rw [if_pos (by decide +kernel)]; kernel_rfl) | (rw [if_neg (by decide +kernel)]; exact ⟨rfl, rfl⟩)
set_option maxRecDepth 100000 in
theorem interestAtLeast_closed : joinedFacts Tryd.pinned.checked.prog 16 Tryd.f16 Rows.interestAtLeastSpec Rows.interestAtLeastRow = true := by
  unfold joinedFacts
  rw [interestAtLeast_f1, interestAtLeast_f2, interestAtLeast_f3, interestAtLeast_f4]
  kernel_rfl
end Go.Proofs.YtcbjehnjbfmchaaDoor
