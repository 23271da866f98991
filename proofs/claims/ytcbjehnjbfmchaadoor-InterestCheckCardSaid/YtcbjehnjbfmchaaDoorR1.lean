/-
InterestCheck: the facts of its row that are reckoned from the program, each by itself.
-/
import Derived.Test.YtcbjehnjbfmchaaDoorR0
namespace Go.Proofs.YtcbjehnjbfmchaaDoor

set_option maxRecDepth 100000 in
theorem interestCheck_f1 : (Rows.interestCheckRow.inPlace == Tryd.pinned.checked.prog.inPlace 10) = true := by kernel_rfl
set_option maxRecDepth 100000 in
theorem interestCheck_f2 : (Rows.interestCheckRow.unfollowed == Tryd.pinned.checked.prog.unfollowed 10) = true := by kernel_rfl
set_option maxRecDepth 100000 in
theorem interestCheck_f3 : (Rows.interestCheckRow.recurses == Tryd.pinned.checked.prog.recurses 10) = true := by kernel_rfl
set_option maxRecDepth 100000 in
theorem interestCheck_f4 : (Rows.interestCheckRow.named == Tryd.pinned.checked.prog.varsNamed 10) = true := by kernel_rfl
set_option maxRecDepth 100000 in
theorem interestCheck_f5 : Tryd.pinned.checked.prog.funcNamed Rows.interestCheckRow.func = some 10 := by kernel_rfl
set_option maxRecDepth 100000 in
theorem interestCheck_f6 : Tryd.f10.isInstance Tryd.pinned.checked.prog Rows.interestCheckRow.origin Rows.interestCheckRow.targs := of_decide_eq_true (by kernel_rfl)
set_option maxRecDepth 100000 in
theorem interestCheck_f7 : Tryd.f10.isWrapper Tryd.pinned.checked.prog Rows.interestCheckRow.wrapper Rows.interestCheckRow.mainSum := by unfold Func.isWrapper; first | (rw [if_pos (by decide +kernel)]; kernel_rfl) | (rw [if_neg (by decide +kernel)]; exact ⟨rfl, rfl⟩)
set_option maxRecDepth 100000 in
theorem interestCheck_closed : joinedFacts Tryd.pinned.checked.prog 10 Tryd.f10 Rows.interestCheckSpec Rows.interestCheckRow = true := by
  unfold joinedFacts
  rw [interestCheck_f1, interestCheck_f2, interestCheck_f3, interestCheck_f4]
  kernel_rfl
end Go.Proofs.YtcbjehnjbfmchaaDoor
