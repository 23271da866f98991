/-
InterestSimple: the facts of its row that are reckoned from the program, each by itself.
-/
import Derived.Test.YtcbjehnjbfmchaaDoorR4
namespace Go.Proofs.YtcbjehnjbfmchaaDoor

set_option maxRecDepth 100000 in
theorem interestSimple_f1 : (Rows.interestSimpleRow.inPlace == Tryd.pinned.checked.prog.inPlace 11) = true := by kernel_rfl
set_option maxRecDepth 100000 in
theorem interestSimple_f2 : (Rows.interestSimpleRow.unfollowed == Tryd.pinned.checked.prog.unfollowed 11) = true := by kernel_rfl
set_option maxRecDepth 100000 in
theorem interestSimple_f3 : (Rows.interestSimpleRow.recurses == Tryd.pinned.checked.prog.recurses 11) = true := by kernel_rfl
set_option maxRecDepth 100000 in
theorem interestSimple_f4 : (Rows.interestSimpleRow.named == Tryd.pinned.checked.prog.varsNamed 11) = true := by kernel_rfl
set_option maxRecDepth 100000 in
theorem interestSimple_f5 : Tryd.pinned.checked.prog.funcNamed Rows.interestSimpleRow.func = some 11 := by kernel_rfl
set_option maxRecDepth 100000 in
theorem interestSimple_f6 : Tryd.f11.isInstance Tryd.pinned.checked.prog Rows.interestSimpleRow.origin Rows.interestSimpleRow.targs := of_decide_eq_true (by kernel_rfl)
set_option maxRecDepth 100000 in
theorem interestSimple_f7 : Tryd.f11.isWrapper Tryd.pinned.checked.prog Rows.interestSimpleRow.wrapper Rows.interestSimpleRow.mainSum := by unfold Func.isWrapper; first | (rw [if_pos (by decide +kernel)]; kernel_rfl) | (rw [if_neg (by decide +kernel)]; exact ⟨rfl, rfl⟩)
set_option maxRecDepth 100000 in
theorem interestSimple_closed : joinedFacts Tryd.pinned.checked.prog 11 Tryd.f11 Rows.interestSimpleSpec Rows.interestSimpleRow = true := by
  unfold joinedFacts
  rw [interestSimple_f1, interestSimple_f2, interestSimple_f3, interestSimple_f4]
  kernel_rfl
end Go.Proofs.YtcbjehnjbfmchaaDoor
