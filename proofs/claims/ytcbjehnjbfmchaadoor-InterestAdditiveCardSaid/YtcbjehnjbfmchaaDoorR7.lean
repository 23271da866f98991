/-
InterestAdditive: the facts of its row that are reckoned from the program, each by itself.
-/
import Derived.Test.YtcbjehnjbfmchaaDoorR6
namespace Go.Proofs.YtcbjehnjbfmchaaDoor

set_option maxRecDepth 100000 in
theorem interestAdditive_f1 : (Rows.interestAdditiveRow.inPlace == Tryd.pinned.checked.prog.inPlace 12) = true := by kernel_rfl
set_option maxRecDepth 100000 in
theorem interestAdditive_f2 : (Rows.interestAdditiveRow.unfollowed == Tryd.pinned.checked.prog.unfollowed 12) = true := by kernel_rfl
set_option maxRecDepth 100000 in
theorem interestAdditive_f3 : (Rows.interestAdditiveRow.recurses == Tryd.pinned.checked.prog.recurses 12) = true := by kernel_rfl
set_option maxRecDepth 100000 in
theorem interestAdditive_f4 : (Rows.interestAdditiveRow.named == Tryd.pinned.checked.prog.varsNamed 12) = true := by kernel_rfl
set_option maxRecDepth 100000 in
theorem interestAdditive_f5 : Tryd.pinned.checked.prog.funcNamed Rows.interestAdditiveRow.func = some 12 := by kernel_rfl
set_option maxRecDepth 100000 in
theorem interestAdditive_f6 : Tryd.f12.isInstance Tryd.pinned.checked.prog Rows.interestAdditiveRow.origin Rows.interestAdditiveRow.targs := of_decide_eq_true (by kernel_rfl)
set_option maxRecDepth 100000 in
theorem interestAdditive_f7 : Tryd.f12.isWrapper Tryd.pinned.checked.prog Rows.interestAdditiveRow.wrapper Rows.interestAdditiveRow.mainSum := by unfold Func.isWrapper; first | (rw [if_pos (by decide +kernel)]; kernel_rfl) | (rw [if_neg (by decide +kernel)]; exact ⟨rfl, rfl⟩)
set_option maxRecDepth 100000 in
theorem interestAdditive_closed : joinedFacts Tryd.pinned.checked.prog 12 Tryd.f12 Rows.interestAdditiveSpec Rows.interestAdditiveRow = true := by
  unfold joinedFacts
  rw [interestAdditive_f1, interestAdditive_f2, interestAdditive_f3, interestAdditive_f4]
  kernel_rfl
end Go.Proofs.YtcbjehnjbfmchaaDoor
