/-
InterestSums: the facts of its row that are reckoned from the program, each by itself.
-/
import Derived.Test.YtcbjehnjbfmchaaDoorRC
namespace Go.Proofs.YtcbjehnjbfmchaaDoor

set_option maxRecDepth 100000 in
theorem interestSums_f1 : (Rows.interestSumsRow.inPlace == Tryd.pinned.checked.prog.inPlace 15) = true := by kernel_rfl
set_option maxRecDepth 100000 in
theorem interestSums_f2 : (Rows.interestSumsRow.unfollowed == Tryd.pinned.checked.prog.unfollowed 15) = true := by kernel_rfl
set_option maxRecDepth 100000 in
theorem interestSums_f3 : (Rows.interestSumsRow.recurses == Tryd.pinned.checked.prog.recurses 15) = true := by kernel_rfl
set_option maxRecDepth 100000 in
theorem interestSums_f4 : (Rows.interestSumsRow.named == Tryd.pinned.checked.prog.varsNamed 15) = true := by kernel_rfl
set_option maxRecDepth 100000 in
theorem interestSums_f5 : Tryd.pinned.checked.prog.funcNamed Rows.interestSumsRow.func = some 15 := by kernel_rfl
set_option maxRecDepth 100000 in
theorem interestSums_f6 : Tryd.f15.isInstance Tryd.pinned.checked.prog Rows.interestSumsRow.origin Rows.interestSumsRow.targs := of_decide_eq_true (by kernel_rfl)
set_option maxRecDepth 100000 in
theorem interestSums_f7 : Tryd.f15.isWrapper Tryd.pinned.checked.prog Rows.interestSumsRow.wrapper Rows.interestSumsRow.mainSum := by unfold Func.isWrapper; first | (rw [if_pos (by decide +kernel)]; kernel_rfl) | (rw [if_neg (by decide +kernel)]; exact ⟨rfl, rfl⟩)
set_option maxRecDepth 100000 in
theorem interestSums_closed : joinedFacts Tryd.pinned.checked.prog 15 Tryd.f15 Rows.interestSumsSpec Rows.interestSumsRow = true := by
  unfold joinedFacts
  rw [interestSums_f1, interestSums_f2, interestSums_f3, interestSums_f4]
  kernel_rfl
end Go.Proofs.YtcbjehnjbfmchaaDoor
