/-
InterestRate: the facts of its row that are reckoned from the program, each by itself.
-/
import Derived.Test.YtcbjehnjbfmchaaDoorR2
namespace Go.Proofs.YtcbjehnjbfmchaaDoor

set_option maxRecDepth 100000 in
theorem interestRate_f1 : (Rows.interestRateRow.inPlace == Tryd.pinned.checked.prog.inPlace 14) = true := by kernel_rfl
set_option maxRecDepth 100000 in
theorem interestRate_f2 : (Rows.interestRateRow.unfollowed == Tryd.pinned.checked.prog.unfollowed 14) = true := by kernel_rfl
set_option maxRecDepth 100000 in
theorem interestRate_f3 : (Rows.interestRateRow.recurses == Tryd.pinned.checked.prog.recurses 14) = true := by kernel_rfl
set_option maxRecDepth 100000 in
theorem interestRate_f4 : (Rows.interestRateRow.named == Tryd.pinned.checked.prog.varsNamed 14) = true := by kernel_rfl
set_option maxRecDepth 100000 in
theorem interestRate_f5 : Tryd.pinned.checked.prog.funcNamed Rows.interestRateRow.func = some 14 := by kernel_rfl
set_option maxRecDepth 100000 in
theorem interestRate_f6 : Tryd.f14.isInstance Tryd.pinned.checked.prog Rows.interestRateRow.origin Rows.interestRateRow.targs := of_decide_eq_true (by kernel_rfl)
set_option maxRecDepth 100000 in
theorem interestRate_f7 : Tryd.f14.isWrapper Tryd.pinned.checked.prog Rows.interestRateRow.wrapper Rows.interestRateRow.mainSum := by unfold Func.isWrapper; first | (rw [if_pos (by decide +kernel)]; kernel_rfl) | (rw [if_neg (by decide +kernel)]; exact ⟨rfl, rfl⟩)
set_option maxRecDepth 100000 in
theorem interestRate_closed : joinedFacts Tryd.pinned.checked.prog 14 Tryd.f14 Rows.interestRateSpec Rows.interestRateRow = true := by
  unfold joinedFacts
  rw [interestRate_f1, interestRate_f2, interestRate_f3, interestRate_f4]
  kernel_rfl
end Go.Proofs.YtcbjehnjbfmchaaDoor
