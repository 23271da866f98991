/-
CurrencyLatest: the facts of its row that are reckoned from the program, each by itself.
-/
import Derived.Test.YtcbjehnjbfmchaaDoorS2
namespace Go.Proofs.YtcbjehnjbfmchaaDoor

set_option maxRecDepth 100000 in
theorem currencyLatest_f1 : (Rows.currencyLatestRow.inPlace == Tryd.pinned.checked.prog.inPlace 6) = true := by kernel_rfl
set_option maxRecDepth 100000 in
theorem currencyLatest_f2 : (Rows.currencyLatestRow.unfollowed == Tryd.pinned.checked.prog.unfollowed 6) = true := by kernel_rfl
set_option maxRecDepth 100000 in
theorem currencyLatest_f3 : (Rows.currencyLatestRow.recurses == Tryd.pinned.checked.prog.recurses 6) = true := by kernel_rfl
set_option maxRecDepth 100000 in
theorem currencyLatest_f4 : (Rows.currencyLatestRow.named == Tryd.pinned.checked.prog.varsNamed 6) = true := by kernel_rfl
set_option maxRecDepth 100000 in
theorem currencyLatest_f5 : Tryd.pinned.checked.prog.funcNamed Rows.currencyLatestRow.func = some 6 := by kernel_rfl
set_option maxRecDepth 100000 in
theorem currencyLatest_f6 : Tryd.f6.isInstance Tryd.pinned.checked.prog Rows.currencyLatestRow.origin Rows.currencyLatestRow.targs := of_decide_eq_true (by kernel_rfl)
set_option maxRecDepth 100000 in
theorem currencyLatest_f7 : Tryd.f6.isWrapper Tryd.pinned.checked.prog Rows.currencyLatestRow.wrapper Rows.currencyLatestRow.mainSum := by unfold Func.isWrapper; first | (rw [if_pos (by decide +kernel)]; kernel_rfl) | (rw [if_neg (by decide +kernel)]; exact ⟨rfl, rfl⟩)
set_option maxRecDepth 100000 in
theorem currencyLatest_closed : joinedFacts Tryd.pinned.checked.prog 6 Tryd.f6 Rows.currencyLatestSpec Rows.currencyLatestRow = true := by
  unfold joinedFacts
  rw [currencyLatest_f1, currencyLatest_f2, currencyLatest_f3, currencyLatest_f4]
  kernel_rfl
end Go.Proofs.YtcbjehnjbfmchaaDoor
