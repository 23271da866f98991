/-
CurrencyBack: the facts of its row that are reckoned from the program, each by itself.
-/
import Derived.Test.YtcbjehnjbfmchaaDoorPO
namespace Go.Proofs.YtcbjehnjbfmchaaDoor

set_option maxRecDepth 100000 in
theorem currencyBack_f1 : (Rows.currencyBackRow.inPlace == Tryd.pinned.checked.prog.inPlace 9) = true := by kernel_rfl
set_option maxRecDepth 100000 in
theorem currencyBack_f2 : (Rows.currencyBackRow.unfollowed == Tryd.pinned.checked.prog.unfollowed 9) = true := by kernel_rfl
set_option maxRecDepth 100000 in
theorem currencyBack_f3 : (Rows.currencyBackRow.recurses == Tryd.pinned.checked.prog.recurses 9) = true := by kernel_rfl
set_option maxRecDepth 100000 in
theorem currencyBack_f4 : (Rows.currencyBackRow.named == Tryd.pinned.checked.prog.varsNamed 9) = true := by kernel_rfl
set_option maxRecDepth 100000 in
theorem currencyBack_f5 : Tryd.pinned.checked.prog.funcNamed Rows.currencyBackRow.func = some 9 := by kernel_rfl
set_option maxRecDepth 100000 in
theorem currencyBack_f6 : Tryd.f9.isInstance Tryd.pinned.checked.prog Rows.currencyBackRow.origin Rows.currencyBackRow.targs := of_decide_eq_true (by kernel_rfl)
set_option maxRecDepth 100000 in
theorem currencyBack_f7 : Tryd.f9.isWrapper Tryd.pinned.checked.prog Rows.currencyBackRow.wrapper Rows.currencyBackRow.mainSum := by unfold Func.isWrapper; first | (rw [if_pos (by decide +kernel)]; kernel_rfl) | (rw [if_neg (by decide +kernel)]; exact ⟨rfl, rfl⟩)
set_option maxRecDepth 100000 in
theorem currencyBack_closed : joinedFacts Tryd.pinned.checked.prog 9 Tryd.f9 Rows.currencyBackSpec Rows.currencyBackRow = true := by
  unfold joinedFacts
  rw [currencyBack_f1, currencyBack_f2, currencyBack_f3, currencyBack_f4]
  kernel_rfl
end Go.Proofs.YtcbjehnjbfmchaaDoor
