/-
CurrencyQuoted: the facts of its row that are reckoned from the program, each by itself.
-/
import Derived.Test.YtcbjehnjbfmchaaDoorPK
namespace Go.Proofs.YtcbjehnjbfmchaaDoor

set_option maxRecDepth 100000 in
theorem currencyQuoted_f1 : (Rows.currencyQuotedRow.inPlace == Tryd.pinned.checked.prog.inPlace 8) = true := by kernel_rfl
set_option maxRecDepth 100000 in
theorem currencyQuoted_f2 : (Rows.currencyQuotedRow.unfollowed == Tryd.pinned.checked.prog.unfollowed 8) = true := by kernel_rfl
set_option maxRecDepth 100000 in
theorem currencyQuoted_f3 : (Rows.currencyQuotedRow.recurses == Tryd.pinned.checked.prog.recurses 8) = true := by kernel_rfl
set_option maxRecDepth 100000 in
theorem currencyQuoted_f4 : (Rows.currencyQuotedRow.named == Tryd.pinned.checked.prog.varsNamed 8) = true := by kernel_rfl
set_option maxRecDepth 100000 in
theorem currencyQuoted_f5 : Tryd.pinned.checked.prog.funcNamed Rows.currencyQuotedRow.func = some 8 := by kernel_rfl
set_option maxRecDepth 100000 in
theorem currencyQuoted_f6 : Tryd.f8.isInstance Tryd.pinned.checked.prog Rows.currencyQuotedRow.origin Rows.currencyQuotedRow.targs := of_decide_eq_true (by kernel_rfl)
set_option maxRecDepth 100000 in
theorem currencyQuoted_f7 : Tryd.f8.isWrapper Tryd.pinned.checked.prog Rows.currencyQuotedRow.wrapper Rows.currencyQuotedRow.mainSum := by unfold Func.isWrapper; first | (rw [if_pos (by decide +kernel)]; kernel_rfl) | (rw [if_neg (by decide +kernel)]; exact ⟨rfl, rfl⟩)
set_option maxRecDepth 100000 in
theorem currencyQuoted_closed : joinedFacts Tryd.pinned.checked.prog 8 Tryd.f8 Rows.currencyQuotedSpec Rows.currencyQuotedRow = true := by
  unfold joinedFacts
  rw [currencyQuoted_f1, currencyQuoted_f2, currencyQuoted_f3, currencyQuoted_f4]
  kernel_rfl
end Go.Proofs.YtcbjehnjbfmchaaDoor
