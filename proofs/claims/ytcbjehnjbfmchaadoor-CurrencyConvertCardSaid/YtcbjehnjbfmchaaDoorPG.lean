/-
CurrencyConvert: the facts of its row that are reckoned from the program, each by itself (together they outgrow the kernel's memory).
-/
import Derived.Test.YtcbjehnjbfmchaaDoorPF
namespace Go.Proofs.YtcbjehnjbfmchaaDoor

set_option maxRecDepth 100000 in
theorem currencyConvert_f1 : (Rows.currencyConvertRow.inPlace == Tryd.pinned.checked.prog.inPlace 7) = true := by kernel_rfl
set_option maxRecDepth 100000 in
theorem currencyConvert_f2 : (Rows.currencyConvertRow.unfollowed == Tryd.pinned.checked.prog.unfollowed 7) = true := by kernel_rfl
set_option maxRecDepth 100000 in
theorem currencyConvert_f3 : (Rows.currencyConvertRow.recurses == Tryd.pinned.checked.prog.recurses 7) = true := by kernel_rfl
set_option maxRecDepth 100000 in
theorem currencyConvert_f4 : (Rows.currencyConvertRow.named == Tryd.pinned.checked.prog.varsNamed 7) = true := by kernel_rfl
set_option maxRecDepth 100000 in
theorem currencyConvert_f5 : Tryd.pinned.checked.prog.funcNamed Rows.currencyConvertRow.func = some 7 := by kernel_rfl
set_option maxRecDepth 100000 in
theorem currencyConvert_f6 : Tryd.f7.isInstance Tryd.pinned.checked.prog Rows.currencyConvertRow.origin Rows.currencyConvertRow.targs := of_decide_eq_true (by kernel_rfl)
set_option maxRecDepth 100000 in
theorem currencyConvert_f7 : Tryd.f7.isWrapper Tryd.pinned.checked.prog Rows.currencyConvertRow.wrapper Rows.currencyConvertRow.mainSum := by unfold Func.isWrapper; first | (rw [if_pos (by decide +kernel)]; kernel_rfl) | (rw [if_neg (by decide +kernel)]; exact ⟨rfl, rfl⟩)
set_option maxRecDepth 100000 in
theorem currencyConvert_closed : joinedFacts Tryd.pinned.checked.prog 7 Tryd.f7 Rows.currencyConvertSpec Rows.currencyConvertRow = true := by
  unfold joinedFacts
  rw [currencyConvert_f1, currencyConvert_f2, currencyConvert_f3, currencyConvert_f4]
  kernel_rfl
end Go.Proofs.YtcbjehnjbfmchaaDoor
