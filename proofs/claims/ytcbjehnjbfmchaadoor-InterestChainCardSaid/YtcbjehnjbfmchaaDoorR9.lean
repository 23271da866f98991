/-
InterestChain: the facts of its row that are reckoned from the program, each by itself.
-/
import Derived.Test.YtcbjehnjbfmchaaDoorR8
namespace Go.Proofs.YtcbjehnjbfmchaaDoor

set_option maxRecDepth 100000 in
theorem interestChain_f1 : (Rows.interestChainRow.inPlace == Tryd.pinned.checked.prog.inPlace 13) = true := by kernel_rfl
set_option maxRecDepth 100000 in
theorem interestChain_f2 : (Rows.interestChainRow.unfollowed == Tryd.pinned.checked.prog.unfollowed 13) = true := by kernel_rfl
set_option maxRecDepth 100000 in
theorem interestChain_f3 : (Rows.interestChainRow.recurses == Tryd.pinned.checked.prog.recurses 13) = true := by kernel_rfl
set_option maxRecDepth 100000 in
theorem interestChain_f4 : (Rows.interestChainRow.named == Tryd.pinned.checked.prog.varsNamed 13) = true := by kernel_rfl
set_option maxRecDepth 100000 in
theorem interestChain_f5 : Tryd.pinned.checked.prog.funcNamed Rows.interestChainRow.func = some 13 := by kernel_rfl
set_option maxRecDepth 100000 in
theorem interestChain_f6 : Tryd.f13.isInstance Tryd.pinned.checked.prog Rows.interestChainRow.origin Rows.interestChainRow.targs := of_decide_eq_true (by kernel_rfl)
set_option maxRecDepth 100000 in
theorem interestChain_f7 : Tryd.f13.isWrapper Tryd.pinned.checked.prog Rows.interestChainRow.wrapper Rows.interestChainRow.mainSum := by unfold Func.isWrapper; first | (rw [if_pos (by decide +kernel)]; kernel_rfl) | (rw [if_neg (by decide +kernel)]; exact ⟨rfl, rfl⟩)
set_option maxRecDepth 100000 in
theorem interestChain_closed : joinedFacts Tryd.pinned.checked.prog 13 Tryd.f13 Rows.interestChainSpec Rows.interestChainRow = true := by
  unfold joinedFacts
  rw [interestChain_f1, interestChain_f2, interestChain_f3, interestChain_f4]
  kernel_rfl
end Go.Proofs.YtcbjehnjbfmchaaDoor
