/-
RankingSenior: the facts of its row that are reckoned from the program,each by itself.
-/
import Derived.Test.YtjmiicjialkpiaaGreatDoorRfRw8sA
namespace Go.Proofs.YtjmiicjialkpiaaGreatDoor

set_option maxRecDepth 100000 in
theorem b3x:(Rows.rankingSeniorRow.inPlace==Tryz.pinned.checked.prog.inPlace 3)=true:=by kernel_rfl
set_option maxRecDepth 100000 in
theorem b3w:(Rows.rankingSeniorRow.unfollowed==Tryz.pinned.checked.prog.unfollowed 3)=true:=by kernel_rfl
set_option maxRecDepth 100000 in
theorem b3v:(Rows.rankingSeniorRow.recurses==Tryz.pinned.checked.prog.recurses 3)=true:=by kernel_rfl
set_option maxRecDepth 100000 in
theorem b3u:(Rows.rankingSeniorRow.named==Tryz.pinned.checked.prog.varsNamed 3)=true:=by kernel_rfl
set_option maxRecDepth 100000 in
theorem b3t:Tryz.pinned.checked.prog.funcNamed Rows.rankingSeniorRow.func=some 3:=by kernel_rfl
set_option maxRecDepth 100000 in
theorem b3s:Tryz.f3.isInstance Tryz.pinned.checked.prog Rows.rankingSeniorRow.origin Rows.rankingSeniorRow.targs:=of_decide_eq_true (by kernel_rfl)
set_option maxRecDepth 100000 in
theorem b3r:Tryz.f3.isWrapper Tryz.pinned.checked.prog Rows.rankingSeniorRow.wrapper Rows.rankingSeniorRow.mainSum:=by unfold Func.isWrapper;first | (rw[if_pos (by decide +kernel)];kernel_rfl) | (rw[if_neg (by decide +kernel)];exact⟨rfl,rfl⟩)
set_option maxRecDepth 100000 in
theorem b0a:joinedFacts Tryz.pinned.checked.prog 3 Tryz.f3 Rows.rankingSeniorSpec Rows.rankingSeniorRow=true:=by
  unfold joinedFacts
  rw[b3x,b3w,b3v,b3u]
  kernel_rfl
end Go.Proofs.YtjmiicjialkpiaaGreatDoor
