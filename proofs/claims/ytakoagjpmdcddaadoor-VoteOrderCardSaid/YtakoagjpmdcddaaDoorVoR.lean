/-
VoteOrder: its row, its card.
-/
import Derived.Test.YtakoagjpmdcddaaDoorVoRB
namespace Go.Proofs.YtakoagjpmdcddaaDoor
open Go.ChangeShapes Go.WideShapes Go.ChangeAt Go.ChangeMaps Go.RowKit

set_option maxRecDepth 100000 in
theorem voteOrder_holds : Rows.VoteOrderSaid :=
  OpenClaim.holds_of_wide 5 Tryd.f5 rfl rfl rfl rfl rfl rfl rfl ⟨rfl, rfl, rfl, rfl, rfl⟩ rfl rfl rfl rfl rfl voteOrder_f5 Tryd.func5 voteOrder_closed voteOrder_f6 voteOrder_f7
    (fun os started H enc _ => voteOrder_lifted os started H enc)

set_option maxRecDepth 100000 in
theorem voteOrder_card : Rows.VoteOrderCardSaid :=
  Claim7.holds_tied_plain_at .later [] [.data, .pinned] true (true, "4312eee3ced996c5d1c1a671494921aeca60ddab5c8eaece76f96a47c31c2f16") false voteOrder_holds (fun _ h => by cases h) (by kernel_rfl) (fun _ h => by cases h) voteOrder_row_tie rfl ⟨rfl, rfl⟩ (by kernel_rfl) rfl
    (fun f fn hf hfn => by
      obtain rfl : f = 5 := Option.some.inj ((show Tryd.prog.funcNamed "insolvency/insolvencylaw30.VoteOrder" = some 5 by kernel_rfl).symm.trans hf) |>.symm
      obtain rfl : fn = Tryd.f5 := (Option.some.inj (Tryd.func5.symm.trans hfn)).symm
      exact ⟨by kernel_rfl, fun j t ht => by
        rw [Tryd.params5] at ht
        have hm : t ∈ [23, 5, 5] := by simpa using Array.mem_of_getElem? ht
        have hall : ([23, 5, 5].all fun u => !Tryd.prog.wantsStandIn u) = true := by kernel_rfl
        exact (show Tryd.prog.wantsStandIn t = false by simpa using List.all_eq_true.1 hall t hm)⟩)
    (by kernel_rfl)
#print axioms voteOrder_card

end Go.Proofs.YtakoagjpmdcddaaDoor
