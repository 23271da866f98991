/-
VoteLeast: its row, its card.
-/
import Derived.Test.YtakoagjpmdcddaaDoorVeRB
namespace Go.Proofs.YtakoagjpmdcddaaDoor
open Go.ChangeShapes Go.WideShapes Go.ChangeAt Go.ChangeMaps Go.RowKit

set_option maxRecDepth 100000 in
theorem voteLeast_holds : Rows.VoteLeastSaid :=
  OpenClaim.holds_of_wide 4 Tryd.f4 rfl rfl rfl rfl rfl rfl rfl ⟨rfl, rfl, rfl, rfl, rfl⟩ rfl rfl rfl rfl rfl voteLeast_f5 Tryd.func4 voteLeast_closed voteLeast_f6 voteLeast_f7
    (fun os started H enc _ => voteLeast_lifted os started H enc)

set_option maxRecDepth 100000 in
theorem voteLeast_card : Rows.VoteLeastCardSaid :=
  Claim7.holds_tied_plain_at .later [] [.data, .pinned] true (true, "4312eee3ced996c5d1c1a671494921aeca60ddab5c8eaece76f96a47c31c2f16") false voteLeast_holds (fun _ h => by cases h) (by kernel_rfl) (fun _ h => by cases h) voteLeast_row_tie rfl ⟨rfl, rfl⟩ (by kernel_rfl) rfl
    (fun f fn hf hfn => by
      obtain rfl : f = 4 := Option.some.inj ((show Tryd.prog.funcNamed "insolvency/insolvencylaw30.VoteLeast" = some 4 by kernel_rfl).symm.trans hf) |>.symm
      obtain rfl : fn = Tryd.f4 := (Option.some.inj (Tryd.func4.symm.trans hfn)).symm
      exact ⟨by kernel_rfl, fun j t ht => by
        rw [Tryd.params4] at ht
        have hm : t ∈ [23, 35] := by simpa using Array.mem_of_getElem? ht
        have hall : ([23, 35].all fun u => !Tryd.prog.wantsStandIn u) = true := by kernel_rfl
        exact (show Tryd.prog.wantsStandIn t = false by simpa using List.all_eq_true.1 hall t hm)⟩)
    (by kernel_rfl)
#print axioms voteLeast_card

end Go.Proofs.YtakoagjpmdcddaaDoor
