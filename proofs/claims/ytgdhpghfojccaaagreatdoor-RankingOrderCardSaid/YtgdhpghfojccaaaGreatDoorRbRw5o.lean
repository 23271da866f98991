/-
RankingOrder: its row, its card.
-/
import Derived.Test.YtgdhpghfojccaaaGreatDoorRbRw5oB
namespace Go.Proofs.YtgdhpghfojccaaaGreatDoor
open Go.ChangeShapes Go.WideShapes Go.ChangeAt Go.ChangeMaps Go.RowKit

set_option maxRecDepth 100000 in
theorem rankingOrder_holds : Rows.RankingOrderSaid :=
  OpenClaim.holds_of_wide 6 Tryz.f6 rfl rfl rfl rfl rfl rfl rfl ⟨rfl, rfl, rfl, rfl, rfl⟩ rfl rfl rfl rfl rfl b3z Tryz.func6 a8w b3y b3x
    (fun os started H enc _ => rankingOrder_lifted os started H enc)

set_option maxRecDepth 100000 in
theorem rankingOrder_card : Rows.RankingOrderCardSaid :=
  Claim7.holds_tied_plain_at .later [] [.data, .pinned] true (true, "7e68efb79cc98c738d617df71a5ca680c4fc7827c466b7fdb889cfa1a384126c") false rankingOrder_holds (fun _ h => by cases h) (by kernel_rfl) (fun _ h => by cases h) rankingOrder_row_tie rfl ⟨rfl, rfl⟩ (by kernel_rfl) rfl
    (fun f fn hf hfn => by
      obtain rfl : f = 6 := Option.some.inj ((show Tryz.prog.funcNamed "insolvency/insolvencylaw13.RankingOrder" = some 6 by kernel_rfl).symm.trans hf) |>.symm
      obtain rfl : fn = Tryz.f6 := (Option.some.inj (Tryz.func6.symm.trans hfn)).symm
      exact ⟨by kernel_rfl, fun j t ht => by
        rw [Tryz.params6] at ht
        have hm : t ∈ [36, 37, 5] := by simpa using Array.mem_of_getElem? ht
        have hall : ([36, 37, 5].all fun u => !Tryz.prog.wantsStandIn u) = true := by kernel_rfl
        exact (show Tryz.prog.wantsStandIn t = false by simpa using List.all_eq_true.1 hall t hm)⟩)
    (by kernel_rfl)
#print axioms rankingOrder_card

end Go.Proofs.YtgdhpghfojccaaaGreatDoor
