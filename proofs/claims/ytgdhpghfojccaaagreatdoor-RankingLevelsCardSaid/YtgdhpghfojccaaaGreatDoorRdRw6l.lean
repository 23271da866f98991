/-
RankingLevels: its row, its card.
-/
import Derived.Test.YtgdhpghfojccaaaGreatDoorRdRw6lB
namespace Go.Proofs.YtgdhpghfojccaaaGreatDoor
open Go.ChangeShapes Go.WideShapes Go.ChangeAt Go.ChangeMaps Go.RowKit

set_option maxRecDepth 100000 in
theorem rankingLevels_holds : Rows.RankingLevelsSaid :=
  OpenClaim.holds_of_wide 5 Tryz.f5 rfl rfl rfl rfl rfl rfl rfl ⟨rfl, rfl, rfl, rfl, rfl⟩ rfl rfl rfl rfl rfl b0n Tryz.func5 a7s b0m b0k
    (fun os started H enc _ => rankingLevels_lifted os started H enc)

set_option maxRecDepth 100000 in
theorem rankingLevels_card : Rows.RankingLevelsCardSaid :=
  Claim7.holds_tied_plain_at .later [] [.data, .pinned] true (true, "7e68efb79cc98c738d617df71a5ca680c4fc7827c466b7fdb889cfa1a384126c") false rankingLevels_holds (fun _ h => by cases h) (by kernel_rfl) (fun _ h => by cases h) rankingLevels_row_tie rfl ⟨rfl, rfl⟩ (by kernel_rfl) rfl
    (fun f fn hf hfn => by
      obtain rfl : f = 5 := Option.some.inj ((show Tryz.prog.funcNamed "insolvency/insolvencylaw13.RankingLevels" = some 5 by kernel_rfl).symm.trans hf) |>.symm
      obtain rfl : fn = Tryz.f5 := (Option.some.inj (Tryz.func5.symm.trans hfn)).symm
      exact ⟨by kernel_rfl, fun j t ht => by
        rw [Tryz.params5] at ht
        have hm : t ∈ [36, 37] := by simpa using Array.mem_of_getElem? ht
        have hall : ([36, 37].all fun u => !Tryz.prog.wantsStandIn u) = true := by kernel_rfl
        exact (show Tryz.prog.wantsStandIn t = false by simpa using List.all_eq_true.1 hall t hm)⟩)
    (by kernel_rfl)
#print axioms rankingLevels_card

end Go.Proofs.YtgdhpghfojccaaaGreatDoor
