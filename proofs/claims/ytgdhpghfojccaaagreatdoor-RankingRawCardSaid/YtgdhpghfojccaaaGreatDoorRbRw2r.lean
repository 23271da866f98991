/-
RankingRaw: its row, its card.
-/
import Derived.Test.YtgdhpghfojccaaaGreatDoorRbRw2rB
namespace Go.Proofs.YtgdhpghfojccaaaGreatDoor
open Go.ChangeShapes Go.WideShapes Go.ChangeAt Go.ChangeMaps Go.RowKit

set_option maxRecDepth 100000 in
theorem rankingRaw_holds : Rows.RankingRawSaid :=
  OpenClaim.holds_of_wide 3 Tryz.f3 rfl rfl rfl rfl rfl rfl rfl ⟨rfl, rfl, rfl, rfl, rfl⟩ rfl rfl rfl rfl rfl b8e Tryz.func3 b0t b8d b8c
    (fun os started H enc _ => rankingRaw_lifted os started H enc)

set_option maxRecDepth 100000 in
theorem rankingRaw_card : Rows.RankingRawCardSaid :=
  Claim7.holds_tied_plain_at .later [] [.data, .pinned] true (true, "7e68efb79cc98c738d617df71a5ca680c4fc7827c466b7fdb889cfa1a384126c") false rankingRaw_holds (fun _ h => by cases h) (by kernel_rfl) (fun _ h => by cases h) rankingRaw_row_tie rfl ⟨rfl, rfl⟩ (by kernel_rfl) rfl
    (fun f fn hf hfn => by
      obtain rfl : f = 3 := Option.some.inj ((show Tryz.prog.funcNamed "insolvency/insolvencylaw13.RankingRaw" = some 3 by kernel_rfl).symm.trans hf) |>.symm
      obtain rfl : fn = Tryz.f3 := (Option.some.inj (Tryz.func3.symm.trans hfn)).symm
      exact ⟨by kernel_rfl, fun j t ht => by
        rw [Tryz.params3] at ht
        have hm : t ∈ [22, 23] := by simpa using Array.mem_of_getElem? ht
        have hall : ([22, 23].all fun u => !Tryz.prog.wantsStandIn u) = true := by kernel_rfl
        exact (show Tryz.prog.wantsStandIn t = false by simpa using List.all_eq_true.1 hall t hm)⟩)
    (by kernel_rfl)
#print axioms rankingRaw_card

end Go.Proofs.YtgdhpghfojccaaaGreatDoor
