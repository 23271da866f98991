/-
RankingCompile: its row, its card.
-/
import Derived.Test.YtgdhpghfojccaaaGreatDoorRbRw3cB
namespace Go.Proofs.YtgdhpghfojccaaaGreatDoor
open Go.ChangeShapes Go.WideShapes Go.ChangeAt Go.ChangeMaps Go.RowKit

set_option maxRecDepth 100000 in
theorem rankingCompile_holds : Rows.RankingCompileSaid :=
  OpenClaim.holds_of_wide 4 Tryz.f4 rfl rfl rfl rfl rfl rfl rfl ⟨rfl, rfl, rfl, rfl, rfl⟩ rfl rfl rfl rfl rfl b0w Tryz.func4 a7f b0v b0u
    (fun os started H enc _ => rankingCompile_lifted os started H enc)

set_option maxRecDepth 100000 in
theorem rankingCompile_card : Rows.RankingCompileCardSaid :=
  Claim7.holds_tied_plain_at .later [] [.data, .pinned] true (true, "7e68efb79cc98c738d617df71a5ca680c4fc7827c466b7fdb889cfa1a384126c") false rankingCompile_holds (fun _ h => by cases h) (by kernel_rfl) (fun _ h => by cases h) rankingCompile_row_tie rfl ⟨rfl, rfl⟩ (by kernel_rfl) rfl
    (fun f fn hf hfn => by
      obtain rfl : f = 4 := Option.some.inj ((show Tryz.prog.funcNamed "insolvency/insolvencylaw13.RankingCompile" = some 4 by kernel_rfl).symm.trans hf) |>.symm
      obtain rfl : fn = Tryz.f4 := (Option.some.inj (Tryz.func4.symm.trans hfn)).symm
      exact ⟨by kernel_rfl, fun j t ht => by
        rw [Tryz.params4] at ht
        have hm : t ∈ [36, 37] := by simpa using Array.mem_of_getElem? ht
        have hall : ([36, 37].all fun u => !Tryz.prog.wantsStandIn u) = true := by kernel_rfl
        exact (show Tryz.prog.wantsStandIn t = false by simpa using List.all_eq_true.1 hall t hm)⟩)
    (by kernel_rfl)
#print axioms rankingCompile_card

end Go.Proofs.YtgdhpghfojccaaaGreatDoor
