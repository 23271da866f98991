/-
RankingStatute: its row, its card.
-/
import Derived.Test.YtgdhpghfojccaaaGreatDoorRbRw4sB
namespace Go.Proofs.YtgdhpghfojccaaaGreatDoor
open Go.ChangeShapes Go.WideShapes Go.ChangeAt Go.ChangeMaps Go.RowKit

set_option maxRecDepth 100000 in
theorem rankingStatute_holds : Rows.RankingStatuteSaid :=
  OpenClaim.holds_of_wide 7 Tryz.f7 rfl rfl rfl rfl rfl rfl rfl ⟨rfl, rfl, rfl, rfl, rfl⟩ rfl rfl rfl rfl rfl b0n Tryz.func7 a7e b0m b0k
    (fun os started H enc _ => rankingStatute_lifted os started H enc)

set_option maxRecDepth 100000 in
theorem rankingStatute_card : Rows.RankingStatuteCardSaid :=
  Claim7.holds_tied_plain_at .later [] [.data, .pinned] true (true, "7e68efb79cc98c738d617df71a5ca680c4fc7827c466b7fdb889cfa1a384126c") false rankingStatute_holds (fun _ h => by cases h) (by kernel_rfl) (fun _ h => by cases h) rankingStatute_row_tie rfl ⟨rfl, rfl⟩ (by kernel_rfl) rfl
    (fun f fn hf hfn => by
      obtain rfl : f = 7 := Option.some.inj ((show Tryz.prog.funcNamed "insolvency/insolvencylaw13.RankingStatute" = some 7 by kernel_rfl).symm.trans hf) |>.symm
      obtain rfl : fn = Tryz.f7 := (Option.some.inj (Tryz.func7.symm.trans hfn)).symm
      exact ⟨by kernel_rfl, fun j t ht => by
        rw [Tryz.params7] at ht
        have hm : t ∈ [36, 37] := by simpa using Array.mem_of_getElem? ht
        have hall : ([36, 37].all fun u => !Tryz.prog.wantsStandIn u) = true := by kernel_rfl
        exact (show Tryz.prog.wantsStandIn t = false by simpa using List.all_eq_true.1 hall t hm)⟩)
    (by kernel_rfl)
#print axioms rankingStatute_card

end Go.Proofs.YtgdhpghfojccaaaGreatDoor
