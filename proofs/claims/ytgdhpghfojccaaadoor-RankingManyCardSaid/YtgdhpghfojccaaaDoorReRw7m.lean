/-
RankingMany: its row, its card.
-/
import Derived.Test.YtgdhpghfojccaaaDoorReRw7mB
namespace Go.Proofs.YtgdhpghfojccaaaDoor
open Go.ChangeShapes Go.WideShapes Go.ChangeAt Go.ChangeMaps Go.RowKit

set_option maxRecDepth 100000 in
theorem rankingMany_holds : Rows.RankingManySaid :=
  OpenClaim.holds_of_wide 3 Tryd.f3 rfl rfl rfl rfl rfl rfl rfl ⟨rfl, rfl, rfl, rfl, rfl⟩ rfl rfl rfl rfl rfl b0e Tryd.func3 a6f b0d b0c
    (fun os started H enc _ => rankingMany_lifted os started H enc)

set_option maxRecDepth 100000 in
theorem rankingMany_card : Rows.RankingManyCardSaid :=
  Claim7.holds_tied_plain_at .later [] [.data, .pinned] true (true, "031fc2e0fc94b8c9aac1013f81544449471490cbcb6fe165cc3357df9fb1de6a") false rankingMany_holds (fun _ h => by cases h) (by kernel_rfl) (fun _ h => by cases h) rankingMany_row_tie rfl ⟨rfl, rfl⟩ (by kernel_rfl) rfl
    (fun f fn hf hfn => by
      obtain rfl : f = 3 := Option.some.inj ((show Tryd.prog.funcNamed "insolvency/insolvencylaw13.RankingMany" = some 3 by kernel_rfl).symm.trans hf) |>.symm
      obtain rfl : fn = Tryd.f3 := (Option.some.inj (Tryd.func3.symm.trans hfn)).symm
      exact ⟨by kernel_rfl, fun j t ht => by
        rw [Tryd.params3] at ht
        have hm : t ∈ [5, 5] := by simpa using Array.mem_of_getElem? ht
        have hall : ([5, 5].all fun u => !Tryd.prog.wantsStandIn u) = true := by kernel_rfl
        exact (show Tryd.prog.wantsStandIn t = false by simpa using List.all_eq_true.1 hall t hm)⟩)
    (by kernel_rfl)
#print axioms rankingMany_card

end Go.Proofs.YtgdhpghfojccaaaDoor
