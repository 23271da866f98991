/-
RankingCheck: its row, its card.
-/
import Derived.Test.YtbkbiokgfoomfaaGreatDoorRaRw1cB
namespace Go.Proofs.YtbkbiokgfoomfaaGreatDoor
open Go.ChangeShapes Go.WideShapes Go.ChangeAt Go.ChangeMaps Go.RowKit

set_option maxRecDepth 100000 in
theorem rankingCheck_holds : Rows.RankingCheckSaid :=
  OpenClaim.holds_of_wide 3 Tryz.f3 rfl rfl rfl rfl rfl rfl rfl ⟨rfl, rfl, rfl, rfl, rfl⟩ rfl rfl rfl rfl rfl a9y Tryz.func3 a6q a9x a9w
    (fun os started H enc _ => rankingCheck_lifted os started H enc)

set_option maxRecDepth 100000 in
theorem rankingCheck_card : Rows.RankingCheckCardSaid :=
  Claim7.holds_tied_plain_at .later [] [.data, .pinned] true (true, "95c975ddbaea40338c5fbfe5cac56840d03ab37fc79ee4b99cdbd4d993bb961b") false rankingCheck_holds (fun _ h => by cases h) (by kernel_rfl) (fun _ h => by cases h) rankingCheck_row_tie rfl ⟨rfl, rfl⟩ (by kernel_rfl) rfl
    (fun f fn hf hfn => by
      obtain rfl : f = 3 := Option.some.inj ((show Tryz.prog.funcNamed "insolvency/insolvencylaw13.RankingCheck" = some 3 by kernel_rfl).symm.trans hf) |>.symm
      obtain rfl : fn = Tryz.f3 := (Option.some.inj (Tryz.func3.symm.trans hfn)).symm
      exact ⟨by kernel_rfl, fun j t ht => by
        rw [Tryz.params3] at ht
        have hm : t ∈ [22] := by simpa using Array.mem_of_getElem? ht
        have hall : ([22].all fun u => !Tryz.prog.wantsStandIn u) = true := by kernel_rfl
        exact (show Tryz.prog.wantsStandIn t = false by simpa using List.all_eq_true.1 hall t hm)⟩)
    (by kernel_rfl)
#print axioms rankingCheck_card

end Go.Proofs.YtbkbiokgfoomfaaGreatDoor
