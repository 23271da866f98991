/-
PlanFound: its row, its card.
-/
import Derived.Test.YtcllocdhbicpkaaGreatDoorPw5B
namespace Go.Proofs.YtcllocdhbicpkaaGreatDoor
open Go.ChangeShapes Go.WideShapes Go.ChangeAt Go.ChangeMaps Go.RowKit

set_option maxRecDepth 100000 in
theorem planFound_holds : Rows.PlanFoundSaid :=
  OpenClaim.holds_of_wide 7 Tryz.f7 rfl rfl rfl rfl rfl rfl rfl ⟨rfl, rfl, rfl, rfl, rfl⟩ rfl rfl rfl rfl rfl planFound_f5 Tryz.func7 planFound_closed planFound_f6 planFound_f7
    (fun os started H enc _ => planFound_lifted os started H enc)

set_option maxRecDepth 100000 in
theorem planFound_card : Rows.PlanFoundCardSaid :=
  Claim7.holds_tied_plain_at .later [] [.data, .pinned] true (true, "2d540778add1df9902d04edf7821353d9f2199c310bed9183fc25742bb84219b") false planFound_holds (fun _ h => by cases h) (by kernel_rfl) (fun _ h => by cases h) planFound_row_tie rfl ⟨rfl, rfl⟩ (by kernel_rfl) rfl
    (fun f fn hf hfn => by
      obtain rfl : f = 7 := Option.some.inj ((show Tryz.prog.funcNamed "insolvency/insolvencylaw32.PlanFound" = some 7 by kernel_rfl).symm.trans hf) |>.symm
      obtain rfl : fn = Tryz.f7 := (Option.some.inj (Tryz.func7.symm.trans hfn)).symm
      exact ⟨by kernel_rfl, fun j t ht => by
        rw [Tryz.params7] at ht
        have hm : t ∈ [22, 23] := by simpa using Array.mem_of_getElem? ht
        have hall : ([22, 23].all fun u => !Tryz.prog.wantsStandIn u) = true := by kernel_rfl
        exact (show Tryz.prog.wantsStandIn t = false by simpa using List.all_eq_true.1 hall t hm)⟩)
    (by kernel_rfl)
#print axioms planFound_card

end Go.Proofs.YtcllocdhbicpkaaGreatDoor
