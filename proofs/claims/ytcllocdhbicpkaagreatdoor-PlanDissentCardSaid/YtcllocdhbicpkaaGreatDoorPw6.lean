/-
PlanDissent: its row, its card.
-/
import Derived.Test.YtcllocdhbicpkaaGreatDoorPw6B
namespace Go.Proofs.YtcllocdhbicpkaaGreatDoor
open Go.ChangeShapes Go.WideShapes Go.ChangeAt Go.ChangeMaps Go.RowKit

set_option maxRecDepth 100000 in
theorem planDissent_holds : Rows.PlanDissentSaid :=
  OpenClaim.holds_of_wide 8 Tryz.f8 rfl rfl rfl rfl rfl rfl rfl ⟨rfl, rfl, rfl, rfl, rfl⟩ rfl rfl rfl rfl rfl planDissent_f5 Tryz.func8 planDissent_closed planDissent_f6 planDissent_f7
    (fun os started H enc _ => planDissent_lifted os started H enc)

set_option maxRecDepth 100000 in
theorem planDissent_card : Rows.PlanDissentCardSaid :=
  Claim7.holds_tied_plain_at .later [] [.data, .pinned] true (true, "2d540778add1df9902d04edf7821353d9f2199c310bed9183fc25742bb84219b") false planDissent_holds (fun _ h => by cases h) (by kernel_rfl) (fun _ h => by cases h) planDissent_row_tie rfl ⟨rfl, rfl⟩ (by kernel_rfl) rfl
    (fun f fn hf hfn => by
      obtain rfl : f = 8 := Option.some.inj ((show Tryz.prog.funcNamed "insolvency/insolvencylaw32.PlanDissent" = some 8 by kernel_rfl).symm.trans hf) |>.symm
      obtain rfl : fn = Tryz.f8 := (Option.some.inj (Tryz.func8.symm.trans hfn)).symm
      exact ⟨by kernel_rfl, fun j t ht => by
        rw [Tryz.params8] at ht
        have hm : t ∈ [22, 23, 36, 4] := by simpa using Array.mem_of_getElem? ht
        have hall : ([22, 23, 36, 4].all fun u => !Tryz.prog.wantsStandIn u) = true := by kernel_rfl
        exact (show Tryz.prog.wantsStandIn t = false by simpa using List.all_eq_true.1 hall t hm)⟩)
    (by kernel_rfl)
#print axioms planDissent_card

end Go.Proofs.YtcllocdhbicpkaaGreatDoor
