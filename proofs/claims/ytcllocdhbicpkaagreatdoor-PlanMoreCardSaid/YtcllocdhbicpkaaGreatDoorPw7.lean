/-
PlanMore: its row, its card.
-/
import Derived.Test.YtcllocdhbicpkaaGreatDoorPw7B
namespace Go.Proofs.YtcllocdhbicpkaaGreatDoor
open Go.ChangeShapes Go.WideShapes Go.ChangeAt Go.ChangeMaps Go.RowKit

set_option maxRecDepth 100000 in
theorem planMore_holds : Rows.PlanMoreSaid :=
  OpenClaim.holds_of_wide 9 Tryz.f9 rfl rfl rfl rfl rfl rfl rfl ⟨rfl, rfl, rfl, rfl, rfl⟩ rfl rfl rfl rfl rfl planMore_f5 Tryz.func9 planMore_closed planMore_f6 planMore_f7
    (fun os started H enc _ => planMore_lifted os started H enc)

set_option maxRecDepth 100000 in
theorem planMore_card : Rows.PlanMoreCardSaid :=
  Claim7.holds_tied_plain_at .later [] [.data, .pinned] true (true, "2d540778add1df9902d04edf7821353d9f2199c310bed9183fc25742bb84219b") false planMore_holds (fun _ h => by cases h) (by kernel_rfl) (fun _ h => by cases h) planMore_row_tie rfl ⟨rfl, rfl⟩ (by kernel_rfl) rfl
    (fun f fn hf hfn => by
      obtain rfl : f = 9 := Option.some.inj ((show Tryz.prog.funcNamed "insolvency/insolvencylaw32.PlanMore" = some 9 by kernel_rfl).symm.trans hf) |>.symm
      obtain rfl : fn = Tryz.f9 := (Option.some.inj (Tryz.func9.symm.trans hfn)).symm
      exact ⟨by kernel_rfl, fun j t ht => by
        rw [Tryz.params9] at ht
        have hm : t ∈ [22, 23, 5, 5] := by simpa using Array.mem_of_getElem? ht
        have hall : ([22, 23, 5, 5].all fun u => !Tryz.prog.wantsStandIn u) = true := by kernel_rfl
        exact (show Tryz.prog.wantsStandIn t = false by simpa using List.all_eq_true.1 hall t hm)⟩)
    (by kernel_rfl)
#print axioms planMore_card

end Go.Proofs.YtcllocdhbicpkaaGreatDoor
