/-
RegisterKeeps: its row, its card.
-/
import Derived.Test.YtoighiepglclkaaGreatDoorKfRwkB
namespace Go.Proofs.YtoighiepglclkaaGreatDoor
open Go.ChangeShapes Go.WideShapes Go.ChangeAt Go.ChangeMaps Go.RowKit

set_option maxRecDepth 100000 in
theorem registerKeeps_holds : Rows.RegisterKeepsSaid :=
  OpenClaim.holds_of_wide 3 Tryz.f3 rfl rfl rfl rfl rfl rfl rfl ⟨rfl, rfl, rfl, rfl, rfl⟩ rfl rfl rfl rfl rfl b4e Tryz.func3 b0r b4d b4c
    (fun os started H enc _ => registerKeeps_lifted os started H enc)

set_option maxRecDepth 100000 in
theorem registerKeeps_card : Rows.RegisterKeepsCardSaid :=
  Claim7.holds_tied_plain_at .later [] [.data, .pinned] true (true, "21341e5a6132fd4690d598ffc3d4e836769b92a4b2cbc569a5179b7a8c786661") false registerKeeps_holds (fun _ h => by cases h) (by kernel_rfl) (fun _ h => by cases h) registerKeeps_row_tie rfl ⟨rfl, rfl⟩ (by kernel_rfl) rfl
    (fun f fn hf hfn => by
      obtain rfl : f = 3 := Option.some.inj ((show Tryz.prog.funcNamed "insolvency/insolvencylaw10.RegisterKeeps" = some 3 by kernel_rfl).symm.trans hf) |>.symm
      obtain rfl : fn = Tryz.f3 := (Option.some.inj (Tryz.func3.symm.trans hfn)).symm
      exact ⟨by kernel_rfl, fun j t ht => by
        rw [Tryz.params3] at ht
        have hm : t ∈ [5, 5, 22, 23, 27] := by simpa using Array.mem_of_getElem? ht
        have hall : ([5, 5, 22, 23, 27].all fun u => !Tryz.prog.wantsStandIn u) = true := by kernel_rfl
        exact (show Tryz.prog.wantsStandIn t = false by simpa using List.all_eq_true.1 hall t hm)⟩)
    (by kernel_rfl)
#print axioms registerKeeps_card

end Go.Proofs.YtoighiepglclkaaGreatDoor
