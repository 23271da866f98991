/-
RegisterValue: its row, its card.
-/
import Derived.Test.YtlkhoommpkndpaaGreatDoorKbRw3B
namespace Go.Proofs.YtlkhoommpkndpaaGreatDoor
open Go.ChangeShapes Go.WideShapes Go.ChangeAt Go.ChangeMaps Go.RowKit

set_option maxRecDepth 100000 in
theorem registerValue_holds : Rows.RegisterValueSaid :=
  OpenClaim.holds_of_wide 4 Tryz.f4 rfl rfl rfl rfl rfl rfl rfl ⟨rfl, rfl, rfl, rfl, rfl⟩ rfl rfl rfl rfl rfl registerValue_f5 Tryz.func4 registerValue_closed registerValue_f6 registerValue_f7
    (fun os started H enc _ => registerValue_lifted os started H enc)

set_option maxRecDepth 100000 in
theorem registerValue_card : Rows.RegisterValueCardSaid :=
  Claim7.holds_tied_plain_at .later [] [.data, .pinned] true (true, "aafbe1386d807dad37a79c7fa2b26015e6709179b19c3fe9b44d046f842cbda9") false registerValue_holds (fun _ h => by cases h) (by kernel_rfl) (fun _ h => by cases h) registerValue_row_tie rfl ⟨rfl, rfl⟩ (by kernel_rfl) rfl
    (fun f fn hf hfn => by
      obtain rfl : f = 4 := Option.some.inj ((show Tryz.prog.funcNamed "insolvency/insolvencylaw10.RegisterValue" = some 4 by kernel_rfl).symm.trans hf) |>.symm
      obtain rfl : fn = Tryz.f4 := (Option.some.inj (Tryz.func4.symm.trans hfn)).symm
      exact ⟨by kernel_rfl, fun j t ht => by
        rw [Tryz.params4] at ht
        have hm : t ∈ [36, 3, 37] := by simpa using Array.mem_of_getElem? ht
        have hall : ([36, 3, 37].all fun u => !Tryz.prog.wantsStandIn u) = true := by kernel_rfl
        exact (show Tryz.prog.wantsStandIn t = false by simpa using List.all_eq_true.1 hall t hm)⟩)
    (by kernel_rfl)
#print axioms registerValue_card

end Go.Proofs.YtlkhoommpkndpaaGreatDoor
