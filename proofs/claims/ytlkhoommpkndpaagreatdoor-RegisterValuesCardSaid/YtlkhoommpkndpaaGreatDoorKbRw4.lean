/-
RegisterValues: its row, its card.
-/
import Derived.Test.YtlkhoommpkndpaaGreatDoorKbRw4B
namespace Go.Proofs.YtlkhoommpkndpaaGreatDoor
open Go.ChangeShapes Go.WideShapes Go.ChangeAt Go.ChangeMaps Go.RowKit

set_option maxRecDepth 100000 in
theorem registerValues_holds : Rows.RegisterValuesSaid :=
  OpenClaim.holds_of_wide 5 Tryz.f5 rfl rfl rfl rfl rfl rfl rfl ⟨rfl, rfl, rfl, rfl, rfl⟩ rfl rfl rfl rfl rfl registerValues_f5 Tryz.func5 registerValues_closed registerValues_f6 registerValues_f7
    (fun os started H enc _ => registerValues_lifted os started H enc)

set_option maxRecDepth 100000 in
theorem registerValues_card : Rows.RegisterValuesCardSaid :=
  Claim7.holds_tied_plain_at .later [] [.data, .pinned] true (true, "aafbe1386d807dad37a79c7fa2b26015e6709179b19c3fe9b44d046f842cbda9") false registerValues_holds (fun _ h => by cases h) (by kernel_rfl) (fun _ h => by cases h) registerValues_row_tie rfl ⟨rfl, rfl⟩ (by kernel_rfl) rfl
    (fun f fn hf hfn => by
      obtain rfl : f = 5 := Option.some.inj ((show Tryz.prog.funcNamed "insolvency/insolvencylaw10.RegisterValues" = some 5 by kernel_rfl).symm.trans hf) |>.symm
      obtain rfl : fn = Tryz.f5 := (Option.some.inj (Tryz.func5.symm.trans hfn)).symm
      exact ⟨by kernel_rfl, fun j t ht => by
        rw [Tryz.params5] at ht
        have hm : t ∈ [47, 5, 48] := by simpa using Array.mem_of_getElem? ht
        have hall : ([47, 5, 48].all fun u => !Tryz.prog.wantsStandIn u) = true := by kernel_rfl
        exact (show Tryz.prog.wantsStandIn t = false by simpa using List.all_eq_true.1 hall t hm)⟩)
    (by kernel_rfl)
#print axioms registerValues_card

end Go.Proofs.YtlkhoommpkndpaaGreatDoor
