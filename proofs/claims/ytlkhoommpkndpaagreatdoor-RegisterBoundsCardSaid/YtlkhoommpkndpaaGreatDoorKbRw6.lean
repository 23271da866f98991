/-
RegisterBounds: its row, its card.
-/
import Derived.Test.YtlkhoommpkndpaaGreatDoorKbRw6B
namespace Go.Proofs.YtlkhoommpkndpaaGreatDoor
open Go.ChangeShapes Go.WideShapes Go.ChangeAt Go.ChangeMaps Go.RowKit

set_option maxRecDepth 100000 in
theorem registerBounds_holds : Rows.RegisterBoundsSaid :=
  OpenClaim.holds_of_wide 7 Tryz.f7 rfl rfl rfl rfl rfl rfl rfl ⟨rfl, rfl, rfl, rfl, rfl⟩ rfl rfl rfl rfl rfl registerBounds_f5 Tryz.func7 registerBounds_closed registerBounds_f6 registerBounds_f7
    (fun os started H enc _ => registerBounds_lifted os started H enc)

set_option maxRecDepth 100000 in
theorem registerBounds_card : Rows.RegisterBoundsCardSaid :=
  Claim7.holds_tied_plain_at .later [] [.data, .pinned] true (true, "aafbe1386d807dad37a79c7fa2b26015e6709179b19c3fe9b44d046f842cbda9") false registerBounds_holds (fun _ h => by cases h) (by kernel_rfl) (fun _ h => by cases h) registerBounds_row_tie rfl ⟨rfl, rfl⟩ (by kernel_rfl) rfl
    (fun f fn hf hfn => by
      obtain rfl : f = 7 := Option.some.inj ((show Tryz.prog.funcNamed "insolvency/insolvencylaw10.RegisterBounds" = some 7 by kernel_rfl).symm.trans hf) |>.symm
      obtain rfl : fn = Tryz.f7 := (Option.some.inj (Tryz.func7.symm.trans hfn)).symm
      exact ⟨by kernel_rfl, fun j t ht => by
        rw [Tryz.params7] at ht
        have hm : t ∈ [5, 5, 52, 48] := by simpa using Array.mem_of_getElem? ht
        have hall : ([5, 5, 52, 48].all fun u => !Tryz.prog.wantsStandIn u) = true := by kernel_rfl
        exact (show Tryz.prog.wantsStandIn t = false by simpa using List.all_eq_true.1 hall t hm)⟩)
    (by kernel_rfl)
#print axioms registerBounds_card

end Go.Proofs.YtlkhoommpkndpaaGreatDoor
