/-
RegisterNarrows: its row, its card.
-/
import Derived.Test.YtlkhoommpkndpaaGreatDoorKdRw5B
namespace Go.Proofs.YtlkhoommpkndpaaGreatDoor
open Go.ChangeShapes Go.WideShapes Go.ChangeAt Go.ChangeMaps Go.RowKit

set_option maxRecDepth 100000 in
theorem registerNarrows_holds : Rows.RegisterNarrowsSaid :=
  OpenClaim.holds_of_wide 8 Tryz.f8 rfl rfl rfl rfl rfl rfl rfl ⟨rfl, rfl, rfl, rfl, rfl⟩ rfl rfl rfl rfl rfl registerNarrows_f5 Tryz.func8 registerNarrows_closed registerNarrows_f6 registerNarrows_f7
    (fun os started H enc _ => registerNarrows_lifted os started H enc)

set_option maxRecDepth 100000 in
theorem registerNarrows_card : Rows.RegisterNarrowsCardSaid :=
  Claim7.holds_tied_plain_at .later [] [.data, .pinned] true (true, "aafbe1386d807dad37a79c7fa2b26015e6709179b19c3fe9b44d046f842cbda9") false registerNarrows_holds (fun _ h => by cases h) (by kernel_rfl) (fun _ h => by cases h) registerNarrows_row_tie rfl ⟨rfl, rfl⟩ (by kernel_rfl) rfl
    (fun f fn hf hfn => by
      obtain rfl : f = 8 := Option.some.inj ((show Tryz.prog.funcNamed "insolvency/insolvencylaw10.RegisterNarrows" = some 8 by kernel_rfl).symm.trans hf) |>.symm
      obtain rfl : fn = Tryz.f8 := (Option.some.inj (Tryz.func8.symm.trans hfn)).symm
      exact ⟨by kernel_rfl, fun j t ht => by
        rw [Tryz.params8] at ht
        have hm : t ∈ [5, 5, 52, 48, 54] := by simpa using Array.mem_of_getElem? ht
        have hall : ([5, 5, 52, 48, 54].all fun u => !Tryz.prog.wantsStandIn u) = true := by kernel_rfl
        exact (show Tryz.prog.wantsStandIn t = false by simpa using List.all_eq_true.1 hall t hm)⟩)
    (by kernel_rfl)
#print axioms registerNarrows_card

end Go.Proofs.YtlkhoommpkndpaaGreatDoor
