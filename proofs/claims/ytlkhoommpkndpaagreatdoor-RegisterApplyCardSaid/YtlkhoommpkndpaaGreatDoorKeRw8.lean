/-
RegisterApply: its row, its card.
-/
import Derived.Test.YtlkhoommpkndpaaGreatDoorKeRw8B
namespace Go.Proofs.YtlkhoommpkndpaaGreatDoor
open Go.ChangeShapes Go.WideShapes Go.ChangeAt Go.ChangeMaps Go.RowKit

set_option maxRecDepth 100000 in
theorem registerApply_holds : Rows.RegisterApplySaid :=
  OpenClaim.holds_of_wide 6 Tryz.f6 rfl rfl rfl rfl rfl rfl rfl ⟨rfl, rfl, rfl, rfl, rfl⟩ rfl rfl rfl rfl rfl b3w Tryz.func6 b0f b3v b3u
    (fun os started H enc _ => registerApply_lifted os started H enc)

set_option maxRecDepth 100000 in
theorem registerApply_card : Rows.RegisterApplyCardSaid :=
  Claim7.holds_tied_plain_at .later [] [.data, .pinned] true (true, "aafbe1386d807dad37a79c7fa2b26015e6709179b19c3fe9b44d046f842cbda9") false registerApply_holds (fun _ h => by cases h) (by kernel_rfl) (fun _ h => by cases h) registerApply_row_tie rfl ⟨rfl, rfl⟩ (by kernel_rfl) rfl
    (fun f fn hf hfn => by
      obtain rfl : f = 6 := Option.some.inj ((show Tryz.prog.funcNamed "insolvency/insolvencylaw10.RegisterApply" = some 6 by kernel_rfl).symm.trans hf) |>.symm
      obtain rfl : fn = Tryz.f6 := (Option.some.inj (Tryz.func6.symm.trans hfn)).symm
      exact ⟨by kernel_rfl, fun j t ht => by
        rw [Tryz.params6] at ht
        have hm : t ∈ [5, 5, 52, 48] := by simpa using Array.mem_of_getElem? ht
        have hall : ([5, 5, 52, 48].all fun u => !Tryz.prog.wantsStandIn u) = true := by kernel_rfl
        exact (show Tryz.prog.wantsStandIn t = false by simpa using List.all_eq_true.1 hall t hm)⟩)
    (by kernel_rfl)
#print axioms registerApply_card

end Go.Proofs.YtlkhoommpkndpaaGreatDoor
