/-
RegisterRaw: its row, its card.
-/
import Derived.Test.YtlkhoommpkndpaaGreatDoorKhRw9B
namespace Go.Proofs.YtlkhoommpkndpaaGreatDoor
open Go.ChangeShapes Go.WideShapes Go.ChangeAt Go.ChangeMaps Go.RowKit

set_option maxRecDepth 100000 in
theorem registerRaw_holds : Rows.RegisterRawSaid :=
  OpenClaim.holds_of_wide 12 Tryz.f12 rfl rfl rfl rfl rfl rfl rfl ⟨rfl, rfl, rfl, rfl, rfl⟩ rfl rfl rfl rfl rfl b6p Tryz.func12 b1b b6n b6m
    (fun os started H enc _ => registerRaw_lifted os started H enc)

set_option maxRecDepth 100000 in
theorem registerRaw_card : Rows.RegisterRawCardSaid :=
  Claim7.holds_tied_plain_at .later [] [.data, .pinned] true (true, "aafbe1386d807dad37a79c7fa2b26015e6709179b19c3fe9b44d046f842cbda9") false registerRaw_holds (fun _ h => by cases h) (by kernel_rfl) (fun _ h => by cases h) registerRaw_row_tie rfl ⟨rfl, rfl⟩ (by kernel_rfl) rfl
    (fun f fn hf hfn => by
      obtain rfl : f = 12 := Option.some.inj ((show Tryz.prog.funcNamed "insolvency/insolvencylaw10.RegisterRaw" = some 12 by kernel_rfl).symm.trans hf) |>.symm
      obtain rfl : fn = Tryz.f12 := (Option.some.inj (Tryz.func12.symm.trans hfn)).symm
      exact ⟨by kernel_rfl, fun j t ht => by
        rw [Tryz.params12] at ht
        have hm : t ∈ [24, 56, 3] := by simpa using Array.mem_of_getElem? ht
        have hall : ([24, 56, 3].all fun u => !Tryz.prog.wantsStandIn u) = true := by kernel_rfl
        exact (show Tryz.prog.wantsStandIn t = false by simpa using List.all_eq_true.1 hall t hm)⟩)
    (by kernel_rfl)
#print axioms registerRaw_card

end Go.Proofs.YtlkhoommpkndpaaGreatDoor
