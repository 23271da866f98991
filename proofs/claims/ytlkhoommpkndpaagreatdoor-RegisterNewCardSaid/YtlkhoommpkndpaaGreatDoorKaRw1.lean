/-
RegisterNew: its row, its card.
-/
import Derived.Test.YtlkhoommpkndpaaGreatDoorKaRw1B
namespace Go.Proofs.YtlkhoommpkndpaaGreatDoor
open Go.ChangeShapes Go.WideShapes Go.ChangeAt Go.ChangeMaps Go.RowKit

set_option maxRecDepth 100000 in
theorem registerNew_holds : Rows.RegisterNewSaid :=
  OpenClaim.holds_of_wide 3 Tryz.f3 rfl rfl rfl rfl rfl rfl rfl ⟨rfl, rfl, rfl, rfl, rfl⟩ rfl rfl rfl rfl rfl registerNew_f5 Tryz.func3 registerNew_closed registerNew_f6 registerNew_f7
    (fun os started H enc _ => registerNew_lifted os started H enc)

set_option maxRecDepth 100000 in
theorem registerNew_card : Rows.RegisterNewCardSaid :=
  Claim7.holds_tied_plain_at .later [] [.data, .pinned] true (true, "aafbe1386d807dad37a79c7fa2b26015e6709179b19c3fe9b44d046f842cbda9") false registerNew_holds (fun _ h => by cases h) (by kernel_rfl) (fun _ h => by cases h) registerNew_row_tie rfl ⟨rfl, rfl⟩ (by kernel_rfl) rfl
    (fun f fn hf hfn => by
      obtain rfl : f = 3 := Option.some.inj ((show Tryz.prog.funcNamed "insolvency/insolvencylaw10.RegisterNew" = some 3 by kernel_rfl).symm.trans hf) |>.symm
      obtain rfl : fn = Tryz.f3 := (Option.some.inj (Tryz.func3.symm.trans hfn)).symm
      exact ⟨by kernel_rfl, fun j t ht => by
        rw [Tryz.params3] at ht
        have hm : t ∈ [3, 3] := by simpa using Array.mem_of_getElem? ht
        have hall : ([3, 3].all fun u => !Tryz.prog.wantsStandIn u) = true := by kernel_rfl
        exact (show Tryz.prog.wantsStandIn t = false by simpa using List.all_eq_true.1 hall t hm)⟩)
    (by kernel_rfl)
#print axioms registerNew_card

end Go.Proofs.YtlkhoommpkndpaaGreatDoor
