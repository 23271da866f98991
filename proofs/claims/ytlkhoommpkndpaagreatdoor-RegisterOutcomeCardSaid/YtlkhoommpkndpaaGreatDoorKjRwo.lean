/-
RegisterOutcome: its row, its card.
-/
import Derived.Test.YtlkhoommpkndpaaGreatDoorKjRwoB
namespace Go.Proofs.YtlkhoommpkndpaaGreatDoor
open Go.ChangeShapes Go.WideShapes Go.ChangeAt Go.ChangeMaps Go.RowKit

set_option maxRecDepth 100000 in
theorem registerOutcome_holds : Rows.RegisterOutcomeSaid :=
  OpenClaim.holds_of_wide 10 Tryz.f10 rfl rfl rfl rfl rfl rfl rfl ⟨rfl, rfl, rfl, rfl, rfl⟩ rfl rfl rfl rfl rfl a8v Tryz.func10 a6w a8u a8t
    (fun os started H enc _ => registerOutcome_lifted os started H enc)

set_option maxRecDepth 100000 in
theorem registerOutcome_card : Rows.RegisterOutcomeCardSaid :=
  Claim7.holds_tied_plain_at .later [] [.data, .pinned] true (true, "aafbe1386d807dad37a79c7fa2b26015e6709179b19c3fe9b44d046f842cbda9") false registerOutcome_holds (fun _ h => by cases h) (by kernel_rfl) (fun _ h => by cases h) registerOutcome_row_tie rfl ⟨rfl, rfl⟩ (by kernel_rfl) rfl
    (fun f fn hf hfn => by
      obtain rfl : f = 10 := Option.some.inj ((show Tryz.prog.funcNamed "insolvency/insolvencylaw10.RegisterOutcome" = some 10 by kernel_rfl).symm.trans hf) |>.symm
      obtain rfl : fn = Tryz.f10 := (Option.some.inj (Tryz.func10.symm.trans hfn)).symm
      exact ⟨by kernel_rfl, fun j t ht => by
        rw [Tryz.params10] at ht
        have hm : t ∈ [47, 5, 5, 5, 4] := by simpa using Array.mem_of_getElem? ht
        have hall : ([47, 5, 5, 5, 4].all fun u => !Tryz.prog.wantsStandIn u) = true := by kernel_rfl
        exact (show Tryz.prog.wantsStandIn t = false by simpa using List.all_eq_true.1 hall t hm)⟩)
    (by kernel_rfl)
#print axioms registerOutcome_card

end Go.Proofs.YtlkhoommpkndpaaGreatDoor
