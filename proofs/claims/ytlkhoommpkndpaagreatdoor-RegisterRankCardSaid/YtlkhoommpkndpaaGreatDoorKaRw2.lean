/-
RegisterRank: its row, its card.
-/
import Derived.Test.YtlkhoommpkndpaaGreatDoorKaRw2B
namespace Go.Proofs.YtlkhoommpkndpaaGreatDoor
open Go.ChangeShapes Go.WideShapes Go.ChangeAt Go.ChangeMaps Go.RowKit

set_option maxRecDepth 100000 in
theorem registerRank_holds : Rows.RegisterRankSaid :=
  OpenClaim.holds_of_wide 11 Tryz.f11 rfl rfl rfl rfl rfl rfl rfl ⟨rfl, rfl, rfl, rfl, rfl⟩ rfl rfl rfl rfl rfl registerRank_f5 Tryz.func11 registerRank_closed registerRank_f6 registerRank_f7
    (fun os started H enc _ => registerRank_lifted os started H enc)

set_option maxRecDepth 100000 in
theorem registerRank_card : Rows.RegisterRankCardSaid :=
  Claim7.holds_tied_plain_at .later [] [.data, .pinned] true (true, "aafbe1386d807dad37a79c7fa2b26015e6709179b19c3fe9b44d046f842cbda9") false registerRank_holds (fun _ h => by cases h) (by kernel_rfl) (fun _ h => by cases h) registerRank_row_tie rfl ⟨rfl, rfl⟩ (by kernel_rfl) rfl
    (fun f fn hf hfn => by
      obtain rfl : f = 11 := Option.some.inj ((show Tryz.prog.funcNamed "insolvency/insolvencylaw10.RegisterRank" = some 11 by kernel_rfl).symm.trans hf) |>.symm
      obtain rfl : fn = Tryz.f11 := (Option.some.inj (Tryz.func11.symm.trans hfn)).symm
      exact ⟨by kernel_rfl, fun j t ht => by
        rw [Tryz.params11] at ht
        have hm : t ∈ [4, 3] := by simpa using Array.mem_of_getElem? ht
        have hall : ([4, 3].all fun u => !Tryz.prog.wantsStandIn u) = true := by kernel_rfl
        exact (show Tryz.prog.wantsStandIn t = false by simpa using List.all_eq_true.1 hall t hm)⟩)
    (by kernel_rfl)
#print axioms registerRank_card

end Go.Proofs.YtlkhoommpkndpaaGreatDoor
