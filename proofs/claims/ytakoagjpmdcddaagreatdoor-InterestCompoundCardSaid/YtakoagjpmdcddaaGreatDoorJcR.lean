/-
InterestCompound: its row, its card.
-/
import Derived.Test.YtakoagjpmdcddaaGreatDoorJcRB
namespace Go.Proofs.YtakoagjpmdcddaaGreatDoor
open Go.ChangeShapes Go.WideShapes Go.ChangeAt Go.ChangeMaps Go.RowKit

set_option maxRecDepth 100000 in
theorem interestCompound_holds : Rows.InterestCompoundSaid :=
  OpenClaim.holds_of_wide 3 Tryz.f3 rfl rfl rfl rfl rfl rfl rfl ⟨rfl, rfl, rfl, rfl, rfl⟩ rfl rfl rfl rfl rfl interestCompound_f5 Tryz.func3 interestCompound_closed interestCompound_f6 interestCompound_f7
    (fun os started H enc _ => interestCompound_lifted os started H enc)

set_option maxRecDepth 100000 in
theorem interestCompound_card : Rows.InterestCompoundCardSaid :=
  Claim7.holds_tied_plain_at .later [] [.data, .pinned] true (true, "b83ef53b3b7a4a21d86c2b80b0f69e995fbf76b4eb65c9a9c7b79ba6ba42cfb5") false interestCompound_holds (fun _ h => by cases h) (by kernel_rfl) (fun _ h => by cases h) interestCompound_row_tie rfl ⟨rfl, rfl⟩ (by kernel_rfl) rfl
    (fun f fn hf hfn => by
      obtain rfl : f = 3 := Option.some.inj ((show Tryz.prog.funcNamed "insolvency/insolvencylaw6.InterestCompound" = some 3 by kernel_rfl).symm.trans hf) |>.symm
      obtain rfl : fn = Tryz.f3 := (Option.some.inj (Tryz.func3.symm.trans hfn)).symm
      exact ⟨by kernel_rfl, fun j t ht => by
        rw [Tryz.params3] at ht
        have hm : t ∈ [23, 24, 3, 3, 3, 3] := by simpa using Array.mem_of_getElem? ht
        have hall : ([23, 24, 3, 3, 3, 3].all fun u => !Tryz.prog.wantsStandIn u) = true := by kernel_rfl
        exact (show Tryz.prog.wantsStandIn t = false by simpa using List.all_eq_true.1 hall t hm)⟩)
    (by kernel_rfl)
#print axioms interestCompound_card

end Go.Proofs.YtakoagjpmdcddaaGreatDoor
