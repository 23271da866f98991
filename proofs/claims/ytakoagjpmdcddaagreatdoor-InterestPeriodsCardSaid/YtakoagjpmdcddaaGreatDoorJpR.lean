/-
InterestPeriods: its row, its card.
-/
import Derived.Test.YtakoagjpmdcddaaGreatDoorJpRB
namespace Go.Proofs.YtakoagjpmdcddaaGreatDoor
open Go.ChangeShapes Go.WideShapes Go.ChangeAt Go.ChangeMaps Go.RowKit

set_option maxRecDepth 100000 in
theorem interestPeriods_holds : Rows.InterestPeriodsSaid :=
  OpenClaim.holds_of_wide 4 Tryz.f4 rfl rfl rfl rfl rfl rfl rfl ⟨rfl, rfl, rfl, rfl, rfl⟩ rfl rfl rfl rfl rfl interestPeriods_f5 Tryz.func4 interestPeriods_closed interestPeriods_f6 interestPeriods_f7
    (fun os started H enc _ => interestPeriods_lifted os started H enc)

set_option maxRecDepth 100000 in
theorem interestPeriods_card : Rows.InterestPeriodsCardSaid :=
  Claim7.holds_tied_plain_at .later [] [.data, .pinned] true (true, "b83ef53b3b7a4a21d86c2b80b0f69e995fbf76b4eb65c9a9c7b79ba6ba42cfb5") false interestPeriods_holds (fun _ h => by cases h) (by kernel_rfl) (fun _ h => by cases h) interestPeriods_row_tie rfl ⟨rfl, rfl⟩ (by kernel_rfl) rfl
    (fun f fn hf hfn => by
      obtain rfl : f = 4 := Option.some.inj ((show Tryz.prog.funcNamed "insolvency/insolvencylaw6.InterestPeriods" = some 4 by kernel_rfl).symm.trans hf) |>.symm
      obtain rfl : fn = Tryz.f4 := (Option.some.inj (Tryz.func4.symm.trans hfn)).symm
      exact ⟨by kernel_rfl, fun j t ht => by
        rw [Tryz.params4] at ht
        have hm : t ∈ [37, 38, 5, 5, 5] := by simpa using Array.mem_of_getElem? ht
        have hall : ([37, 38, 5, 5, 5].all fun u => !Tryz.prog.wantsStandIn u) = true := by kernel_rfl
        exact (show Tryz.prog.wantsStandIn t = false by simpa using List.all_eq_true.1 hall t hm)⟩)
    (by kernel_rfl)
#print axioms interestPeriods_card

end Go.Proofs.YtakoagjpmdcddaaGreatDoor
