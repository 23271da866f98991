/-
InterestCheck: its row, its card.
-/
import Derived.Test.YtcbjehnjbfmchaaDoorR1
namespace Go.Proofs.YtcbjehnjbfmchaaDoor
open Go.ChangeShapes Go.WideShapes Go.ChangeAt Go.ChangeMaps Go.RowKit

set_option maxRecDepth 100000 in
theorem interestCheck_holds : Rows.InterestCheckSaid :=
  OpenClaim.holds_of_wide 10 Tryd.f10 rfl rfl rfl rfl rfl rfl rfl ⟨rfl, rfl, rfl, rfl, rfl⟩ rfl rfl rfl rfl rfl interestCheck_f5 Tryd.func10 interestCheck_closed interestCheck_f6 interestCheck_f7
    (fun os started H enc _ => interestCheck_lifted os started H enc)

set_option maxRecDepth 100000 in
theorem interestCheck_card : Rows.InterestCheckCardSaid :=
  Claim7.holds_tied_plain_at .later [] [.data, .pinned] true (true, "9202a00ce268925bc076c3f8bf0d41c12160ba03541809317b2e0cdca78e2ce3") false interestCheck_holds (fun _ h => by cases h) (by kernel_rfl) (fun _ h => by cases h) interestCheck_row_tie rfl ⟨rfl, rfl⟩ (by kernel_rfl) rfl
    (fun f fn hf hfn => by
      obtain rfl : f = 10 := Option.some.inj ((show Tryd.prog.funcNamed "insolvency/insolvencylaw6.InterestCheck" = some 10 by kernel_rfl).symm.trans hf) |>.symm
      obtain rfl : fn = Tryd.f10 := (Option.some.inj (Tryd.func10.symm.trans hfn)).symm
      exact ⟨by kernel_rfl, fun j t ht => by
        rw [Tryd.params10] at ht
        have hm : t ∈ [51] := by simpa using Array.mem_of_getElem? ht
        have hall : ([51].all fun u => !Tryd.prog.wantsStandIn u) = true := by kernel_rfl
        exact (show Tryd.prog.wantsStandIn t = false by simpa using List.all_eq_true.1 hall t hm)⟩)
    (by kernel_rfl)
#print axioms interestCheck_card

end Go.Proofs.YtcbjehnjbfmchaaDoor
