/-
InterestSimple: its row, its card.
-/
import Derived.Test.YtcbjehnjbfmchaaDoorR5
namespace Go.Proofs.YtcbjehnjbfmchaaDoor
open Go.ChangeShapes Go.WideShapes Go.ChangeAt Go.ChangeMaps Go.RowKit

set_option maxRecDepth 100000 in
theorem interestSimple_holds : Rows.InterestSimpleSaid :=
  OpenClaim.holds_of_wide 11 Tryd.f11 rfl rfl rfl rfl rfl rfl rfl ⟨rfl, rfl, rfl, rfl, rfl⟩ rfl rfl rfl rfl rfl interestSimple_f5 Tryd.func11 interestSimple_closed interestSimple_f6 interestSimple_f7
    (fun os started H enc _ => interestSimple_lifted os started H enc)

set_option maxRecDepth 100000 in
theorem interestSimple_card : Rows.InterestSimpleCardSaid :=
  Claim7.holds_tied_plain_at .later [] [.data, .pinned] true (true, "9202a00ce268925bc076c3f8bf0d41c12160ba03541809317b2e0cdca78e2ce3") false interestSimple_holds (fun _ h => by cases h) (by kernel_rfl) (fun _ h => by cases h) interestSimple_row_tie rfl ⟨rfl, rfl⟩ (by kernel_rfl) rfl
    (fun f fn hf hfn => by
      obtain rfl : f = 11 := Option.some.inj ((show Tryd.prog.funcNamed "insolvency/insolvencylaw6.InterestSimple" = some 11 by kernel_rfl).symm.trans hf) |>.symm
      obtain rfl : fn = Tryd.f11 := (Option.some.inj (Tryd.func11.symm.trans hfn)).symm
      exact ⟨by kernel_rfl, fun j t ht => by
        rw [Tryd.params11] at ht
        have hm : t ∈ [30, 51, 3, 3, 3] := by simpa using Array.mem_of_getElem? ht
        have hall : ([30, 51, 3, 3, 3].all fun u => !Tryd.prog.wantsStandIn u) = true := by kernel_rfl
        exact (show Tryd.prog.wantsStandIn t = false by simpa using List.all_eq_true.1 hall t hm)⟩)
    (by kernel_rfl)
#print axioms interestSimple_card

end Go.Proofs.YtcbjehnjbfmchaaDoor
