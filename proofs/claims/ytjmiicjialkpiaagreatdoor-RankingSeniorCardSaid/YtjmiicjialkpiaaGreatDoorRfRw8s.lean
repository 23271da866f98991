/-
RankingSenior: its row,its card.
-/
import Derived.Test.YtjmiicjialkpiaaGreatDoorRfRw8sB
namespace Go.Proofs.YtjmiicjialkpiaaGreatDoor
open Go.ChangeShapes Go.WideShapes Go.ChangeAt Go.ChangeMaps Go.RowKit

set_option maxRecDepth 100000 in
theorem rankingSenior_holds:Rows.RankingSeniorSaid :=
  OpenClaim.holds_of_wide 3 Tryz.f3 rfl rfl rfl rfl rfl rfl rfl ⟨rfl,rfl,rfl,rfl,rfl⟩ rfl rfl rfl rfl rfl b3t Tryz.func3 b0a b3s b3r
    (fun os started H enc _=>rankingSenior_lifted os started H enc)

set_option maxRecDepth 100000 in
theorem rankingSenior_card:Rows.RankingSeniorCardSaid :=
  Claim7.holds_tied_plain_at .later [] [.data, .pinned] true (true, "41498fe5b41f55e2a0245c58fe2ad5c47c921b9f89ec7c7a176c4efd530544c6") false rankingSenior_holds (fun _ h => by cases h) (by kernel_rfl) (fun _ h => by cases h) rankingSenior_row_tie rfl ⟨rfl, rfl⟩ (by kernel_rfl) rfl
    (fun f fn hf hfn=>by
      obtain rfl : f = 3 := Option.some.inj ((show Tryz.prog.funcNamed "insolvency/insolvencylaw13.RankingSenior" = some 3 by kernel_rfl).symm.trans hf) |>.symm
      obtain rfl:fn=Tryz.f3:=(Option.some.inj (Tryz.func3.symm.trans hfn)).symm
      exact⟨by kernel_rfl,fun j t ht=>by
        rw[Tryz.params3]at ht
        have hm:t∈[22,23,24]:=by simpa using Array.mem_of_getElem? ht
        have hall:([22,23,24].all fun u=>!Tryz.prog.wantsStandIn u)=true:=by kernel_rfl
        exact(show Tryz.prog.wantsStandIn t=false by simpa using List.all_eq_true.1 hall t hm)⟩)
    (by kernel_rfl)
#print axioms rankingSenior_card

end Go.Proofs.YtjmiicjialkpiaaGreatDoor
