/-
  DERIVED. GIVEN WITH THE SEED: THE CARDS: each row of YtakoagjpmdcddaaDoorRows.lean that lists a variable, with what it lists TIED to the program's text (the seventh form; the later family's looks); each row that meets fmt, with fmt's text TOLD by the authors' own Lean function (tested against real Go, not proved from fmt's source: count such statements apart). THE CARD IS WHAT COUNTS. Prove the row's statement (the work); the ties are given (YtakoagjpmdcddaaDoorTie.lean); close each card by the builder's one call (the guide's Derived/Test/ToyasCard.lean, 'card_holds'). Laid BY PROGRAM, IN A SANDBOX (cutbox-door.mjs). By AI agents, Wed Nov 11 2026. No macro, syntax, notation, axiom, sorry.
-/
import Derived.Test.YtakoagjpmdcddaaDoorRows
import GoSem.ClaimSeven
namespace Go.Proofs.YtakoagjpmdcddaaDoor
namespace Rows

/-- THE TIED CARD OF 'insolvencylaw30.VoteCheck'. -/
def voteCheckCard : Claim7 := { stood := { row := voteCheckRow, standIns := [], harness := (true, "4312eee3ced996c5d1c1a671494921aeca60ddab5c8eaece76f96a47c31c2f16"), looks := false }, kinds := [], alts := [], laidByText := true, laidKinds := [.data, .pinned], laidTests := true, laidLooks := .later }
def VoteCheckCardSaid : Prop := Claim7.holds Tryd.pinned (.plain (OpenSpec.ofChange voteCheckSpec)) voteCheckCard

/-- THE TIED CARD OF 'insolvencylaw30.VoteLeast'. -/
def voteLeastCard : Claim7 := { stood := { row := voteLeastRow, standIns := [], harness := (true, "4312eee3ced996c5d1c1a671494921aeca60ddab5c8eaece76f96a47c31c2f16"), looks := false }, kinds := [], alts := [], laidByText := true, laidKinds := [.data, .pinned], laidTests := true, laidLooks := .later }
def VoteLeastCardSaid : Prop := Claim7.holds Tryd.pinned (.plain (OpenSpec.ofChange voteLeastSpec)) voteLeastCard

/-- THE TIED CARD OF 'insolvencylaw30.VoteOrder'. -/
def voteOrderCard : Claim7 := { stood := { row := voteOrderRow, standIns := [], harness := (true, "4312eee3ced996c5d1c1a671494921aeca60ddab5c8eaece76f96a47c31c2f16"), looks := false }, kinds := [], alts := [], laidByText := true, laidKinds := [.data, .pinned], laidTests := true, laidLooks := .later }
def VoteOrderCardSaid : Prop := Claim7.holds Tryd.pinned (.plain (OpenSpec.ofChange voteOrderSpec)) voteOrderCard

/-- THE TIED CARD OF 'insolvencylaw30.VoteMore'. -/
def voteMoreCard : Claim7 := { stood := { row := voteMoreRow, standIns := [], harness := (true, "4312eee3ced996c5d1c1a671494921aeca60ddab5c8eaece76f96a47c31c2f16"), looks := false }, kinds := [], alts := [], laidByText := true, laidKinds := [.data, .pinned], laidTests := true, laidLooks := .later }
def VoteMoreCardSaid : Prop := Claim7.holds Tryd.pinned (.plain (OpenSpec.ofChange voteMoreSpec)) voteMoreCard

/-- THE SECOND FORM's CARD OF 'insolvencylaw30.VoteCheck'. -/
def voteCheckUptoCard : Claim7 := { stood := { row := voteCheckUptoRow, standIns := [], harness := (true, "4312eee3ced996c5d1c1a671494921aeca60ddab5c8eaece76f96a47c31c2f16"), looks := false }, kinds := [], alts := [], laidByText := true, laidKinds := [.data, .pinned], laidTests := true, laidLooks := .later }
def VoteCheckUptoCardSaid : Prop := Claim7.holds Tryd.pinned (.plain (OpenSpec.upto voteCheckSpec)) voteCheckUptoCard

/-- THE SECOND FORM's CARD OF 'insolvencylaw30.VoteLeast'. -/
def voteLeastUptoCard : Claim7 := { stood := { row := voteLeastUptoRow, standIns := [], harness := (true, "4312eee3ced996c5d1c1a671494921aeca60ddab5c8eaece76f96a47c31c2f16"), looks := false }, kinds := [], alts := [], laidByText := true, laidKinds := [.data, .pinned], laidTests := true, laidLooks := .later }
def VoteLeastUptoCardSaid : Prop := Claim7.holds Tryd.pinned (.plain (OpenSpec.upto voteLeastSpec)) voteLeastUptoCard

/-- THE SECOND FORM's CARD OF 'insolvencylaw30.VoteOrder'. -/
def voteOrderUptoCard : Claim7 := { stood := { row := voteOrderUptoRow, standIns := [], harness := (true, "4312eee3ced996c5d1c1a671494921aeca60ddab5c8eaece76f96a47c31c2f16"), looks := false }, kinds := [], alts := [], laidByText := true, laidKinds := [.data, .pinned], laidTests := true, laidLooks := .later }
def VoteOrderUptoCardSaid : Prop := Claim7.holds Tryd.pinned (.plain (OpenSpec.upto voteOrderSpec)) voteOrderUptoCard

/-- THE SECOND FORM's CARD OF 'insolvencylaw30.VoteMore'. -/
def voteMoreUptoCard : Claim7 := { stood := { row := voteMoreUptoRow, standIns := [], harness := (true, "4312eee3ced996c5d1c1a671494921aeca60ddab5c8eaece76f96a47c31c2f16"), looks := false }, kinds := [], alts := [], laidByText := true, laidKinds := [.data, .pinned], laidTests := true, laidLooks := .later }
def VoteMoreUptoCardSaid : Prop := Claim7.holds Tryd.pinned (.plain (OpenSpec.upto voteMoreSpec)) voteMoreUptoCard
end Rows
end Go.Proofs.YtakoagjpmdcddaaDoor
