/-
  DERIVED. GIVEN WITH THE SEED: THE CARDS: each row of YtakoagjpmdcddaaGreatDoorRows.lean that lists a variable, with what it lists TIED to the program's text (the seventh form; the later family's looks); each row that meets fmt, with fmt's text TOLD by the authors' own Lean function (tested against real Go, not proved from fmt's source: count such statements apart). THE CARD IS WHAT COUNTS. Prove the row's statement (the work); the ties are given (YtakoagjpmdcddaaGreatDoorTie.lean); close each card by the builder's one call (the guide's Derived/Test/ToyasCard.lean, 'card_holds'). Laid BY PROGRAM, IN A SANDBOX (cutbox-door.mjs). By AI agents, Wed Nov 11 2026. No macro, syntax, notation, axiom, sorry.
-/
import Derived.Test.YtakoagjpmdcddaaGreatDoorRows
import GoSem.ClaimSeven
namespace Go.Proofs.YtakoagjpmdcddaaGreatDoor
namespace Rows

/-- THE TIED CARD OF 'insolvencylaw6.InterestCompound'. -/
def interestCompoundCard : Claim7 := { stood := { row := interestCompoundRow, standIns := [], harness := (true, "b83ef53b3b7a4a21d86c2b80b0f69e995fbf76b4eb65c9a9c7b79ba6ba42cfb5"), looks := false }, kinds := [], alts := [], laidByText := true, laidKinds := [.data, .pinned], laidTests := true, laidLooks := .later }
def InterestCompoundCardSaid : Prop := Claim7.holds Tryz.pinned (.plain (OpenSpec.ofChange interestCompoundSpec)) interestCompoundCard

/-- THE TIED CARD OF 'insolvencylaw6.InterestPeriods'. -/
def interestPeriodsCard : Claim7 := { stood := { row := interestPeriodsRow, standIns := [], harness := (true, "b83ef53b3b7a4a21d86c2b80b0f69e995fbf76b4eb65c9a9c7b79ba6ba42cfb5"), looks := false }, kinds := [], alts := [], laidByText := true, laidKinds := [.data, .pinned], laidTests := true, laidLooks := .later }
def InterestPeriodsCardSaid : Prop := Claim7.holds Tryz.pinned (.plain (OpenSpec.ofChange interestPeriodsSpec)) interestPeriodsCard

/-- THE TIED CARD OF 'insolvencylaw30.VoteThreshold'. -/
def voteThresholdCard : Claim7 := { stood := { row := voteThresholdRow, standIns := [], harness := (true, "b83ef53b3b7a4a21d86c2b80b0f69e995fbf76b4eb65c9a9c7b79ba6ba42cfb5"), looks := false }, kinds := [], alts := [], laidByText := true, laidKinds := [.data, .pinned], laidTests := true, laidLooks := .later }
def VoteThresholdCardSaid : Prop := Claim7.holds Tryz.pinned (.plain (OpenSpec.ofChange voteThresholdSpec)) voteThresholdCard

/-- THE TIED CARD OF 'insolvencylaw30.VoteCount'. -/
def voteCountCard : Claim7 := { stood := { row := voteCountRow, standIns := [], harness := (true, "b83ef53b3b7a4a21d86c2b80b0f69e995fbf76b4eb65c9a9c7b79ba6ba42cfb5"), looks := false }, kinds := [], alts := [], laidByText := true, laidKinds := [.data, .pinned], laidTests := true, laidLooks := .later }
def VoteCountCardSaid : Prop := Claim7.holds Tryz.pinned (.plain (OpenSpec.ofChange voteCountSpec)) voteCountCard

/-- THE TIED CARD OF 'insolvencylaw30.VoteAccepts'. -/
def voteAcceptsCard : Claim7 := { stood := { row := voteAcceptsRow, standIns := [], harness := (true, "b83ef53b3b7a4a21d86c2b80b0f69e995fbf76b4eb65c9a9c7b79ba6ba42cfb5"), looks := false }, kinds := [], alts := [], laidByText := true, laidKinds := [.data, .pinned], laidTests := true, laidLooks := .later }
def VoteAcceptsCardSaid : Prop := Claim7.holds Tryz.pinned (.plain (OpenSpec.ofChange voteAcceptsSpec)) voteAcceptsCard

/-- THE SECOND FORM's CARD OF 'insolvencylaw6.InterestCompound'. -/
def interestCompoundUptoCard : Claim7 := { stood := { row := interestCompoundUptoRow, standIns := [], harness := (true, "b83ef53b3b7a4a21d86c2b80b0f69e995fbf76b4eb65c9a9c7b79ba6ba42cfb5"), looks := false }, kinds := [], alts := [], laidByText := true, laidKinds := [.data, .pinned], laidTests := true, laidLooks := .later }
def InterestCompoundUptoCardSaid : Prop := Claim7.holds Tryz.pinned (.plain (OpenSpec.upto interestCompoundSpec)) interestCompoundUptoCard

/-- THE SECOND FORM's CARD OF 'insolvencylaw6.InterestPeriods'. -/
def interestPeriodsUptoCard : Claim7 := { stood := { row := interestPeriodsUptoRow, standIns := [], harness := (true, "b83ef53b3b7a4a21d86c2b80b0f69e995fbf76b4eb65c9a9c7b79ba6ba42cfb5"), looks := false }, kinds := [], alts := [], laidByText := true, laidKinds := [.data, .pinned], laidTests := true, laidLooks := .later }
def InterestPeriodsUptoCardSaid : Prop := Claim7.holds Tryz.pinned (.plain (OpenSpec.upto interestPeriodsSpec)) interestPeriodsUptoCard

/-- THE SECOND FORM's CARD OF 'insolvencylaw30.VoteThreshold'. -/
def voteThresholdUptoCard : Claim7 := { stood := { row := voteThresholdUptoRow, standIns := [], harness := (true, "b83ef53b3b7a4a21d86c2b80b0f69e995fbf76b4eb65c9a9c7b79ba6ba42cfb5"), looks := false }, kinds := [], alts := [], laidByText := true, laidKinds := [.data, .pinned], laidTests := true, laidLooks := .later }
def VoteThresholdUptoCardSaid : Prop := Claim7.holds Tryz.pinned (.plain (OpenSpec.upto voteThresholdSpec)) voteThresholdUptoCard

/-- THE SECOND FORM's CARD OF 'insolvencylaw30.VoteCount'. -/
def voteCountUptoCard : Claim7 := { stood := { row := voteCountUptoRow, standIns := [], harness := (true, "b83ef53b3b7a4a21d86c2b80b0f69e995fbf76b4eb65c9a9c7b79ba6ba42cfb5"), looks := false }, kinds := [], alts := [], laidByText := true, laidKinds := [.data, .pinned], laidTests := true, laidLooks := .later }
def VoteCountUptoCardSaid : Prop := Claim7.holds Tryz.pinned (.plain (OpenSpec.upto voteCountSpec)) voteCountUptoCard

/-- THE SECOND FORM's CARD OF 'insolvencylaw30.VoteAccepts'. -/
def voteAcceptsUptoCard : Claim7 := { stood := { row := voteAcceptsUptoRow, standIns := [], harness := (true, "b83ef53b3b7a4a21d86c2b80b0f69e995fbf76b4eb65c9a9c7b79ba6ba42cfb5"), looks := false }, kinds := [], alts := [], laidByText := true, laidKinds := [.data, .pinned], laidTests := true, laidLooks := .later }
def VoteAcceptsUptoCardSaid : Prop := Claim7.holds Tryz.pinned (.plain (OpenSpec.upto voteAcceptsSpec)) voteAcceptsUptoCard
end Rows
end Go.Proofs.YtakoagjpmdcddaaGreatDoor
