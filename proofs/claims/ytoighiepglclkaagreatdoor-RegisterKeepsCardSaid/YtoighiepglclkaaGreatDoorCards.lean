/-
  DERIVED. GIVEN WITH THE SEED: THE CARDS: each row of YtoighiepglclkaaGreatDoorRows.lean that lists a variable, with what it lists TIED to the program's text (the seventh form; the later family's looks); each row that meets fmt, with fmt's text TOLD by the authors' own Lean function (tested against real Go, not proved from fmt's source: count such statements apart). THE CARD IS WHAT COUNTS. Prove the row's statement (the work); the ties are given (YtoighiepglclkaaGreatDoorTie.lean); close each card by the builder's one call (the guide's Derived/Test/ToyasCard.lean, 'card_holds'). Laid BY PROGRAM, IN A SANDBOX (cutbox-door.mjs). By AI agents, Wed Nov 11 2026. No macro, syntax, notation, axiom, sorry.
-/
import Derived.Test.YtoighiepglclkaaGreatDoorRows
import GoSem.ClaimSeven
namespace Go.Proofs.YtoighiepglclkaaGreatDoor
namespace Rows

/-- THE TIED CARD OF 'insolvencylaw10.RegisterKeeps'. -/
def registerKeepsCard : Claim7 := { stood := { row := registerKeepsRow, standIns := [], harness := (true, "21341e5a6132fd4690d598ffc3d4e836769b92a4b2cbc569a5179b7a8c786661"), looks := false }, kinds := [], alts := [], laidByText := true, laidKinds := [.data, .pinned], laidTests := true, laidLooks := .later }
def RegisterKeepsCardSaid : Prop := Claim7.holds Tryz.pinned (.plain (OpenSpec.ofChange registerKeepsSpec)) registerKeepsCard

/-- THE SECOND FORM's CARD OF 'insolvencylaw10.RegisterKeeps'. -/
def registerKeepsUptoCard : Claim7 := { stood := { row := registerKeepsUptoRow, standIns := [], harness := (true, "21341e5a6132fd4690d598ffc3d4e836769b92a4b2cbc569a5179b7a8c786661"), looks := false }, kinds := [], alts := [], laidByText := true, laidKinds := [.data, .pinned], laidTests := true, laidLooks := .later }
def RegisterKeepsUptoCardSaid : Prop := Claim7.holds Tryz.pinned (.plain (OpenSpec.upto registerKeepsSpec)) registerKeepsUptoCard
end Rows
end Go.Proofs.YtoighiepglclkaaGreatDoor
