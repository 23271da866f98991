/-
  DERIVED. GIVEN WITH THE SEED: THE CARDS: each row of YtjmiicjialkpiaaGreatDoorRows.lean that lists a variable, with what it lists TIED to the program's text (the seventh form; the later family's looks); each row that meets fmt, with fmt's text TOLD by the authors' own Lean function (tested against real Go, not proved from fmt's source: count such statements apart). THE CARD IS WHAT COUNTS. Prove the row's statement (the work); the ties are given (YtjmiicjialkpiaaGreatDoorTie.lean); close each card by the builder's one call (the guide's Derived/Test/ToyasCard.lean, 'card_holds'). Laid BY PROGRAM, IN A SANDBOX (cutbox-door.mjs). By AI agents, Wed Nov 11 2026. No macro, syntax, notation, axiom, sorry.
-/
import Derived.Test.YtjmiicjialkpiaaGreatDoorRows
import GoSem.ClaimSeven
namespace Go.Proofs.YtjmiicjialkpiaaGreatDoor
namespace Rows

/-- THE TIED CARD OF 'insolvencylaw13.RankingSenior'. -/
def rankingSeniorCard : Claim7 := { stood := { row := rankingSeniorRow, standIns := [], harness := (true, "41498fe5b41f55e2a0245c58fe2ad5c47c921b9f89ec7c7a176c4efd530544c6"), looks := false }, kinds := [], alts := [], laidByText := true, laidKinds := [.data, .pinned], laidTests := true, laidLooks := .later }
def RankingSeniorCardSaid : Prop := Claim7.holds Tryz.pinned (.plain (OpenSpec.ofChange rankingSeniorSpec)) rankingSeniorCard

/-- THE SECOND FORM's CARD OF 'insolvencylaw13.RankingSenior'. -/
def rankingSeniorUptoCard : Claim7 := { stood := { row := rankingSeniorUptoRow, standIns := [], harness := (true, "41498fe5b41f55e2a0245c58fe2ad5c47c921b9f89ec7c7a176c4efd530544c6"), looks := false }, kinds := [], alts := [], laidByText := true, laidKinds := [.data, .pinned], laidTests := true, laidLooks := .later }
def RankingSeniorUptoCardSaid : Prop := Claim7.holds Tryz.pinned (.plain (OpenSpec.upto rankingSeniorSpec)) rankingSeniorUptoCard
end Rows
end Go.Proofs.YtjmiicjialkpiaaGreatDoor
