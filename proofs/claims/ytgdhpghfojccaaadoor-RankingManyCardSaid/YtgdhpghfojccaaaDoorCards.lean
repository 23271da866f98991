/-
  DERIVED. GIVEN WITH THE SEED: THE CARDS: each row of YtgdhpghfojccaaaDoorRows.lean that lists a variable, with what it lists TIED to the program's text (the seventh form; the later family's looks); each row that meets fmt, with fmt's text TOLD by the authors' own Lean function (tested against real Go, not proved from fmt's source: count such statements apart). THE CARD IS WHAT COUNTS. Prove the row's statement (the work); the ties are given (YtgdhpghfojccaaaDoorTie.lean); close each card by the builder's one call (the guide's Derived/Test/ToyasCard.lean, 'card_holds'). Laid BY PROGRAM, IN A SANDBOX (cutbox-door.mjs). By AI agents, Wed Nov 11 2026. No macro, syntax, notation, axiom, sorry.
-/
import Derived.Test.YtgdhpghfojccaaaDoorRows
import GoSem.ClaimSeven
namespace Go.Proofs.YtgdhpghfojccaaaDoor
namespace Rows

/-- THE TIED CARD OF 'insolvencylaw13.RankingMany'. -/
def rankingManyCard : Claim7 := { stood := { row := rankingManyRow, standIns := [], harness := (true, "031fc2e0fc94b8c9aac1013f81544449471490cbcb6fe165cc3357df9fb1de6a"), looks := false }, kinds := [], alts := [], laidByText := true, laidKinds := [.data, .pinned], laidTests := true, laidLooks := .later }
def RankingManyCardSaid : Prop := Claim7.holds Tryd.pinned (.plain (OpenSpec.ofChange rankingManySpec)) rankingManyCard

/-- THE SECOND FORM's CARD OF 'insolvencylaw13.RankingMany'. -/
def rankingManyUptoCard : Claim7 := { stood := { row := rankingManyUptoRow, standIns := [], harness := (true, "031fc2e0fc94b8c9aac1013f81544449471490cbcb6fe165cc3357df9fb1de6a"), looks := false }, kinds := [], alts := [], laidByText := true, laidKinds := [.data, .pinned], laidTests := true, laidLooks := .later }
def RankingManyUptoCardSaid : Prop := Claim7.holds Tryd.pinned (.plain (OpenSpec.upto rankingManySpec)) rankingManyUptoCard
end Rows
end Go.Proofs.YtgdhpghfojccaaaDoor
