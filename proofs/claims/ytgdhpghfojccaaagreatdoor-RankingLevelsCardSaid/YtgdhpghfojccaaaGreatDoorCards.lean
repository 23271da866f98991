/-
  DERIVED. GIVEN WITH THE SEED: THE CARDS: each row of YtgdhpghfojccaaaGreatDoorRows.lean that lists a variable, with what it lists TIED to the program's text (the seventh form; the later family's looks); each row that meets fmt, with fmt's text TOLD by the authors' own Lean function (tested against real Go, not proved from fmt's source: count such statements apart). THE CARD IS WHAT COUNTS. Prove the row's statement (the work); the ties are given (YtgdhpghfojccaaaGreatDoorTie.lean); close each card by the builder's one call (the guide's Derived/Test/ToyasCard.lean, 'card_holds'). Laid BY PROGRAM, IN A SANDBOX (cutbox-door.mjs). By AI agents, Wed Nov 11 2026. No macro, syntax, notation, axiom, sorry.
-/
import Derived.Test.YtgdhpghfojccaaaGreatDoorRows
import GoSem.ClaimSeven
namespace Go.Proofs.YtgdhpghfojccaaaGreatDoor
namespace Rows

/-- THE TIED CARD OF 'insolvencylaw13.RankingRaw'. -/
def rankingRawCard : Claim7 := { stood := { row := rankingRawRow, standIns := [], harness := (true, "7e68efb79cc98c738d617df71a5ca680c4fc7827c466b7fdb889cfa1a384126c"), looks := false }, kinds := [], alts := [], laidByText := true, laidKinds := [.data, .pinned], laidTests := true, laidLooks := .later }
def RankingRawCardSaid : Prop := Claim7.holds Tryz.pinned (.plain (OpenSpec.ofChange rankingRawSpec)) rankingRawCard

/-- THE TIED CARD OF 'insolvencylaw13.RankingCompile'. -/
def rankingCompileCard : Claim7 := { stood := { row := rankingCompileRow, standIns := [], harness := (true, "7e68efb79cc98c738d617df71a5ca680c4fc7827c466b7fdb889cfa1a384126c"), looks := false }, kinds := [], alts := [], laidByText := true, laidKinds := [.data, .pinned], laidTests := true, laidLooks := .later }
def RankingCompileCardSaid : Prop := Claim7.holds Tryz.pinned (.plain (OpenSpec.ofChange rankingCompileSpec)) rankingCompileCard

/-- THE TIED CARD OF 'insolvencylaw13.RankingLevels'. -/
def rankingLevelsCard : Claim7 := { stood := { row := rankingLevelsRow, standIns := [], harness := (true, "7e68efb79cc98c738d617df71a5ca680c4fc7827c466b7fdb889cfa1a384126c"), looks := false }, kinds := [], alts := [], laidByText := true, laidKinds := [.data, .pinned], laidTests := true, laidLooks := .later }
def RankingLevelsCardSaid : Prop := Claim7.holds Tryz.pinned (.plain (OpenSpec.ofChange rankingLevelsSpec)) rankingLevelsCard

/-- THE TIED CARD OF 'insolvencylaw13.RankingOrder'. -/
def rankingOrderCard : Claim7 := { stood := { row := rankingOrderRow, standIns := [], harness := (true, "7e68efb79cc98c738d617df71a5ca680c4fc7827c466b7fdb889cfa1a384126c"), looks := false }, kinds := [], alts := [], laidByText := true, laidKinds := [.data, .pinned], laidTests := true, laidLooks := .later }
def RankingOrderCardSaid : Prop := Claim7.holds Tryz.pinned (.plain (OpenSpec.ofChange rankingOrderSpec)) rankingOrderCard

/-- THE TIED CARD OF 'insolvencylaw13.RankingStatute'. -/
def rankingStatuteCard : Claim7 := { stood := { row := rankingStatuteRow, standIns := [], harness := (true, "7e68efb79cc98c738d617df71a5ca680c4fc7827c466b7fdb889cfa1a384126c"), looks := false }, kinds := [], alts := [], laidByText := true, laidKinds := [.data, .pinned], laidTests := true, laidLooks := .later }
def RankingStatuteCardSaid : Prop := Claim7.holds Tryz.pinned (.plain (OpenSpec.ofChange rankingStatuteSpec)) rankingStatuteCard

/-- THE TIED CARD OF 'insolvencylaw13.RankingSenior'. -/
def rankingSeniorCard : Claim7 := { stood := { row := rankingSeniorRow, standIns := [], harness := (true, "7e68efb79cc98c738d617df71a5ca680c4fc7827c466b7fdb889cfa1a384126c"), looks := false }, kinds := [], alts := [], laidByText := true, laidKinds := [.data, .pinned], laidTests := true, laidLooks := .later }
def RankingSeniorCardSaid : Prop := Claim7.holds Tryz.pinned (.plain (OpenSpec.ofChange rankingSeniorSpec)) rankingSeniorCard

/-- THE SECOND FORM's CARD OF 'insolvencylaw13.RankingRaw'. -/
def rankingRawUptoCard : Claim7 := { stood := { row := rankingRawUptoRow, standIns := [], harness := (true, "7e68efb79cc98c738d617df71a5ca680c4fc7827c466b7fdb889cfa1a384126c"), looks := false }, kinds := [], alts := [], laidByText := true, laidKinds := [.data, .pinned], laidTests := true, laidLooks := .later }
def RankingRawUptoCardSaid : Prop := Claim7.holds Tryz.pinned (.plain (OpenSpec.upto rankingRawSpec)) rankingRawUptoCard

/-- THE SECOND FORM's CARD OF 'insolvencylaw13.RankingCompile'. -/
def rankingCompileUptoCard : Claim7 := { stood := { row := rankingCompileUptoRow, standIns := [], harness := (true, "7e68efb79cc98c738d617df71a5ca680c4fc7827c466b7fdb889cfa1a384126c"), looks := false }, kinds := [], alts := [], laidByText := true, laidKinds := [.data, .pinned], laidTests := true, laidLooks := .later }
def RankingCompileUptoCardSaid : Prop := Claim7.holds Tryz.pinned (.plain (OpenSpec.upto rankingCompileSpec)) rankingCompileUptoCard

/-- THE SECOND FORM's CARD OF 'insolvencylaw13.RankingLevels'. -/
def rankingLevelsUptoCard : Claim7 := { stood := { row := rankingLevelsUptoRow, standIns := [], harness := (true, "7e68efb79cc98c738d617df71a5ca680c4fc7827c466b7fdb889cfa1a384126c"), looks := false }, kinds := [], alts := [], laidByText := true, laidKinds := [.data, .pinned], laidTests := true, laidLooks := .later }
def RankingLevelsUptoCardSaid : Prop := Claim7.holds Tryz.pinned (.plain (OpenSpec.upto rankingLevelsSpec)) rankingLevelsUptoCard

/-- THE SECOND FORM's CARD OF 'insolvencylaw13.RankingOrder'. -/
def rankingOrderUptoCard : Claim7 := { stood := { row := rankingOrderUptoRow, standIns := [], harness := (true, "7e68efb79cc98c738d617df71a5ca680c4fc7827c466b7fdb889cfa1a384126c"), looks := false }, kinds := [], alts := [], laidByText := true, laidKinds := [.data, .pinned], laidTests := true, laidLooks := .later }
def RankingOrderUptoCardSaid : Prop := Claim7.holds Tryz.pinned (.plain (OpenSpec.upto rankingOrderSpec)) rankingOrderUptoCard

/-- THE SECOND FORM's CARD OF 'insolvencylaw13.RankingStatute'. -/
def rankingStatuteUptoCard : Claim7 := { stood := { row := rankingStatuteUptoRow, standIns := [], harness := (true, "7e68efb79cc98c738d617df71a5ca680c4fc7827c466b7fdb889cfa1a384126c"), looks := false }, kinds := [], alts := [], laidByText := true, laidKinds := [.data, .pinned], laidTests := true, laidLooks := .later }
def RankingStatuteUptoCardSaid : Prop := Claim7.holds Tryz.pinned (.plain (OpenSpec.upto rankingStatuteSpec)) rankingStatuteUptoCard

/-- THE SECOND FORM's CARD OF 'insolvencylaw13.RankingSenior'. -/
def rankingSeniorUptoCard : Claim7 := { stood := { row := rankingSeniorUptoRow, standIns := [], harness := (true, "7e68efb79cc98c738d617df71a5ca680c4fc7827c466b7fdb889cfa1a384126c"), looks := false }, kinds := [], alts := [], laidByText := true, laidKinds := [.data, .pinned], laidTests := true, laidLooks := .later }
def RankingSeniorUptoCardSaid : Prop := Claim7.holds Tryz.pinned (.plain (OpenSpec.upto rankingSeniorSpec)) rankingSeniorUptoCard
end Rows
end Go.Proofs.YtgdhpghfojccaaaGreatDoor
