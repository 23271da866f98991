/-
  DERIVED. GIVEN WITH THE SEED: THE CARDS: each row of YtcllocdhbicpkaaGreatDoorRows.lean that lists a variable, with what it lists TIED to the program's text (the seventh form; the later family's looks); each row that meets fmt, with fmt's text TOLD by the authors' own Lean function (tested against real Go, not proved from fmt's source: count such statements apart). THE CARD IS WHAT COUNTS. Prove the row's statement (the work); the ties are given (YtcllocdhbicpkaaGreatDoorTie.lean); close each card by the builder's one call (the guide's Derived/Test/ToyasCard.lean, 'card_holds'). Laid BY PROGRAM, IN A SANDBOX (cutbox-door.mjs). By AI agents, Wed Nov 11 2026. No macro, syntax, notation, axiom, sorry.
-/
import Derived.Test.YtcllocdhbicpkaaGreatDoorRows
import GoSem.ClaimSeven
namespace Go.Proofs.YtcllocdhbicpkaaGreatDoor
namespace Rows

/-- THE TIED CARD OF 'insolvencylaw32.PlanCheck'. -/
def planCheckCard : Claim7 := { stood := { row := planCheckRow, standIns := [], harness := (true, "2d540778add1df9902d04edf7821353d9f2199c310bed9183fc25742bb84219b"), looks := false }, kinds := [], alts := [], laidByText := true, laidKinds := [.data, .pinned], laidTests := true, laidLooks := .later }
def PlanCheckCardSaid : Prop := Claim7.holds Tryz.pinned (.plain (OpenSpec.ofChange planCheckSpec)) planCheckCard

/-- THE TIED CARD OF 'insolvencylaw32.PlanResidue'. -/
def planResidueCard : Claim7 := { stood := { row := planResidueRow, standIns := [], harness := (true, "2d540778add1df9902d04edf7821353d9f2199c310bed9183fc25742bb84219b"), looks := false }, kinds := [], alts := [], laidByText := true, laidKinds := [.data, .pinned], laidTests := true, laidLooks := .later }
def PlanResidueCardSaid : Prop := Claim7.holds Tryz.pinned (.plain (OpenSpec.ofChange planResidueSpec)) planResidueCard

/-- THE TIED CARD OF 'insolvencylaw32.PlanConfirm'. -/
def planConfirmCard : Claim7 := { stood := { row := planConfirmRow, standIns := [], harness := (true, "2d540778add1df9902d04edf7821353d9f2199c310bed9183fc25742bb84219b"), looks := false }, kinds := [], alts := [], laidByText := true, laidKinds := [.data, .pinned], laidTests := true, laidLooks := .later }
def PlanConfirmCardSaid : Prop := Claim7.holds Tryz.pinned (.plain (OpenSpec.ofChange planConfirmSpec)) planConfirmCard

/-- THE TIED CARD OF 'insolvencylaw32.PlanSearch'. -/
def planSearchCard : Claim7 := { stood := { row := planSearchRow, standIns := [], harness := (true, "2d540778add1df9902d04edf7821353d9f2199c310bed9183fc25742bb84219b"), looks := false }, kinds := [], alts := [], laidByText := true, laidKinds := [.data, .pinned], laidTests := true, laidLooks := .later }
def PlanSearchCardSaid : Prop := Claim7.holds Tryz.pinned (.plain (OpenSpec.ofChange planSearchSpec)) planSearchCard

/-- THE TIED CARD OF 'insolvencylaw32.PlanFound'. -/
def planFoundCard : Claim7 := { stood := { row := planFoundRow, standIns := [], harness := (true, "2d540778add1df9902d04edf7821353d9f2199c310bed9183fc25742bb84219b"), looks := false }, kinds := [], alts := [], laidByText := true, laidKinds := [.data, .pinned], laidTests := true, laidLooks := .later }
def PlanFoundCardSaid : Prop := Claim7.holds Tryz.pinned (.plain (OpenSpec.ofChange planFoundSpec)) planFoundCard

/-- THE TIED CARD OF 'insolvencylaw32.PlanDissent'. -/
def planDissentCard : Claim7 := { stood := { row := planDissentRow, standIns := [], harness := (true, "2d540778add1df9902d04edf7821353d9f2199c310bed9183fc25742bb84219b"), looks := false }, kinds := [], alts := [], laidByText := true, laidKinds := [.data, .pinned], laidTests := true, laidLooks := .later }
def PlanDissentCardSaid : Prop := Claim7.holds Tryz.pinned (.plain (OpenSpec.ofChange planDissentSpec)) planDissentCard

/-- THE TIED CARD OF 'insolvencylaw32.PlanMore'. -/
def planMoreCard : Claim7 := { stood := { row := planMoreRow, standIns := [], harness := (true, "2d540778add1df9902d04edf7821353d9f2199c310bed9183fc25742bb84219b"), looks := false }, kinds := [], alts := [], laidByText := true, laidKinds := [.data, .pinned], laidTests := true, laidLooks := .later }
def PlanMoreCardSaid : Prop := Claim7.holds Tryz.pinned (.plain (OpenSpec.ofChange planMoreSpec)) planMoreCard

/-- THE SECOND FORM's CARD OF 'insolvencylaw32.PlanCheck'. -/
def planCheckUptoCard : Claim7 := { stood := { row := planCheckUptoRow, standIns := [], harness := (true, "2d540778add1df9902d04edf7821353d9f2199c310bed9183fc25742bb84219b"), looks := false }, kinds := [], alts := [], laidByText := true, laidKinds := [.data, .pinned], laidTests := true, laidLooks := .later }
def PlanCheckUptoCardSaid : Prop := Claim7.holds Tryz.pinned (.plain (OpenSpec.upto planCheckSpec)) planCheckUptoCard

/-- THE SECOND FORM's CARD OF 'insolvencylaw32.PlanResidue'. -/
def planResidueUptoCard : Claim7 := { stood := { row := planResidueUptoRow, standIns := [], harness := (true, "2d540778add1df9902d04edf7821353d9f2199c310bed9183fc25742bb84219b"), looks := false }, kinds := [], alts := [], laidByText := true, laidKinds := [.data, .pinned], laidTests := true, laidLooks := .later }
def PlanResidueUptoCardSaid : Prop := Claim7.holds Tryz.pinned (.plain (OpenSpec.upto planResidueSpec)) planResidueUptoCard

/-- THE SECOND FORM's CARD OF 'insolvencylaw32.PlanConfirm'. -/
def planConfirmUptoCard : Claim7 := { stood := { row := planConfirmUptoRow, standIns := [], harness := (true, "2d540778add1df9902d04edf7821353d9f2199c310bed9183fc25742bb84219b"), looks := false }, kinds := [], alts := [], laidByText := true, laidKinds := [.data, .pinned], laidTests := true, laidLooks := .later }
def PlanConfirmUptoCardSaid : Prop := Claim7.holds Tryz.pinned (.plain (OpenSpec.upto planConfirmSpec)) planConfirmUptoCard

/-- THE SECOND FORM's CARD OF 'insolvencylaw32.PlanSearch'. -/
def planSearchUptoCard : Claim7 := { stood := { row := planSearchUptoRow, standIns := [], harness := (true, "2d540778add1df9902d04edf7821353d9f2199c310bed9183fc25742bb84219b"), looks := false }, kinds := [], alts := [], laidByText := true, laidKinds := [.data, .pinned], laidTests := true, laidLooks := .later }
def PlanSearchUptoCardSaid : Prop := Claim7.holds Tryz.pinned (.plain (OpenSpec.upto planSearchSpec)) planSearchUptoCard

/-- THE SECOND FORM's CARD OF 'insolvencylaw32.PlanFound'. -/
def planFoundUptoCard : Claim7 := { stood := { row := planFoundUptoRow, standIns := [], harness := (true, "2d540778add1df9902d04edf7821353d9f2199c310bed9183fc25742bb84219b"), looks := false }, kinds := [], alts := [], laidByText := true, laidKinds := [.data, .pinned], laidTests := true, laidLooks := .later }
def PlanFoundUptoCardSaid : Prop := Claim7.holds Tryz.pinned (.plain (OpenSpec.upto planFoundSpec)) planFoundUptoCard

/-- THE SECOND FORM's CARD OF 'insolvencylaw32.PlanDissent'. -/
def planDissentUptoCard : Claim7 := { stood := { row := planDissentUptoRow, standIns := [], harness := (true, "2d540778add1df9902d04edf7821353d9f2199c310bed9183fc25742bb84219b"), looks := false }, kinds := [], alts := [], laidByText := true, laidKinds := [.data, .pinned], laidTests := true, laidLooks := .later }
def PlanDissentUptoCardSaid : Prop := Claim7.holds Tryz.pinned (.plain (OpenSpec.upto planDissentSpec)) planDissentUptoCard

/-- THE SECOND FORM's CARD OF 'insolvencylaw32.PlanMore'. -/
def planMoreUptoCard : Claim7 := { stood := { row := planMoreUptoRow, standIns := [], harness := (true, "2d540778add1df9902d04edf7821353d9f2199c310bed9183fc25742bb84219b"), looks := false }, kinds := [], alts := [], laidByText := true, laidKinds := [.data, .pinned], laidTests := true, laidLooks := .later }
def PlanMoreUptoCardSaid : Prop := Claim7.holds Tryz.pinned (.plain (OpenSpec.upto planMoreSpec)) planMoreUptoCard
end Rows
end Go.Proofs.YtcllocdhbicpkaaGreatDoor
