/-
  DERIVED. GIVEN WITH THE SEED: THE CARDS: each row of YtlkhoommpkndpaaGreatDoorRows.lean that lists a variable, with what it lists TIED to the program's text (the seventh form; the later family's looks); each row that meets fmt, with fmt's text TOLD by the authors' own Lean function (tested against real Go, not proved from fmt's source: count such statements apart). THE CARD IS WHAT COUNTS. Prove the row's statement (the work); the ties are given (YtlkhoommpkndpaaGreatDoorTie.lean); close each card by the builder's one call (the guide's Derived/Test/ToyasCard.lean, 'card_holds'). Laid BY PROGRAM, IN A SANDBOX (cutbox-door.mjs). By AI agents, Wed Nov 11 2026. No macro, syntax, notation, axiom, sorry.
-/
import Derived.Test.YtlkhoommpkndpaaGreatDoorRows
import GoSem.ClaimSeven
namespace Go.Proofs.YtlkhoommpkndpaaGreatDoor
namespace Rows

/-- THE TIED CARD OF 'insolvencylaw10.RegisterNew'. -/
def registerNewCard : Claim7 := { stood := { row := registerNewRow, standIns := [], harness := (true, "aafbe1386d807dad37a79c7fa2b26015e6709179b19c3fe9b44d046f842cbda9"), looks := false }, kinds := [], alts := [], laidByText := true, laidKinds := [.data, .pinned], laidTests := true, laidLooks := .later }
def RegisterNewCardSaid : Prop := Claim7.holds Tryz.pinned (.plain (OpenSpec.ofChange registerNewSpec)) registerNewCard

/-- THE TIED CARD OF 'insolvencylaw10.RegisterValue'. -/
def registerValueCard : Claim7 := { stood := { row := registerValueRow, standIns := [], harness := (true, "aafbe1386d807dad37a79c7fa2b26015e6709179b19c3fe9b44d046f842cbda9"), looks := false }, kinds := [], alts := [], laidByText := true, laidKinds := [.data, .pinned], laidTests := true, laidLooks := .later }
def RegisterValueCardSaid : Prop := Claim7.holds Tryz.pinned (.plain (OpenSpec.ofChange registerValueSpec)) registerValueCard

/-- THE TIED CARD OF 'insolvencylaw10.RegisterValues'. -/
def registerValuesCard : Claim7 := { stood := { row := registerValuesRow, standIns := [], harness := (true, "aafbe1386d807dad37a79c7fa2b26015e6709179b19c3fe9b44d046f842cbda9"), looks := false }, kinds := [], alts := [], laidByText := true, laidKinds := [.data, .pinned], laidTests := true, laidLooks := .later }
def RegisterValuesCardSaid : Prop := Claim7.holds Tryz.pinned (.plain (OpenSpec.ofChange registerValuesSpec)) registerValuesCard

/-- THE TIED CARD OF 'insolvencylaw10.RegisterApply'. -/
def registerApplyCard : Claim7 := { stood := { row := registerApplyRow, standIns := [], harness := (true, "aafbe1386d807dad37a79c7fa2b26015e6709179b19c3fe9b44d046f842cbda9"), looks := false }, kinds := [], alts := [], laidByText := true, laidKinds := [.data, .pinned], laidTests := true, laidLooks := .later }
def RegisterApplyCardSaid : Prop := Claim7.holds Tryz.pinned (.plain (OpenSpec.ofChange registerApplySpec)) registerApplyCard

/-- THE TIED CARD OF 'insolvencylaw10.RegisterBounds'. -/
def registerBoundsCard : Claim7 := { stood := { row := registerBoundsRow, standIns := [], harness := (true, "aafbe1386d807dad37a79c7fa2b26015e6709179b19c3fe9b44d046f842cbda9"), looks := false }, kinds := [], alts := [], laidByText := true, laidKinds := [.data, .pinned], laidTests := true, laidLooks := .later }
def RegisterBoundsCardSaid : Prop := Claim7.holds Tryz.pinned (.plain (OpenSpec.ofChange registerBoundsSpec)) registerBoundsCard

/-- THE TIED CARD OF 'insolvencylaw10.RegisterNarrows'. -/
def registerNarrowsCard : Claim7 := { stood := { row := registerNarrowsRow, standIns := [], harness := (true, "aafbe1386d807dad37a79c7fa2b26015e6709179b19c3fe9b44d046f842cbda9"), looks := false }, kinds := [], alts := [], laidByText := true, laidKinds := [.data, .pinned], laidTests := true, laidLooks := .later }
def RegisterNarrowsCardSaid : Prop := Claim7.holds Tryz.pinned (.plain (OpenSpec.ofChange registerNarrowsSpec)) registerNarrowsCard

/-- THE TIED CARD OF 'insolvencylaw10.RegisterKeeps'. -/
def registerKeepsCard : Claim7 := { stood := { row := registerKeepsRow, standIns := [], harness := (true, "aafbe1386d807dad37a79c7fa2b26015e6709179b19c3fe9b44d046f842cbda9"), looks := false }, kinds := [], alts := [], laidByText := true, laidKinds := [.data, .pinned], laidTests := true, laidLooks := .later }
def RegisterKeepsCardSaid : Prop := Claim7.holds Tryz.pinned (.plain (OpenSpec.ofChange registerKeepsSpec)) registerKeepsCard

/-- THE TIED CARD OF 'insolvencylaw10.RegisterOutcome'. -/
def registerOutcomeCard : Claim7 := { stood := { row := registerOutcomeRow, standIns := [], harness := (true, "aafbe1386d807dad37a79c7fa2b26015e6709179b19c3fe9b44d046f842cbda9"), looks := false }, kinds := [], alts := [], laidByText := true, laidKinds := [.data, .pinned], laidTests := true, laidLooks := .later }
def RegisterOutcomeCardSaid : Prop := Claim7.holds Tryz.pinned (.plain (OpenSpec.ofChange registerOutcomeSpec)) registerOutcomeCard

/-- THE TIED CARD OF 'insolvencylaw10.RegisterRank'. -/
def registerRankCard : Claim7 := { stood := { row := registerRankRow, standIns := [], harness := (true, "aafbe1386d807dad37a79c7fa2b26015e6709179b19c3fe9b44d046f842cbda9"), looks := false }, kinds := [], alts := [], laidByText := true, laidKinds := [.data, .pinned], laidTests := true, laidLooks := .later }
def RegisterRankCardSaid : Prop := Claim7.holds Tryz.pinned (.plain (OpenSpec.ofChange registerRankSpec)) registerRankCard

/-- THE TIED CARD OF 'insolvencylaw10.RegisterRaw'. -/
def registerRawCard : Claim7 := { stood := { row := registerRawRow, standIns := [], harness := (true, "aafbe1386d807dad37a79c7fa2b26015e6709179b19c3fe9b44d046f842cbda9"), looks := false }, kinds := [], alts := [], laidByText := true, laidKinds := [.data, .pinned], laidTests := true, laidLooks := .later }
def RegisterRawCardSaid : Prop := Claim7.holds Tryz.pinned (.plain (OpenSpec.ofChange registerRawSpec)) registerRawCard

/-- THE SECOND FORM's CARD OF 'insolvencylaw10.RegisterNew'. -/
def registerNewUptoCard : Claim7 := { stood := { row := registerNewUptoRow, standIns := [], harness := (true, "aafbe1386d807dad37a79c7fa2b26015e6709179b19c3fe9b44d046f842cbda9"), looks := false }, kinds := [], alts := [], laidByText := true, laidKinds := [.data, .pinned], laidTests := true, laidLooks := .later }
def RegisterNewUptoCardSaid : Prop := Claim7.holds Tryz.pinned (.plain (OpenSpec.upto registerNewSpec)) registerNewUptoCard

/-- THE SECOND FORM's CARD OF 'insolvencylaw10.RegisterValue'. -/
def registerValueUptoCard : Claim7 := { stood := { row := registerValueUptoRow, standIns := [], harness := (true, "aafbe1386d807dad37a79c7fa2b26015e6709179b19c3fe9b44d046f842cbda9"), looks := false }, kinds := [], alts := [], laidByText := true, laidKinds := [.data, .pinned], laidTests := true, laidLooks := .later }
def RegisterValueUptoCardSaid : Prop := Claim7.holds Tryz.pinned (.plain (OpenSpec.upto registerValueSpec)) registerValueUptoCard

/-- THE SECOND FORM's CARD OF 'insolvencylaw10.RegisterValues'. -/
def registerValuesUptoCard : Claim7 := { stood := { row := registerValuesUptoRow, standIns := [], harness := (true, "aafbe1386d807dad37a79c7fa2b26015e6709179b19c3fe9b44d046f842cbda9"), looks := false }, kinds := [], alts := [], laidByText := true, laidKinds := [.data, .pinned], laidTests := true, laidLooks := .later }
def RegisterValuesUptoCardSaid : Prop := Claim7.holds Tryz.pinned (.plain (OpenSpec.upto registerValuesSpec)) registerValuesUptoCard

/-- THE SECOND FORM's CARD OF 'insolvencylaw10.RegisterApply'. -/
def registerApplyUptoCard : Claim7 := { stood := { row := registerApplyUptoRow, standIns := [], harness := (true, "aafbe1386d807dad37a79c7fa2b26015e6709179b19c3fe9b44d046f842cbda9"), looks := false }, kinds := [], alts := [], laidByText := true, laidKinds := [.data, .pinned], laidTests := true, laidLooks := .later }
def RegisterApplyUptoCardSaid : Prop := Claim7.holds Tryz.pinned (.plain (OpenSpec.upto registerApplySpec)) registerApplyUptoCard

/-- THE SECOND FORM's CARD OF 'insolvencylaw10.RegisterBounds'. -/
def registerBoundsUptoCard : Claim7 := { stood := { row := registerBoundsUptoRow, standIns := [], harness := (true, "aafbe1386d807dad37a79c7fa2b26015e6709179b19c3fe9b44d046f842cbda9"), looks := false }, kinds := [], alts := [], laidByText := true, laidKinds := [.data, .pinned], laidTests := true, laidLooks := .later }
def RegisterBoundsUptoCardSaid : Prop := Claim7.holds Tryz.pinned (.plain (OpenSpec.upto registerBoundsSpec)) registerBoundsUptoCard

/-- THE SECOND FORM's CARD OF 'insolvencylaw10.RegisterNarrows'. -/
def registerNarrowsUptoCard : Claim7 := { stood := { row := registerNarrowsUptoRow, standIns := [], harness := (true, "aafbe1386d807dad37a79c7fa2b26015e6709179b19c3fe9b44d046f842cbda9"), looks := false }, kinds := [], alts := [], laidByText := true, laidKinds := [.data, .pinned], laidTests := true, laidLooks := .later }
def RegisterNarrowsUptoCardSaid : Prop := Claim7.holds Tryz.pinned (.plain (OpenSpec.upto registerNarrowsSpec)) registerNarrowsUptoCard

/-- THE SECOND FORM's CARD OF 'insolvencylaw10.RegisterKeeps'. -/
def registerKeepsUptoCard : Claim7 := { stood := { row := registerKeepsUptoRow, standIns := [], harness := (true, "aafbe1386d807dad37a79c7fa2b26015e6709179b19c3fe9b44d046f842cbda9"), looks := false }, kinds := [], alts := [], laidByText := true, laidKinds := [.data, .pinned], laidTests := true, laidLooks := .later }
def RegisterKeepsUptoCardSaid : Prop := Claim7.holds Tryz.pinned (.plain (OpenSpec.upto registerKeepsSpec)) registerKeepsUptoCard

/-- THE SECOND FORM's CARD OF 'insolvencylaw10.RegisterOutcome'. -/
def registerOutcomeUptoCard : Claim7 := { stood := { row := registerOutcomeUptoRow, standIns := [], harness := (true, "aafbe1386d807dad37a79c7fa2b26015e6709179b19c3fe9b44d046f842cbda9"), looks := false }, kinds := [], alts := [], laidByText := true, laidKinds := [.data, .pinned], laidTests := true, laidLooks := .later }
def RegisterOutcomeUptoCardSaid : Prop := Claim7.holds Tryz.pinned (.plain (OpenSpec.upto registerOutcomeSpec)) registerOutcomeUptoCard

/-- THE SECOND FORM's CARD OF 'insolvencylaw10.RegisterRank'. -/
def registerRankUptoCard : Claim7 := { stood := { row := registerRankUptoRow, standIns := [], harness := (true, "aafbe1386d807dad37a79c7fa2b26015e6709179b19c3fe9b44d046f842cbda9"), looks := false }, kinds := [], alts := [], laidByText := true, laidKinds := [.data, .pinned], laidTests := true, laidLooks := .later }
def RegisterRankUptoCardSaid : Prop := Claim7.holds Tryz.pinned (.plain (OpenSpec.upto registerRankSpec)) registerRankUptoCard

/-- THE SECOND FORM's CARD OF 'insolvencylaw10.RegisterRaw'. -/
def registerRawUptoCard : Claim7 := { stood := { row := registerRawUptoRow, standIns := [], harness := (true, "aafbe1386d807dad37a79c7fa2b26015e6709179b19c3fe9b44d046f842cbda9"), looks := false }, kinds := [], alts := [], laidByText := true, laidKinds := [.data, .pinned], laidTests := true, laidLooks := .later }
def RegisterRawUptoCardSaid : Prop := Claim7.holds Tryz.pinned (.plain (OpenSpec.upto registerRawSpec)) registerRawUptoCard
end Rows
end Go.Proofs.YtlkhoommpkndpaaGreatDoor
