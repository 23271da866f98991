/-
  NARROWER THAN 'FOR EVERY INPUT', by the rows' own cells (each row's printed sentence says how): RegisterNew: laid · RegisterValue: laid · RegisterValues: laid · RegisterApply: laid · RegisterBounds: laid · RegisterNarrows: laid · RegisterKeeps: laid · RegisterOutcome: laid · RegisterRank: laid · RegisterRaw: laid.
  DERIVED. THE GIVEN ROWS OF THIS SEAT. 10 by the template 'for every input the law returns true; each argument reads behind the call as it read before'; 0 by the template 'total and deterministic' (their statements: YtlkhoommpkndpaaGreatDoorTotals.lean).
  GIVEN WITH THE SEED: the statements are not yours to turn. If you find one false, say at which input.
  Laid BY PROGRAM, IN A SANDBOX (cutbox-rows.mjs): the forced cells as the released guide's own fill.sh prints them over the translation 1468a9fc1b2040a4… (all of the seat's roots in one cut). By AI agents, Wed Nov 11 2026. No macro, syntax, notation, axiom, sorry.
-/
import Derived.Test.YtlkhoommpkndpaaGreatDoorChecked
import GoSem.PinnedTables
import GoSem.Claim
import GoSem.ClaimJoined
import GoSem.ClaimMapViews
import Derived.JoinedTies
import Derived.KernelRfl
namespace Go.Proofs.YtlkhoommpkndpaaGreatDoor
/- THE CELL 'sum', in the pinned program and in every row, IS THE sha256 OF THE DUMP (.gsa) THAT YtlkhoommpkndpaaGreatDoorProg.lean LOADS. Nothing in Lean hashes anything: it is a label: what it is worth is what the hold of that sum in a sandbox is worth. -/
noncomputable def Tryz.pinned : Pinned := { name := "ytlkhoommpkndpaagreatdoor", sum := "1468a9fc1b2040a401f6186363e14f24e955e8e259f2a84c6310f21f60da025a", checked := Tryz.checked }
namespace Rows
def none {H : Type} : Left H := { results := [], args := [] }

/- WHAT THE LISTED PACKAGE-LEVEL VARIABLES READ AS WHEN THE CALL BEGINS. Each datum BY PROGRAM (the guide's laid-datum.mjs) off the statement by which the dump's own 'gosem.cut.vars' lays the variable. In a bare row this is a premise. The card (YtlkhoommpkndpaaGreatDoorCards.lean) ties it to the program's text. -/
def laid_unicode_utf8_acceptRanges {H : Type} : DataW H := .agg [.agg [.lit (.int .u8 128), .lit (.int .u8 191)], .agg [.lit (.int .u8 160), .lit (.int .u8 191)], .agg [.lit (.int .u8 128), .lit (.int .u8 159)], .agg [.lit (.int .u8 144), .lit (.int .u8 191)], .agg [.lit (.int .u8 128), .lit (.int .u8 143)], .agg [.lit (.int .u8 0), .lit (.int .u8 0)], .agg [.lit (.int .u8 0), .lit (.int .u8 0)], .agg [.lit (.int .u8 0), .lit (.int .u8 0)], .agg [.lit (.int .u8 0), .lit (.int .u8 0)], .agg [.lit (.int .u8 0), .lit (.int .u8 0)], .agg [.lit (.int .u8 0), .lit (.int .u8 0)], .agg [.lit (.int .u8 0), .lit (.int .u8 0)], .agg [.lit (.int .u8 0), .lit (.int .u8 0)], .agg [.lit (.int .u8 0), .lit (.int .u8 0)], .agg [.lit (.int .u8 0), .lit (.int .u8 0)], .agg [.lit (.int .u8 0), .lit (.int .u8 0)]]
/-- One of Go's own tables, pinned by name: the form's constant. -/
def laid_unicode_utf8_first : DataW Unit := Go.Pinned.utf8First

/-- 'insolvencylaw10.RegisterNew': WHATEVER THE INPUT: true; the input reads as it did. -/
def registerNewSpec : ChangeSpec := { name := "registerNew", fn := fun _ => fun
  | [d1, d2] => { results := [.lit (.bool true)], args := [d1, d2] }
  | _ => none }
def registerNewRow : OpenClaim := { program := "ytlkhoommpkndpaagreatdoor", sum := "1468a9fc1b2040a401f6186363e14f24e955e8e259f2a84c6310f21f60da025a", func := "insolvency/insolvencylaw10.RegisterNew", spec := "registerNew", inPlace := ["internal/bytealg.IndexByteString", "internal/bytealg.IndexString", "internal/bytealg.abigen_runtime_cmpstring"], unfollowed := true, recurses := true, named := ["unicode/utf8.first", "unicode/utf8.acceptRanges", "internal/bytealg.MaxLen"], plainKeys := false, apart := false, laid := [("unicode/utf8.acceptRanges", laid_unicode_utf8_acceptRanges), ("unicode/utf8.first", laid_unicode_utf8_first)] }
def RegisterNewSaid : Prop := registerNewRow.holds Tryz.pinned (OpenSpec.ofChange registerNewSpec)

/-- ITS FALSE NEIGHBOUR: 'it returns false'. Refute it at one input. -/
def registerNewWrong : ChangeSpec := { name := "registerNew", fn := fun _ => fun
  | [d1, d2] => { results := [.lit (.bool false)], args := [d1, d2] }
  | _ => none }
def RegisterNewWrongFalsely : Prop := registerNewRow.holds Tryz.pinned (OpenSpec.ofChange registerNewWrong)

/-- 'insolvencylaw10.RegisterValue': WHATEVER THE INPUT: true; the input reads as it did. -/
def registerValueSpec : ChangeSpec := { name := "registerValue", fn := fun _ => fun
  | [d1, d2, d3] => { results := [.lit (.bool true)], args := [d1, d2, d3] }
  | _ => none }
def registerValueRow : OpenClaim := { program := "ytlkhoommpkndpaagreatdoor", sum := "1468a9fc1b2040a401f6186363e14f24e955e8e259f2a84c6310f21f60da025a", func := "insolvency/insolvencylaw10.RegisterValue", spec := "registerValue", inPlace := ["internal/bytealg.IndexByteString", "internal/bytealg.IndexString", "internal/bytealg.abigen_runtime_cmpstring"], unfollowed := true, recurses := true, named := ["unicode/utf8.first", "unicode/utf8.acceptRanges", "internal/bytealg.MaxLen"], plainKeys := false, apart := false, laid := [("unicode/utf8.acceptRanges", laid_unicode_utf8_acceptRanges), ("unicode/utf8.first", laid_unicode_utf8_first)] }
def RegisterValueSaid : Prop := registerValueRow.holds Tryz.pinned (OpenSpec.ofChange registerValueSpec)

/-- ITS FALSE NEIGHBOUR: 'it returns false'. Refute it at one input. -/
def registerValueWrong : ChangeSpec := { name := "registerValue", fn := fun _ => fun
  | [d1, d2, d3] => { results := [.lit (.bool false)], args := [d1, d2, d3] }
  | _ => none }
def RegisterValueWrongFalsely : Prop := registerValueRow.holds Tryz.pinned (OpenSpec.ofChange registerValueWrong)

/-- 'insolvencylaw10.RegisterValues': WHATEVER THE INPUT: true; the input reads as it did. -/
def registerValuesSpec : ChangeSpec := { name := "registerValues", fn := fun _ => fun
  | [d1, d2, d3] => { results := [.lit (.bool true)], args := [d1, d2, d3] }
  | _ => none }
def registerValuesRow : OpenClaim := { program := "ytlkhoommpkndpaagreatdoor", sum := "1468a9fc1b2040a401f6186363e14f24e955e8e259f2a84c6310f21f60da025a", func := "insolvency/insolvencylaw10.RegisterValues", spec := "registerValues", inPlace := ["internal/bytealg.IndexByteString", "internal/bytealg.IndexString", "internal/bytealg.abigen_runtime_cmpstring"], unfollowed := true, recurses := true, named := ["unicode/utf8.first", "unicode/utf8.acceptRanges", "internal/bytealg.MaxLen"], plainKeys := false, apart := false, laid := [("unicode/utf8.acceptRanges", laid_unicode_utf8_acceptRanges), ("unicode/utf8.first", laid_unicode_utf8_first)] }
def RegisterValuesSaid : Prop := registerValuesRow.holds Tryz.pinned (OpenSpec.ofChange registerValuesSpec)

/-- ITS FALSE NEIGHBOUR: 'it returns false'. Refute it at one input. -/
def registerValuesWrong : ChangeSpec := { name := "registerValues", fn := fun _ => fun
  | [d1, d2, d3] => { results := [.lit (.bool false)], args := [d1, d2, d3] }
  | _ => none }
def RegisterValuesWrongFalsely : Prop := registerValuesRow.holds Tryz.pinned (OpenSpec.ofChange registerValuesWrong)

/-- 'insolvencylaw10.RegisterApply': WHATEVER THE INPUT: true; the input reads as it did. -/
def registerApplySpec : ChangeSpec := { name := "registerApply", fn := fun _ => fun
  | [d1, d2, d3, d4] => { results := [.lit (.bool true)], args := [d1, d2, d3, d4] }
  | _ => none }
def registerApplyRow : OpenClaim := { program := "ytlkhoommpkndpaagreatdoor", sum := "1468a9fc1b2040a401f6186363e14f24e955e8e259f2a84c6310f21f60da025a", func := "insolvency/insolvencylaw10.RegisterApply", spec := "registerApply", inPlace := ["internal/bytealg.IndexByteString", "internal/bytealg.IndexString", "internal/bytealg.abigen_runtime_cmpstring"], unfollowed := true, recurses := true, named := ["unicode/utf8.first", "unicode/utf8.acceptRanges", "internal/bytealg.MaxLen"], plainKeys := false, apart := false, laid := [("unicode/utf8.acceptRanges", laid_unicode_utf8_acceptRanges), ("unicode/utf8.first", laid_unicode_utf8_first)] }
def RegisterApplySaid : Prop := registerApplyRow.holds Tryz.pinned (OpenSpec.ofChange registerApplySpec)

/-- ITS FALSE NEIGHBOUR: 'it returns false'. Refute it at one input. -/
def registerApplyWrong : ChangeSpec := { name := "registerApply", fn := fun _ => fun
  | [d1, d2, d3, d4] => { results := [.lit (.bool false)], args := [d1, d2, d3, d4] }
  | _ => none }
def RegisterApplyWrongFalsely : Prop := registerApplyRow.holds Tryz.pinned (OpenSpec.ofChange registerApplyWrong)

/-- 'insolvencylaw10.RegisterBounds': WHATEVER THE INPUT: true; the input reads as it did. -/
def registerBoundsSpec : ChangeSpec := { name := "registerBounds", fn := fun _ => fun
  | [d1, d2, d3, d4] => { results := [.lit (.bool true)], args := [d1, d2, d3, d4] }
  | _ => none }
def registerBoundsRow : OpenClaim := { program := "ytlkhoommpkndpaagreatdoor", sum := "1468a9fc1b2040a401f6186363e14f24e955e8e259f2a84c6310f21f60da025a", func := "insolvency/insolvencylaw10.RegisterBounds", spec := "registerBounds", inPlace := ["internal/bytealg.IndexByteString", "internal/bytealg.IndexString", "internal/bytealg.abigen_runtime_cmpstring"], unfollowed := true, recurses := true, named := ["unicode/utf8.first", "unicode/utf8.acceptRanges", "internal/bytealg.MaxLen"], plainKeys := false, apart := false, laid := [("unicode/utf8.acceptRanges", laid_unicode_utf8_acceptRanges), ("unicode/utf8.first", laid_unicode_utf8_first)] }
def RegisterBoundsSaid : Prop := registerBoundsRow.holds Tryz.pinned (OpenSpec.ofChange registerBoundsSpec)

/-- ITS FALSE NEIGHBOUR: 'it returns false'. Refute it at one input. -/
def registerBoundsWrong : ChangeSpec := { name := "registerBounds", fn := fun _ => fun
  | [d1, d2, d3, d4] => { results := [.lit (.bool false)], args := [d1, d2, d3, d4] }
  | _ => none }
def RegisterBoundsWrongFalsely : Prop := registerBoundsRow.holds Tryz.pinned (OpenSpec.ofChange registerBoundsWrong)

/-- 'insolvencylaw10.RegisterNarrows': WHATEVER THE INPUT: true; the input reads as it did. -/
def registerNarrowsSpec : ChangeSpec := { name := "registerNarrows", fn := fun _ => fun
  | [d1, d2, d3, d4, d5] => { results := [.lit (.bool true)], args := [d1, d2, d3, d4, d5] }
  | _ => none }
def registerNarrowsRow : OpenClaim := { program := "ytlkhoommpkndpaagreatdoor", sum := "1468a9fc1b2040a401f6186363e14f24e955e8e259f2a84c6310f21f60da025a", func := "insolvency/insolvencylaw10.RegisterNarrows", spec := "registerNarrows", inPlace := ["internal/bytealg.IndexByteString", "internal/bytealg.IndexString", "internal/bytealg.abigen_runtime_cmpstring"], unfollowed := true, recurses := true, named := ["unicode/utf8.first", "unicode/utf8.acceptRanges", "internal/bytealg.MaxLen"], plainKeys := false, apart := false, laid := [("unicode/utf8.acceptRanges", laid_unicode_utf8_acceptRanges), ("unicode/utf8.first", laid_unicode_utf8_first)] }
def RegisterNarrowsSaid : Prop := registerNarrowsRow.holds Tryz.pinned (OpenSpec.ofChange registerNarrowsSpec)

/-- ITS FALSE NEIGHBOUR: 'it returns false'. Refute it at one input. -/
def registerNarrowsWrong : ChangeSpec := { name := "registerNarrows", fn := fun _ => fun
  | [d1, d2, d3, d4, d5] => { results := [.lit (.bool false)], args := [d1, d2, d3, d4, d5] }
  | _ => none }
def RegisterNarrowsWrongFalsely : Prop := registerNarrowsRow.holds Tryz.pinned (OpenSpec.ofChange registerNarrowsWrong)

/-- 'insolvencylaw10.RegisterKeeps': WHATEVER THE INPUT: true; the input reads as it did. -/
def registerKeepsSpec : ChangeSpec := { name := "registerKeeps", fn := fun _ => fun
  | [d1, d2, d3, d4, d5] => { results := [.lit (.bool true)], args := [d1, d2, d3, d4, d5] }
  | _ => none }
def registerKeepsRow : OpenClaim := { program := "ytlkhoommpkndpaagreatdoor", sum := "1468a9fc1b2040a401f6186363e14f24e955e8e259f2a84c6310f21f60da025a", func := "insolvency/insolvencylaw10.RegisterKeeps", spec := "registerKeeps", inPlace := ["internal/bytealg.IndexByteString", "internal/bytealg.IndexString", "internal/bytealg.abigen_runtime_cmpstring"], unfollowed := true, recurses := true, named := ["unicode/utf8.first", "unicode/utf8.acceptRanges", "internal/bytealg.MaxLen"], plainKeys := false, apart := false, laid := [("unicode/utf8.acceptRanges", laid_unicode_utf8_acceptRanges), ("unicode/utf8.first", laid_unicode_utf8_first)] }
def RegisterKeepsSaid : Prop := registerKeepsRow.holds Tryz.pinned (OpenSpec.ofChange registerKeepsSpec)

/-- ITS FALSE NEIGHBOUR: 'it returns false'. Refute it at one input. -/
def registerKeepsWrong : ChangeSpec := { name := "registerKeeps", fn := fun _ => fun
  | [d1, d2, d3, d4, d5] => { results := [.lit (.bool false)], args := [d1, d2, d3, d4, d5] }
  | _ => none }
def RegisterKeepsWrongFalsely : Prop := registerKeepsRow.holds Tryz.pinned (OpenSpec.ofChange registerKeepsWrong)

/-- 'insolvencylaw10.RegisterOutcome': WHATEVER THE INPUT: true; the input reads as it did. -/
def registerOutcomeSpec : ChangeSpec := { name := "registerOutcome", fn := fun _ => fun
  | [d1, d2, d3, d4, d5] => { results := [.lit (.bool true)], args := [d1, d2, d3, d4, d5] }
  | _ => none }
def registerOutcomeRow : OpenClaim := { program := "ytlkhoommpkndpaagreatdoor", sum := "1468a9fc1b2040a401f6186363e14f24e955e8e259f2a84c6310f21f60da025a", func := "insolvency/insolvencylaw10.RegisterOutcome", spec := "registerOutcome", inPlace := ["internal/bytealg.IndexByteString", "internal/bytealg.IndexString", "internal/bytealg.abigen_runtime_cmpstring"], unfollowed := true, recurses := true, named := ["unicode/utf8.first", "unicode/utf8.acceptRanges", "internal/bytealg.MaxLen"], plainKeys := false, apart := false, laid := [("unicode/utf8.acceptRanges", laid_unicode_utf8_acceptRanges), ("unicode/utf8.first", laid_unicode_utf8_first)] }
def RegisterOutcomeSaid : Prop := registerOutcomeRow.holds Tryz.pinned (OpenSpec.ofChange registerOutcomeSpec)

/-- ITS FALSE NEIGHBOUR: 'it returns false'. Refute it at one input. -/
def registerOutcomeWrong : ChangeSpec := { name := "registerOutcome", fn := fun _ => fun
  | [d1, d2, d3, d4, d5] => { results := [.lit (.bool false)], args := [d1, d2, d3, d4, d5] }
  | _ => none }
def RegisterOutcomeWrongFalsely : Prop := registerOutcomeRow.holds Tryz.pinned (OpenSpec.ofChange registerOutcomeWrong)

/-- 'insolvencylaw10.RegisterRank': WHATEVER THE INPUT: true; the input reads as it did. -/
def registerRankSpec : ChangeSpec := { name := "registerRank", fn := fun _ => fun
  | [d1, d2] => { results := [.lit (.bool true)], args := [d1, d2] }
  | _ => none }
def registerRankRow : OpenClaim := { program := "ytlkhoommpkndpaagreatdoor", sum := "1468a9fc1b2040a401f6186363e14f24e955e8e259f2a84c6310f21f60da025a", func := "insolvency/insolvencylaw10.RegisterRank", spec := "registerRank", inPlace := ["internal/bytealg.IndexByteString", "internal/bytealg.IndexString", "internal/bytealg.abigen_runtime_cmpstring"], unfollowed := true, recurses := true, named := ["unicode/utf8.first", "unicode/utf8.acceptRanges", "internal/bytealg.MaxLen"], plainKeys := false, apart := false, laid := [("unicode/utf8.acceptRanges", laid_unicode_utf8_acceptRanges), ("unicode/utf8.first", laid_unicode_utf8_first)] }
def RegisterRankSaid : Prop := registerRankRow.holds Tryz.pinned (OpenSpec.ofChange registerRankSpec)

/-- ITS FALSE NEIGHBOUR: 'it returns false'. Refute it at one input. -/
def registerRankWrong : ChangeSpec := { name := "registerRank", fn := fun _ => fun
  | [d1, d2] => { results := [.lit (.bool false)], args := [d1, d2] }
  | _ => none }
def RegisterRankWrongFalsely : Prop := registerRankRow.holds Tryz.pinned (OpenSpec.ofChange registerRankWrong)

/-- 'insolvencylaw10.RegisterRaw': WHATEVER THE INPUT: true; the input reads as it did. -/
def registerRawSpec : ChangeSpec := { name := "registerRaw", fn := fun _ => fun
  | [d1, d2, d3] => { results := [.lit (.bool true)], args := [d1, d2, d3] }
  | _ => none }
def registerRawRow : OpenClaim := { program := "ytlkhoommpkndpaagreatdoor", sum := "1468a9fc1b2040a401f6186363e14f24e955e8e259f2a84c6310f21f60da025a", func := "insolvency/insolvencylaw10.RegisterRaw", spec := "registerRaw", inPlace := ["internal/bytealg.IndexByteString", "internal/bytealg.IndexString", "internal/bytealg.abigen_runtime_cmpstring"], unfollowed := true, recurses := true, named := ["unicode/utf8.first", "unicode/utf8.acceptRanges", "internal/bytealg.MaxLen"], plainKeys := false, apart := false, laid := [("unicode/utf8.acceptRanges", laid_unicode_utf8_acceptRanges), ("unicode/utf8.first", laid_unicode_utf8_first)] }
def RegisterRawSaid : Prop := registerRawRow.holds Tryz.pinned (OpenSpec.ofChange registerRawSpec)

/-- ITS FALSE NEIGHBOUR: 'it returns false'. Refute it at one input. -/
def registerRawWrong : ChangeSpec := { name := "registerRaw", fn := fun _ => fun
  | [d1, d2, d3] => { results := [.lit (.bool false)], args := [d1, d2, d3] }
  | _ => none }
def RegisterRawWrongFalsely : Prop := registerRawRow.holds Tryz.pinned (OpenSpec.ofChange registerRawWrong)

/- THE SECOND FORM. 'bulk': how many values and letters a reading holds, each counted each time it is reached (what is shared counts as often as it is met; a slice's spare places count too). A statement '..UptoSaid' is the law's where the arguments, and the package variables that the reading takes, are together of bulk at most 1048576: NARROWER than '..Said'. Prove '..Said' where nothing that the law and all that it calls make is longer than what came in: it says more and counts as full. Else prove '..UptoSaid'. A law counts once. -/
mutual
def uptoBulk {H : Type} : DataW H → Nat
  | .lit (.string bytes) => bytes.length + 1
  | .lit _ => 1
  | .nil => 1
  | .ptr d => uptoBulk d + 1
  | .slice elems spare => uptoBulkAll elems + uptoBulkAll spare + 1
  | .agg parts => uptoBulkAll parts + 1
  | .iface _ d => uptoBulk d + 1
  | .map entries => uptoBulkEntries entries + 1
  | .held _ => 1
def uptoBulkAll {H : Type} : List (DataW H) → Nat
  | [] => 0
  | d :: r => uptoBulk d + uptoBulkAll r
def uptoBulkEntries {H : Type} : List (Lit × DataW H) → Nat
  | [] => 0
  | x :: r => uptoBulkEntry x + uptoBulkEntries r
def uptoBulkEntry {H : Type} : Lit × DataW H → Nat
  | (.string bytes, d) => bytes.length + uptoBulk d + 1
  | (_, d) => uptoBulk d + 1
 end
def uptoSmall : (H : Type) → List (DataW H) → Bool := fun _ ds => decide (uptoBulkAll ds ≤ 1048576)
def OpenSpec.upto (s : _root_.Go.ChangeSpec) : _root_.Go.OpenSpec := { _root_.Go.OpenSpec.ofChange s with cond := some uptoSmall }

/-- 'insolvencylaw10.RegisterNew', WHERE WHAT IT READS IS OF BULK AT MOST 1048576: true; the input reads as it did. -/
def registerNewUptoRow : OpenClaim := { program := "ytlkhoommpkndpaagreatdoor", sum := "1468a9fc1b2040a401f6186363e14f24e955e8e259f2a84c6310f21f60da025a", func := "insolvency/insolvencylaw10.RegisterNew", spec := "registerNew", inPlace := ["internal/bytealg.IndexByteString", "internal/bytealg.IndexString", "internal/bytealg.abigen_runtime_cmpstring"], unfollowed := true, recurses := true, named := ["unicode/utf8.first", "unicode/utf8.acceptRanges", "internal/bytealg.MaxLen"], plainKeys := false, apart := false, laid := [("unicode/utf8.acceptRanges", laid_unicode_utf8_acceptRanges), ("unicode/utf8.first", laid_unicode_utf8_first)], narrowed := true }
def RegisterNewUptoSaid : Prop := registerNewUptoRow.holds Tryz.pinned (OpenSpec.upto registerNewSpec)

/-- 'insolvencylaw10.RegisterValue', WHERE WHAT IT READS IS OF BULK AT MOST 1048576: true; the input reads as it did. -/
def registerValueUptoRow : OpenClaim := { program := "ytlkhoommpkndpaagreatdoor", sum := "1468a9fc1b2040a401f6186363e14f24e955e8e259f2a84c6310f21f60da025a", func := "insolvency/insolvencylaw10.RegisterValue", spec := "registerValue", inPlace := ["internal/bytealg.IndexByteString", "internal/bytealg.IndexString", "internal/bytealg.abigen_runtime_cmpstring"], unfollowed := true, recurses := true, named := ["unicode/utf8.first", "unicode/utf8.acceptRanges", "internal/bytealg.MaxLen"], plainKeys := false, apart := false, laid := [("unicode/utf8.acceptRanges", laid_unicode_utf8_acceptRanges), ("unicode/utf8.first", laid_unicode_utf8_first)], narrowed := true }
def RegisterValueUptoSaid : Prop := registerValueUptoRow.holds Tryz.pinned (OpenSpec.upto registerValueSpec)

/-- 'insolvencylaw10.RegisterValues', WHERE WHAT IT READS IS OF BULK AT MOST 1048576: true; the input reads as it did. -/
def registerValuesUptoRow : OpenClaim := { program := "ytlkhoommpkndpaagreatdoor", sum := "1468a9fc1b2040a401f6186363e14f24e955e8e259f2a84c6310f21f60da025a", func := "insolvency/insolvencylaw10.RegisterValues", spec := "registerValues", inPlace := ["internal/bytealg.IndexByteString", "internal/bytealg.IndexString", "internal/bytealg.abigen_runtime_cmpstring"], unfollowed := true, recurses := true, named := ["unicode/utf8.first", "unicode/utf8.acceptRanges", "internal/bytealg.MaxLen"], plainKeys := false, apart := false, laid := [("unicode/utf8.acceptRanges", laid_unicode_utf8_acceptRanges), ("unicode/utf8.first", laid_unicode_utf8_first)], narrowed := true }
def RegisterValuesUptoSaid : Prop := registerValuesUptoRow.holds Tryz.pinned (OpenSpec.upto registerValuesSpec)

/-- 'insolvencylaw10.RegisterApply', WHERE WHAT IT READS IS OF BULK AT MOST 1048576: true; the input reads as it did. -/
def registerApplyUptoRow : OpenClaim := { program := "ytlkhoommpkndpaagreatdoor", sum := "1468a9fc1b2040a401f6186363e14f24e955e8e259f2a84c6310f21f60da025a", func := "insolvency/insolvencylaw10.RegisterApply", spec := "registerApply", inPlace := ["internal/bytealg.IndexByteString", "internal/bytealg.IndexString", "internal/bytealg.abigen_runtime_cmpstring"], unfollowed := true, recurses := true, named := ["unicode/utf8.first", "unicode/utf8.acceptRanges", "internal/bytealg.MaxLen"], plainKeys := false, apart := false, laid := [("unicode/utf8.acceptRanges", laid_unicode_utf8_acceptRanges), ("unicode/utf8.first", laid_unicode_utf8_first)], narrowed := true }
def RegisterApplyUptoSaid : Prop := registerApplyUptoRow.holds Tryz.pinned (OpenSpec.upto registerApplySpec)

/-- 'insolvencylaw10.RegisterBounds', WHERE WHAT IT READS IS OF BULK AT MOST 1048576: true; the input reads as it did. -/
def registerBoundsUptoRow : OpenClaim := { program := "ytlkhoommpkndpaagreatdoor", sum := "1468a9fc1b2040a401f6186363e14f24e955e8e259f2a84c6310f21f60da025a", func := "insolvency/insolvencylaw10.RegisterBounds", spec := "registerBounds", inPlace := ["internal/bytealg.IndexByteString", "internal/bytealg.IndexString", "internal/bytealg.abigen_runtime_cmpstring"], unfollowed := true, recurses := true, named := ["unicode/utf8.first", "unicode/utf8.acceptRanges", "internal/bytealg.MaxLen"], plainKeys := false, apart := false, laid := [("unicode/utf8.acceptRanges", laid_unicode_utf8_acceptRanges), ("unicode/utf8.first", laid_unicode_utf8_first)], narrowed := true }
def RegisterBoundsUptoSaid : Prop := registerBoundsUptoRow.holds Tryz.pinned (OpenSpec.upto registerBoundsSpec)

/-- 'insolvencylaw10.RegisterNarrows', WHERE WHAT IT READS IS OF BULK AT MOST 1048576: true; the input reads as it did. -/
def registerNarrowsUptoRow : OpenClaim := { program := "ytlkhoommpkndpaagreatdoor", sum := "1468a9fc1b2040a401f6186363e14f24e955e8e259f2a84c6310f21f60da025a", func := "insolvency/insolvencylaw10.RegisterNarrows", spec := "registerNarrows", inPlace := ["internal/bytealg.IndexByteString", "internal/bytealg.IndexString", "internal/bytealg.abigen_runtime_cmpstring"], unfollowed := true, recurses := true, named := ["unicode/utf8.first", "unicode/utf8.acceptRanges", "internal/bytealg.MaxLen"], plainKeys := false, apart := false, laid := [("unicode/utf8.acceptRanges", laid_unicode_utf8_acceptRanges), ("unicode/utf8.first", laid_unicode_utf8_first)], narrowed := true }
def RegisterNarrowsUptoSaid : Prop := registerNarrowsUptoRow.holds Tryz.pinned (OpenSpec.upto registerNarrowsSpec)

/-- 'insolvencylaw10.RegisterKeeps', WHERE WHAT IT READS IS OF BULK AT MOST 1048576: true; the input reads as it did. -/
def registerKeepsUptoRow : OpenClaim := { program := "ytlkhoommpkndpaagreatdoor", sum := "1468a9fc1b2040a401f6186363e14f24e955e8e259f2a84c6310f21f60da025a", func := "insolvency/insolvencylaw10.RegisterKeeps", spec := "registerKeeps", inPlace := ["internal/bytealg.IndexByteString", "internal/bytealg.IndexString", "internal/bytealg.abigen_runtime_cmpstring"], unfollowed := true, recurses := true, named := ["unicode/utf8.first", "unicode/utf8.acceptRanges", "internal/bytealg.MaxLen"], plainKeys := false, apart := false, laid := [("unicode/utf8.acceptRanges", laid_unicode_utf8_acceptRanges), ("unicode/utf8.first", laid_unicode_utf8_first)], narrowed := true }
def RegisterKeepsUptoSaid : Prop := registerKeepsUptoRow.holds Tryz.pinned (OpenSpec.upto registerKeepsSpec)

/-- 'insolvencylaw10.RegisterOutcome', WHERE WHAT IT READS IS OF BULK AT MOST 1048576: true; the input reads as it did. -/
def registerOutcomeUptoRow : OpenClaim := { program := "ytlkhoommpkndpaagreatdoor", sum := "1468a9fc1b2040a401f6186363e14f24e955e8e259f2a84c6310f21f60da025a", func := "insolvency/insolvencylaw10.RegisterOutcome", spec := "registerOutcome", inPlace := ["internal/bytealg.IndexByteString", "internal/bytealg.IndexString", "internal/bytealg.abigen_runtime_cmpstring"], unfollowed := true, recurses := true, named := ["unicode/utf8.first", "unicode/utf8.acceptRanges", "internal/bytealg.MaxLen"], plainKeys := false, apart := false, laid := [("unicode/utf8.acceptRanges", laid_unicode_utf8_acceptRanges), ("unicode/utf8.first", laid_unicode_utf8_first)], narrowed := true }
def RegisterOutcomeUptoSaid : Prop := registerOutcomeUptoRow.holds Tryz.pinned (OpenSpec.upto registerOutcomeSpec)

/-- 'insolvencylaw10.RegisterRank', WHERE WHAT IT READS IS OF BULK AT MOST 1048576: true; the input reads as it did. -/
def registerRankUptoRow : OpenClaim := { program := "ytlkhoommpkndpaagreatdoor", sum := "1468a9fc1b2040a401f6186363e14f24e955e8e259f2a84c6310f21f60da025a", func := "insolvency/insolvencylaw10.RegisterRank", spec := "registerRank", inPlace := ["internal/bytealg.IndexByteString", "internal/bytealg.IndexString", "internal/bytealg.abigen_runtime_cmpstring"], unfollowed := true, recurses := true, named := ["unicode/utf8.first", "unicode/utf8.acceptRanges", "internal/bytealg.MaxLen"], plainKeys := false, apart := false, laid := [("unicode/utf8.acceptRanges", laid_unicode_utf8_acceptRanges), ("unicode/utf8.first", laid_unicode_utf8_first)], narrowed := true }
def RegisterRankUptoSaid : Prop := registerRankUptoRow.holds Tryz.pinned (OpenSpec.upto registerRankSpec)

/-- 'insolvencylaw10.RegisterRaw', WHERE WHAT IT READS IS OF BULK AT MOST 1048576: true; the input reads as it did. -/
def registerRawUptoRow : OpenClaim := { program := "ytlkhoommpkndpaagreatdoor", sum := "1468a9fc1b2040a401f6186363e14f24e955e8e259f2a84c6310f21f60da025a", func := "insolvency/insolvencylaw10.RegisterRaw", spec := "registerRaw", inPlace := ["internal/bytealg.IndexByteString", "internal/bytealg.IndexString", "internal/bytealg.abigen_runtime_cmpstring"], unfollowed := true, recurses := true, named := ["unicode/utf8.first", "unicode/utf8.acceptRanges", "internal/bytealg.MaxLen"], plainKeys := false, apart := false, laid := [("unicode/utf8.acceptRanges", laid_unicode_utf8_acceptRanges), ("unicode/utf8.first", laid_unicode_utf8_first)], narrowed := true }
def RegisterRawUptoSaid : Prop := registerRawUptoRow.holds Tryz.pinned (OpenSpec.upto registerRawSpec)

end Rows
end Go.Proofs.YtlkhoommpkndpaaGreatDoor
