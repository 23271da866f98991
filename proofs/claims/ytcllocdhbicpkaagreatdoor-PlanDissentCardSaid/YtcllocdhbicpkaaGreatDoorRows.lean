/-
  NARROWER THAN 'FOR EVERY INPUT', by the rows' own cells (each row's printed sentence says how): PlanCheck: laid · PlanResidue: laid · PlanConfirm: laid · PlanSearch: laid · PlanFound: laid · PlanDissent: laid · PlanMore: laid.
  DERIVED. THE GIVEN ROWS OF THIS SEAT. 7 by the template 'for every input the law returns true; each argument reads behind the call as it read before'; 0 by the template 'total and deterministic' (their statements: YtcllocdhbicpkaaGreatDoorTotals.lean).
  GIVEN WITH THE SEED: the statements are not yours to turn. If you find one false, say at which input.
  Laid BY PROGRAM, IN A SANDBOX (cutbox-rows.mjs): the forced cells as the released guide's own fill.sh prints them over the translation 6765374b5c8ec778… (all of the seat's roots in one cut). By AI agents, Wed Nov 11 2026. No macro, syntax, notation, axiom, sorry.
-/
import Derived.Test.YtcllocdhbicpkaaGreatDoorChecked
import GoSem.PinnedTables
import GoSem.Claim
import GoSem.ClaimJoined
import GoSem.ClaimMapViews
import Derived.JoinedTies
import Derived.KernelRfl
namespace Go.Proofs.YtcllocdhbicpkaaGreatDoor
/- THE CELL 'sum', in the pinned program and in every row, IS THE sha256 OF THE DUMP (.gsa) THAT YtcllocdhbicpkaaGreatDoorProg.lean LOADS. Nothing in Lean hashes anything: it is a label: what it is worth is what the hold of that sum in a sandbox is worth. -/
noncomputable def Tryz.pinned : Pinned := { name := "ytcllocdhbicpkaagreatdoor", sum := "6765374b5c8ec778a523dde4e372909aacc8444fd625a4e4127a0bff390f48f7", checked := Tryz.checked }
namespace Rows
def none {H : Type} : Left H := { results := [], args := [] }

/- WHAT THE LISTED PACKAGE-LEVEL VARIABLES READ AS WHEN THE CALL BEGINS. Each datum BY PROGRAM (the guide's laid-datum.mjs) off the statement by which the dump's own 'gosem.cut.vars' lays the variable. In a bare row this is a premise. The card (YtcllocdhbicpkaaGreatDoorCards.lean) ties it to the program's text. -/
def laid_unicode_utf8_acceptRanges {H : Type} : DataW H := .agg [.agg [.lit (.int .u8 128), .lit (.int .u8 191)], .agg [.lit (.int .u8 160), .lit (.int .u8 191)], .agg [.lit (.int .u8 128), .lit (.int .u8 159)], .agg [.lit (.int .u8 144), .lit (.int .u8 191)], .agg [.lit (.int .u8 128), .lit (.int .u8 143)], .agg [.lit (.int .u8 0), .lit (.int .u8 0)], .agg [.lit (.int .u8 0), .lit (.int .u8 0)], .agg [.lit (.int .u8 0), .lit (.int .u8 0)], .agg [.lit (.int .u8 0), .lit (.int .u8 0)], .agg [.lit (.int .u8 0), .lit (.int .u8 0)], .agg [.lit (.int .u8 0), .lit (.int .u8 0)], .agg [.lit (.int .u8 0), .lit (.int .u8 0)], .agg [.lit (.int .u8 0), .lit (.int .u8 0)], .agg [.lit (.int .u8 0), .lit (.int .u8 0)], .agg [.lit (.int .u8 0), .lit (.int .u8 0)], .agg [.lit (.int .u8 0), .lit (.int .u8 0)]]
/-- One of Go's own tables, pinned by name: the form's constant. -/
def laid_unicode_utf8_first : DataW Unit := Go.Pinned.utf8First

/-- 'insolvencylaw32.PlanCheck': WHATEVER THE INPUT: true; the input reads as it did. -/
def planCheckSpec : ChangeSpec := { name := "planCheck", fn := fun _ => fun
  | [d1, d2, d3, d4, d5] => { results := [.lit (.bool true)], args := [d1, d2, d3, d4, d5] }
  | _ => none }
def planCheckRow : OpenClaim := { program := "ytcllocdhbicpkaagreatdoor", sum := "6765374b5c8ec778a523dde4e372909aacc8444fd625a4e4127a0bff390f48f7", func := "insolvency/insolvencylaw32.PlanCheck", spec := "planCheck", inPlace := ["internal/bytealg.IndexByteString", "internal/bytealg.IndexString", "internal/bytealg.abigen_runtime_cmpstring"], unfollowed := true, recurses := true, named := ["unicode/utf8.first", "unicode/utf8.acceptRanges", "internal/bytealg.MaxLen"], apart := false, laid := [("unicode/utf8.acceptRanges", laid_unicode_utf8_acceptRanges), ("unicode/utf8.first", laid_unicode_utf8_first)] }
def PlanCheckSaid : Prop := planCheckRow.holds Tryz.pinned (OpenSpec.ofChange planCheckSpec)

/-- ITS FALSE NEIGHBOUR: 'it returns false'. Refute it at one input. -/
def planCheckWrong : ChangeSpec := { name := "planCheck", fn := fun _ => fun
  | [d1, d2, d3, d4, d5] => { results := [.lit (.bool false)], args := [d1, d2, d3, d4, d5] }
  | _ => none }
def PlanCheckWrongFalsely : Prop := planCheckRow.holds Tryz.pinned (OpenSpec.ofChange planCheckWrong)

/-- 'insolvencylaw32.PlanResidue': WHATEVER THE INPUT: true; the input reads as it did. -/
def planResidueSpec : ChangeSpec := { name := "planResidue", fn := fun _ => fun
  | [d1, d2, d3, d4, d5, d6] => { results := [.lit (.bool true)], args := [d1, d2, d3, d4, d5, d6] }
  | _ => none }
def planResidueRow : OpenClaim := { program := "ytcllocdhbicpkaagreatdoor", sum := "6765374b5c8ec778a523dde4e372909aacc8444fd625a4e4127a0bff390f48f7", func := "insolvency/insolvencylaw32.PlanResidue", spec := "planResidue", inPlace := ["internal/bytealg.IndexByteString", "internal/bytealg.IndexString", "internal/bytealg.abigen_runtime_cmpstring"], unfollowed := true, recurses := true, named := ["unicode/utf8.first", "unicode/utf8.acceptRanges", "internal/bytealg.MaxLen"], apart := false, laid := [("unicode/utf8.acceptRanges", laid_unicode_utf8_acceptRanges), ("unicode/utf8.first", laid_unicode_utf8_first)] }
def PlanResidueSaid : Prop := planResidueRow.holds Tryz.pinned (OpenSpec.ofChange planResidueSpec)

/-- ITS FALSE NEIGHBOUR: 'it returns false'. Refute it at one input. -/
def planResidueWrong : ChangeSpec := { name := "planResidue", fn := fun _ => fun
  | [d1, d2, d3, d4, d5, d6] => { results := [.lit (.bool false)], args := [d1, d2, d3, d4, d5, d6] }
  | _ => none }
def PlanResidueWrongFalsely : Prop := planResidueRow.holds Tryz.pinned (OpenSpec.ofChange planResidueWrong)

/-- 'insolvencylaw32.PlanConfirm': WHATEVER THE INPUT: true; the input reads as it did. -/
def planConfirmSpec : ChangeSpec := { name := "planConfirm", fn := fun _ => fun
  | [d1, d2, d3, d4, d5, d6] => { results := [.lit (.bool true)], args := [d1, d2, d3, d4, d5, d6] }
  | _ => none }
def planConfirmRow : OpenClaim := { program := "ytcllocdhbicpkaagreatdoor", sum := "6765374b5c8ec778a523dde4e372909aacc8444fd625a4e4127a0bff390f48f7", func := "insolvency/insolvencylaw32.PlanConfirm", spec := "planConfirm", inPlace := ["internal/bytealg.IndexByteString", "internal/bytealg.IndexString", "internal/bytealg.abigen_runtime_cmpstring"], unfollowed := true, recurses := true, named := ["unicode/utf8.first", "unicode/utf8.acceptRanges", "internal/bytealg.MaxLen"], apart := false, laid := [("unicode/utf8.acceptRanges", laid_unicode_utf8_acceptRanges), ("unicode/utf8.first", laid_unicode_utf8_first)] }
def PlanConfirmSaid : Prop := planConfirmRow.holds Tryz.pinned (OpenSpec.ofChange planConfirmSpec)

/-- ITS FALSE NEIGHBOUR: 'it returns false'. Refute it at one input. -/
def planConfirmWrong : ChangeSpec := { name := "planConfirm", fn := fun _ => fun
  | [d1, d2, d3, d4, d5, d6] => { results := [.lit (.bool false)], args := [d1, d2, d3, d4, d5, d6] }
  | _ => none }
def PlanConfirmWrongFalsely : Prop := planConfirmRow.holds Tryz.pinned (OpenSpec.ofChange planConfirmWrong)

/-- 'insolvencylaw32.PlanSearch': WHATEVER THE INPUT: true; the input reads as it did. -/
def planSearchSpec : ChangeSpec := { name := "planSearch", fn := fun _ => fun
  | [d1, d2, d3, d4, d5] => { results := [.lit (.bool true)], args := [d1, d2, d3, d4, d5] }
  | _ => none }
def planSearchRow : OpenClaim := { program := "ytcllocdhbicpkaagreatdoor", sum := "6765374b5c8ec778a523dde4e372909aacc8444fd625a4e4127a0bff390f48f7", func := "insolvency/insolvencylaw32.PlanSearch", spec := "planSearch", inPlace := ["internal/bytealg.IndexByteString", "internal/bytealg.IndexString", "internal/bytealg.abigen_runtime_cmpstring"], unfollowed := true, recurses := true, named := ["unicode/utf8.first", "unicode/utf8.acceptRanges", "internal/bytealg.MaxLen"], apart := false, laid := [("unicode/utf8.acceptRanges", laid_unicode_utf8_acceptRanges), ("unicode/utf8.first", laid_unicode_utf8_first)] }
def PlanSearchSaid : Prop := planSearchRow.holds Tryz.pinned (OpenSpec.ofChange planSearchSpec)

/-- ITS FALSE NEIGHBOUR: 'it returns false'. Refute it at one input. -/
def planSearchWrong : ChangeSpec := { name := "planSearch", fn := fun _ => fun
  | [d1, d2, d3, d4, d5] => { results := [.lit (.bool false)], args := [d1, d2, d3, d4, d5] }
  | _ => none }
def PlanSearchWrongFalsely : Prop := planSearchRow.holds Tryz.pinned (OpenSpec.ofChange planSearchWrong)

/-- 'insolvencylaw32.PlanFound': WHATEVER THE INPUT: true; the input reads as it did. -/
def planFoundSpec : ChangeSpec := { name := "planFound", fn := fun _ => fun
  | [d1, d2] => { results := [.lit (.bool true)], args := [d1, d2] }
  | _ => none }
def planFoundRow : OpenClaim := { program := "ytcllocdhbicpkaagreatdoor", sum := "6765374b5c8ec778a523dde4e372909aacc8444fd625a4e4127a0bff390f48f7", func := "insolvency/insolvencylaw32.PlanFound", spec := "planFound", inPlace := ["internal/bytealg.IndexByteString", "internal/bytealg.IndexString", "internal/bytealg.abigen_runtime_cmpstring"], unfollowed := true, recurses := true, named := ["unicode/utf8.first", "unicode/utf8.acceptRanges", "internal/bytealg.MaxLen"], apart := false, laid := [("unicode/utf8.acceptRanges", laid_unicode_utf8_acceptRanges), ("unicode/utf8.first", laid_unicode_utf8_first)] }
def PlanFoundSaid : Prop := planFoundRow.holds Tryz.pinned (OpenSpec.ofChange planFoundSpec)

/-- ITS FALSE NEIGHBOUR: 'it returns false'. Refute it at one input. -/
def planFoundWrong : ChangeSpec := { name := "planFound", fn := fun _ => fun
  | [d1, d2] => { results := [.lit (.bool false)], args := [d1, d2] }
  | _ => none }
def PlanFoundWrongFalsely : Prop := planFoundRow.holds Tryz.pinned (OpenSpec.ofChange planFoundWrong)

/-- 'insolvencylaw32.PlanDissent': WHATEVER THE INPUT: true; the input reads as it did. -/
def planDissentSpec : ChangeSpec := { name := "planDissent", fn := fun _ => fun
  | [d1, d2, d3, d4] => { results := [.lit (.bool true)], args := [d1, d2, d3, d4] }
  | _ => none }
def planDissentRow : OpenClaim := { program := "ytcllocdhbicpkaagreatdoor", sum := "6765374b5c8ec778a523dde4e372909aacc8444fd625a4e4127a0bff390f48f7", func := "insolvency/insolvencylaw32.PlanDissent", spec := "planDissent", inPlace := ["internal/bytealg.IndexByteString", "internal/bytealg.IndexString", "internal/bytealg.abigen_runtime_cmpstring"], unfollowed := true, recurses := true, named := ["unicode/utf8.first", "unicode/utf8.acceptRanges", "internal/bytealg.MaxLen"], apart := false, laid := [("unicode/utf8.acceptRanges", laid_unicode_utf8_acceptRanges), ("unicode/utf8.first", laid_unicode_utf8_first)] }
def PlanDissentSaid : Prop := planDissentRow.holds Tryz.pinned (OpenSpec.ofChange planDissentSpec)

/-- ITS FALSE NEIGHBOUR: 'it returns false'. Refute it at one input. -/
def planDissentWrong : ChangeSpec := { name := "planDissent", fn := fun _ => fun
  | [d1, d2, d3, d4] => { results := [.lit (.bool false)], args := [d1, d2, d3, d4] }
  | _ => none }
def PlanDissentWrongFalsely : Prop := planDissentRow.holds Tryz.pinned (OpenSpec.ofChange planDissentWrong)

/-- 'insolvencylaw32.PlanMore': WHATEVER THE INPUT: true; the input reads as it did. -/
def planMoreSpec : ChangeSpec := { name := "planMore", fn := fun _ => fun
  | [d1, d2, d3, d4] => { results := [.lit (.bool true)], args := [d1, d2, d3, d4] }
  | _ => none }
def planMoreRow : OpenClaim := { program := "ytcllocdhbicpkaagreatdoor", sum := "6765374b5c8ec778a523dde4e372909aacc8444fd625a4e4127a0bff390f48f7", func := "insolvency/insolvencylaw32.PlanMore", spec := "planMore", inPlace := ["internal/bytealg.IndexByteString", "internal/bytealg.IndexString", "internal/bytealg.abigen_runtime_cmpstring"], unfollowed := true, recurses := true, named := ["unicode/utf8.first", "unicode/utf8.acceptRanges", "internal/bytealg.MaxLen"], apart := false, laid := [("unicode/utf8.acceptRanges", laid_unicode_utf8_acceptRanges), ("unicode/utf8.first", laid_unicode_utf8_first)] }
def PlanMoreSaid : Prop := planMoreRow.holds Tryz.pinned (OpenSpec.ofChange planMoreSpec)

/-- ITS FALSE NEIGHBOUR: 'it returns false'. Refute it at one input. -/
def planMoreWrong : ChangeSpec := { name := "planMore", fn := fun _ => fun
  | [d1, d2, d3, d4] => { results := [.lit (.bool false)], args := [d1, d2, d3, d4] }
  | _ => none }
def PlanMoreWrongFalsely : Prop := planMoreRow.holds Tryz.pinned (OpenSpec.ofChange planMoreWrong)

/- THE SECOND FORM. 'bulk': how many values and letters a reading holds, each counted each time it is reached (what is shared counts as often as it is met; a slice's spare places count too). A statement '..UptoSaid' is the law's where the arguments, and the package variables that the reading takes, are together of bulk at most 1048576: NARROWER than '..Said'. Prove '..Said' where nothing that the law and all that it calls make is longer than what came in: it says more and counts as full. Else prove '..UptoSaid'. A law counts once. -/
mutual
def uptoBulk {H : Type} : DataW H → Nat
  | .lit (.string bytes) => bytes.length + 1
  | .lit _ => 1
  | .nil => 1
  | .ptr d => uptoBulk d + 1
  | .slice elems spare => uptoBulkAll elems + uptoBulkAll spare + 1
  | .agg parts => uptoBulkAll parts + 1
  | .iface _ d => uptoBulk d + 1
  | .map entries => uptoBulkEntries entries + 1
  | .held _ => 1
def uptoBulkAll {H : Type} : List (DataW H) → Nat
  | [] => 0
  | d :: r => uptoBulk d + uptoBulkAll r
def uptoBulkEntries {H : Type} : List (Lit × DataW H) → Nat
  | [] => 0
  | x :: r => uptoBulkEntry x + uptoBulkEntries r
def uptoBulkEntry {H : Type} : Lit × DataW H → Nat
  | (.string bytes, d) => bytes.length + uptoBulk d + 1
  | (_, d) => uptoBulk d + 1
 end
def uptoSmall : (H : Type) → List (DataW H) → Bool := fun _ ds => decide (uptoBulkAll ds ≤ 1048576)
def OpenSpec.upto (s : _root_.Go.ChangeSpec) : _root_.Go.OpenSpec := { _root_.Go.OpenSpec.ofChange s with cond := some uptoSmall }

/-- 'insolvencylaw32.PlanCheck', WHERE WHAT IT READS IS OF BULK AT MOST 1048576: true; the input reads as it did. -/
def planCheckUptoRow : OpenClaim := { program := "ytcllocdhbicpkaagreatdoor", sum := "6765374b5c8ec778a523dde4e372909aacc8444fd625a4e4127a0bff390f48f7", func := "insolvency/insolvencylaw32.PlanCheck", spec := "planCheck", inPlace := ["internal/bytealg.IndexByteString", "internal/bytealg.IndexString", "internal/bytealg.abigen_runtime_cmpstring"], unfollowed := true, recurses := true, named := ["unicode/utf8.first", "unicode/utf8.acceptRanges", "internal/bytealg.MaxLen"], apart := false, laid := [("unicode/utf8.acceptRanges", laid_unicode_utf8_acceptRanges), ("unicode/utf8.first", laid_unicode_utf8_first)], narrowed := true }
def PlanCheckUptoSaid : Prop := planCheckUptoRow.holds Tryz.pinned (OpenSpec.upto planCheckSpec)

/-- 'insolvencylaw32.PlanResidue', WHERE WHAT IT READS IS OF BULK AT MOST 1048576: true; the input reads as it did. -/
def planResidueUptoRow : OpenClaim := { program := "ytcllocdhbicpkaagreatdoor", sum := "6765374b5c8ec778a523dde4e372909aacc8444fd625a4e4127a0bff390f48f7", func := "insolvency/insolvencylaw32.PlanResidue", spec := "planResidue", inPlace := ["internal/bytealg.IndexByteString", "internal/bytealg.IndexString", "internal/bytealg.abigen_runtime_cmpstring"], unfollowed := true, recurses := true, named := ["unicode/utf8.first", "unicode/utf8.acceptRanges", "internal/bytealg.MaxLen"], apart := false, laid := [("unicode/utf8.acceptRanges", laid_unicode_utf8_acceptRanges), ("unicode/utf8.first", laid_unicode_utf8_first)], narrowed := true }
def PlanResidueUptoSaid : Prop := planResidueUptoRow.holds Tryz.pinned (OpenSpec.upto planResidueSpec)

/-- 'insolvencylaw32.PlanConfirm', WHERE WHAT IT READS IS OF BULK AT MOST 1048576: true; the input reads as it did. -/
def planConfirmUptoRow : OpenClaim := { program := "ytcllocdhbicpkaagreatdoor", sum := "6765374b5c8ec778a523dde4e372909aacc8444fd625a4e4127a0bff390f48f7", func := "insolvency/insolvencylaw32.PlanConfirm", spec := "planConfirm", inPlace := ["internal/bytealg.IndexByteString", "internal/bytealg.IndexString", "internal/bytealg.abigen_runtime_cmpstring"], unfollowed := true, recurses := true, named := ["unicode/utf8.first", "unicode/utf8.acceptRanges", "internal/bytealg.MaxLen"], apart := false, laid := [("unicode/utf8.acceptRanges", laid_unicode_utf8_acceptRanges), ("unicode/utf8.first", laid_unicode_utf8_first)], narrowed := true }
def PlanConfirmUptoSaid : Prop := planConfirmUptoRow.holds Tryz.pinned (OpenSpec.upto planConfirmSpec)

/-- 'insolvencylaw32.PlanSearch', WHERE WHAT IT READS IS OF BULK AT MOST 1048576: true; the input reads as it did. -/
def planSearchUptoRow : OpenClaim := { program := "ytcllocdhbicpkaagreatdoor", sum := "6765374b5c8ec778a523dde4e372909aacc8444fd625a4e4127a0bff390f48f7", func := "insolvency/insolvencylaw32.PlanSearch", spec := "planSearch", inPlace := ["internal/bytealg.IndexByteString", "internal/bytealg.IndexString", "internal/bytealg.abigen_runtime_cmpstring"], unfollowed := true, recurses := true, named := ["unicode/utf8.first", "unicode/utf8.acceptRanges", "internal/bytealg.MaxLen"], apart := false, laid := [("unicode/utf8.acceptRanges", laid_unicode_utf8_acceptRanges), ("unicode/utf8.first", laid_unicode_utf8_first)], narrowed := true }
def PlanSearchUptoSaid : Prop := planSearchUptoRow.holds Tryz.pinned (OpenSpec.upto planSearchSpec)

/-- 'insolvencylaw32.PlanFound', WHERE WHAT IT READS IS OF BULK AT MOST 1048576: true; the input reads as it did. -/
def planFoundUptoRow : OpenClaim := { program := "ytcllocdhbicpkaagreatdoor", sum := "6765374b5c8ec778a523dde4e372909aacc8444fd625a4e4127a0bff390f48f7", func := "insolvency/insolvencylaw32.PlanFound", spec := "planFound", inPlace := ["internal/bytealg.IndexByteString", "internal/bytealg.IndexString", "internal/bytealg.abigen_runtime_cmpstring"], unfollowed := true, recurses := true, named := ["unicode/utf8.first", "unicode/utf8.acceptRanges", "internal/bytealg.MaxLen"], apart := false, laid := [("unicode/utf8.acceptRanges", laid_unicode_utf8_acceptRanges), ("unicode/utf8.first", laid_unicode_utf8_first)], narrowed := true }
def PlanFoundUptoSaid : Prop := planFoundUptoRow.holds Tryz.pinned (OpenSpec.upto planFoundSpec)

/-- 'insolvencylaw32.PlanDissent', WHERE WHAT IT READS IS OF BULK AT MOST 1048576: true; the input reads as it did. -/
def planDissentUptoRow : OpenClaim := { program := "ytcllocdhbicpkaagreatdoor", sum := "6765374b5c8ec778a523dde4e372909aacc8444fd625a4e4127a0bff390f48f7", func := "insolvency/insolvencylaw32.PlanDissent", spec := "planDissent", inPlace := ["internal/bytealg.IndexByteString", "internal/bytealg.IndexString", "internal/bytealg.abigen_runtime_cmpstring"], unfollowed := true, recurses := true, named := ["unicode/utf8.first", "unicode/utf8.acceptRanges", "internal/bytealg.MaxLen"], apart := false, laid := [("unicode/utf8.acceptRanges", laid_unicode_utf8_acceptRanges), ("unicode/utf8.first", laid_unicode_utf8_first)], narrowed := true }
def PlanDissentUptoSaid : Prop := planDissentUptoRow.holds Tryz.pinned (OpenSpec.upto planDissentSpec)

/-- 'insolvencylaw32.PlanMore', WHERE WHAT IT READS IS OF BULK AT MOST 1048576: true; the input reads as it did. -/
def planMoreUptoRow : OpenClaim := { program := "ytcllocdhbicpkaagreatdoor", sum := "6765374b5c8ec778a523dde4e372909aacc8444fd625a4e4127a0bff390f48f7", func := "insolvency/insolvencylaw32.PlanMore", spec := "planMore", inPlace := ["internal/bytealg.IndexByteString", "internal/bytealg.IndexString", "internal/bytealg.abigen_runtime_cmpstring"], unfollowed := true, recurses := true, named := ["unicode/utf8.first", "unicode/utf8.acceptRanges", "internal/bytealg.MaxLen"], apart := false, laid := [("unicode/utf8.acceptRanges", laid_unicode_utf8_acceptRanges), ("unicode/utf8.first", laid_unicode_utf8_first)], narrowed := true }
def PlanMoreUptoSaid : Prop := planMoreUptoRow.holds Tryz.pinned (OpenSpec.upto planMoreSpec)

end Rows
end Go.Proofs.YtcllocdhbicpkaaGreatDoor
