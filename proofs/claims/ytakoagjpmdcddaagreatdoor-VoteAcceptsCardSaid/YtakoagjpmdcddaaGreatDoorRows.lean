/-
  NARROWER THAN 'FOR EVERY INPUT', by the rows' own cells (each row's printed sentence says how): InterestCompound: laid · InterestPeriods: laid · VoteThreshold: laid · VoteCount: laid · VoteAccepts: laid.
  DERIVED. THE GIVEN ROWS OF THIS SEAT. 5 by the template 'for every input the law returns true; each argument reads behind the call as it read before'; 0 by the template 'total and deterministic' (their statements: YtakoagjpmdcddaaGreatDoorTotals.lean).
  GIVEN WITH THE SEED: the statements are not yours to turn. If you find one false, say at which input.
  Laid BY PROGRAM, IN A SANDBOX (cutbox-rows.mjs): the forced cells as the released guide's own fill.sh prints them over the translation d365ac5734c52efb… (all of the seat's roots in one cut). By AI agents, Wed Nov 11 2026. No macro, syntax, notation, axiom, sorry.
-/
import Derived.Test.YtakoagjpmdcddaaGreatDoorChecked
import GoSem.PinnedTables
import GoSem.Claim
import GoSem.ClaimJoined
import GoSem.ClaimMapViews
import Derived.JoinedTies
import Derived.KernelRfl
namespace Go.Proofs.YtakoagjpmdcddaaGreatDoor
/- THE CELL 'sum', in the pinned program and in every row, IS THE sha256 OF THE DUMP (.gsa) THAT YtakoagjpmdcddaaGreatDoorProg.lean LOADS. Nothing in Lean hashes anything: it is a label: what it is worth is what the hold of that sum in a sandbox is worth. -/
noncomputable def Tryz.pinned : Pinned := { name := "ytakoagjpmdcddaagreatdoor", sum := "d365ac5734c52efb2b8cf45dfa9215575254e42f697a74acda1efe6b5899340c", checked := Tryz.checked }
namespace Rows
def none {H : Type} : Left H := { results := [], args := [] }

/- WHAT THE LISTED PACKAGE-LEVEL VARIABLES READ AS WHEN THE CALL BEGINS. Each datum BY PROGRAM (the guide's laid-datum.mjs) off the statement by which the dump's own 'gosem.cut.vars' lays the variable. In a bare row this is a premise. The card (YtakoagjpmdcddaaGreatDoorCards.lean) ties it to the program's text. -/
def laid_unicode_utf8_acceptRanges {H : Type} : DataW H := .agg [.agg [.lit (.int .u8 128), .lit (.int .u8 191)], .agg [.lit (.int .u8 160), .lit (.int .u8 191)], .agg [.lit (.int .u8 128), .lit (.int .u8 159)], .agg [.lit (.int .u8 144), .lit (.int .u8 191)], .agg [.lit (.int .u8 128), .lit (.int .u8 143)], .agg [.lit (.int .u8 0), .lit (.int .u8 0)], .agg [.lit (.int .u8 0), .lit (.int .u8 0)], .agg [.lit (.int .u8 0), .lit (.int .u8 0)], .agg [.lit (.int .u8 0), .lit (.int .u8 0)], .agg [.lit (.int .u8 0), .lit (.int .u8 0)], .agg [.lit (.int .u8 0), .lit (.int .u8 0)], .agg [.lit (.int .u8 0), .lit (.int .u8 0)], .agg [.lit (.int .u8 0), .lit (.int .u8 0)], .agg [.lit (.int .u8 0), .lit (.int .u8 0)], .agg [.lit (.int .u8 0), .lit (.int .u8 0)], .agg [.lit (.int .u8 0), .lit (.int .u8 0)]]
/-- One of Go's own tables, pinned by name: the form's constant. -/
def laid_unicode_utf8_first : DataW Unit := Go.Pinned.utf8First

/-- 'insolvencylaw6.InterestCompound': WHATEVER THE INPUT: true; the input reads as it did. -/
def interestCompoundSpec : ChangeSpec := { name := "interestCompound", fn := fun _ => fun
  | [d1, d2, d3, d4, d5, d6] => { results := [.lit (.bool true)], args := [d1, d2, d3, d4, d5, d6] }
  | _ => none }
def interestCompoundRow : OpenClaim := { program := "ytakoagjpmdcddaagreatdoor", sum := "d365ac5734c52efb2b8cf45dfa9215575254e42f697a74acda1efe6b5899340c", func := "insolvency/insolvencylaw6.InterestCompound", spec := "interestCompound", inPlace := ["internal/bytealg.IndexByteString", "internal/bytealg.IndexString"], named := ["unicode/utf8.first", "unicode/utf8.acceptRanges", "internal/bytealg.MaxLen"], apart := false, laid := [("unicode/utf8.acceptRanges", laid_unicode_utf8_acceptRanges), ("unicode/utf8.first", laid_unicode_utf8_first)] }
def InterestCompoundSaid : Prop := interestCompoundRow.holds Tryz.pinned (OpenSpec.ofChange interestCompoundSpec)

/-- ITS FALSE NEIGHBOUR: 'it returns false'. Refute it at one input. -/
def interestCompoundWrong : ChangeSpec := { name := "interestCompound", fn := fun _ => fun
  | [d1, d2, d3, d4, d5, d6] => { results := [.lit (.bool false)], args := [d1, d2, d3, d4, d5, d6] }
  | _ => none }
def InterestCompoundWrongFalsely : Prop := interestCompoundRow.holds Tryz.pinned (OpenSpec.ofChange interestCompoundWrong)

/-- 'insolvencylaw6.InterestPeriods': WHATEVER THE INPUT: true; the input reads as it did. -/
def interestPeriodsSpec : ChangeSpec := { name := "interestPeriods", fn := fun _ => fun
  | [d1, d2, d3, d4, d5] => { results := [.lit (.bool true)], args := [d1, d2, d3, d4, d5] }
  | _ => none }
def interestPeriodsRow : OpenClaim := { program := "ytakoagjpmdcddaagreatdoor", sum := "d365ac5734c52efb2b8cf45dfa9215575254e42f697a74acda1efe6b5899340c", func := "insolvency/insolvencylaw6.InterestPeriods", spec := "interestPeriods", inPlace := ["internal/bytealg.IndexByteString", "internal/bytealg.IndexString"], named := ["unicode/utf8.first", "unicode/utf8.acceptRanges", "internal/bytealg.MaxLen"], apart := false, laid := [("unicode/utf8.acceptRanges", laid_unicode_utf8_acceptRanges), ("unicode/utf8.first", laid_unicode_utf8_first)] }
def InterestPeriodsSaid : Prop := interestPeriodsRow.holds Tryz.pinned (OpenSpec.ofChange interestPeriodsSpec)

/-- ITS FALSE NEIGHBOUR: 'it returns false'. Refute it at one input. -/
def interestPeriodsWrong : ChangeSpec := { name := "interestPeriods", fn := fun _ => fun
  | [d1, d2, d3, d4, d5] => { results := [.lit (.bool false)], args := [d1, d2, d3, d4, d5] }
  | _ => none }
def InterestPeriodsWrongFalsely : Prop := interestPeriodsRow.holds Tryz.pinned (OpenSpec.ofChange interestPeriodsWrong)

/-- 'insolvencylaw30.VoteThreshold': WHATEVER THE INPUT: true; the input reads as it did. -/
def voteThresholdSpec : ChangeSpec := { name := "voteThreshold", fn := fun _ => fun
  | [d1, d2] => { results := [.lit (.bool true)], args := [d1, d2] }
  | _ => none }
def voteThresholdRow : OpenClaim := { program := "ytakoagjpmdcddaagreatdoor", sum := "d365ac5734c52efb2b8cf45dfa9215575254e42f697a74acda1efe6b5899340c", func := "insolvency/insolvencylaw30.VoteThreshold", spec := "voteThreshold", inPlace := ["internal/bytealg.IndexByteString", "internal/bytealg.IndexString", "internal/bytealg.abigen_runtime_cmpstring"], unfollowed := true, recurses := true, named := ["unicode/utf8.first", "unicode/utf8.acceptRanges", "internal/bytealg.MaxLen"], apart := false, laid := [("unicode/utf8.acceptRanges", laid_unicode_utf8_acceptRanges), ("unicode/utf8.first", laid_unicode_utf8_first)] }
def VoteThresholdSaid : Prop := voteThresholdRow.holds Tryz.pinned (OpenSpec.ofChange voteThresholdSpec)

/-- ITS FALSE NEIGHBOUR: 'it returns false'. Refute it at one input. -/
def voteThresholdWrong : ChangeSpec := { name := "voteThreshold", fn := fun _ => fun
  | [d1, d2] => { results := [.lit (.bool false)], args := [d1, d2] }
  | _ => none }
def VoteThresholdWrongFalsely : Prop := voteThresholdRow.holds Tryz.pinned (OpenSpec.ofChange voteThresholdWrong)

/-- 'insolvencylaw30.VoteCount': WHATEVER THE INPUT: true; the input reads as it did. -/
def voteCountSpec : ChangeSpec := { name := "voteCount", fn := fun _ => fun
  | [d1, d2, d3, d4] => { results := [.lit (.bool true)], args := [d1, d2, d3, d4] }
  | _ => none }
def voteCountRow : OpenClaim := { program := "ytakoagjpmdcddaagreatdoor", sum := "d365ac5734c52efb2b8cf45dfa9215575254e42f697a74acda1efe6b5899340c", func := "insolvency/insolvencylaw30.VoteCount", spec := "voteCount", inPlace := ["internal/bytealg.IndexByteString", "internal/bytealg.IndexString", "internal/bytealg.abigen_runtime_cmpstring"], unfollowed := true, recurses := true, named := ["unicode/utf8.first", "unicode/utf8.acceptRanges", "internal/bytealg.MaxLen"], apart := false, laid := [("unicode/utf8.acceptRanges", laid_unicode_utf8_acceptRanges), ("unicode/utf8.first", laid_unicode_utf8_first)] }
def VoteCountSaid : Prop := voteCountRow.holds Tryz.pinned (OpenSpec.ofChange voteCountSpec)

/-- ITS FALSE NEIGHBOUR: 'it returns false'. Refute it at one input. -/
def voteCountWrong : ChangeSpec := { name := "voteCount", fn := fun _ => fun
  | [d1, d2, d3, d4] => { results := [.lit (.bool false)], args := [d1, d2, d3, d4] }
  | _ => none }
def VoteCountWrongFalsely : Prop := voteCountRow.holds Tryz.pinned (OpenSpec.ofChange voteCountWrong)

/-- 'insolvencylaw30.VoteAccepts': WHATEVER THE INPUT: true; the input reads as it did. -/
def voteAcceptsSpec : ChangeSpec := { name := "voteAccepts", fn := fun _ => fun
  | [d1, d2, d3, d4] => { results := [.lit (.bool true)], args := [d1, d2, d3, d4] }
  | _ => none }
def voteAcceptsRow : OpenClaim := { program := "ytakoagjpmdcddaagreatdoor", sum := "d365ac5734c52efb2b8cf45dfa9215575254e42f697a74acda1efe6b5899340c", func := "insolvency/insolvencylaw30.VoteAccepts", spec := "voteAccepts", inPlace := ["internal/bytealg.IndexByteString", "internal/bytealg.IndexString", "internal/bytealg.abigen_runtime_cmpstring"], unfollowed := true, recurses := true, named := ["unicode/utf8.first", "unicode/utf8.acceptRanges", "internal/bytealg.MaxLen"], apart := false, laid := [("unicode/utf8.acceptRanges", laid_unicode_utf8_acceptRanges), ("unicode/utf8.first", laid_unicode_utf8_first)] }
def VoteAcceptsSaid : Prop := voteAcceptsRow.holds Tryz.pinned (OpenSpec.ofChange voteAcceptsSpec)

/-- ITS FALSE NEIGHBOUR: 'it returns false'. Refute it at one input. -/
def voteAcceptsWrong : ChangeSpec := { name := "voteAccepts", fn := fun _ => fun
  | [d1, d2, d3, d4] => { results := [.lit (.bool false)], args := [d1, d2, d3, d4] }
  | _ => none }
def VoteAcceptsWrongFalsely : Prop := voteAcceptsRow.holds Tryz.pinned (OpenSpec.ofChange voteAcceptsWrong)

/- THE SECOND FORM. 'bulk': how many values and letters a reading holds, each counted each time it is reached (what is shared counts as often as it is met; a slice's spare places count too). A statement '..UptoSaid' is the law's where the arguments, and the package variables that the reading takes, are together of bulk at most 1048576: NARROWER than '..Said'. Prove '..Said' where nothing that the law and all that it calls make is longer than what came in: it says more and counts as full. Else prove '..UptoSaid'. A law counts once. -/
mutual
def uptoBulk {H : Type} : DataW H → Nat
  | .lit (.string bytes) => bytes.length + 1
  | .lit _ => 1
  | .nil => 1
  | .ptr d => uptoBulk d + 1
  | .slice elems spare => uptoBulkAll elems + uptoBulkAll spare + 1
  | .agg parts => uptoBulkAll parts + 1
  | .iface _ d => uptoBulk d + 1
  | .map entries => uptoBulkEntries entries + 1
  | .held _ => 1
def uptoBulkAll {H : Type} : List (DataW H) → Nat
  | [] => 0
  | d :: r => uptoBulk d + uptoBulkAll r
def uptoBulkEntries {H : Type} : List (Lit × DataW H) → Nat
  | [] => 0
  | x :: r => uptoBulkEntry x + uptoBulkEntries r
def uptoBulkEntry {H : Type} : Lit × DataW H → Nat
  | (.string bytes, d) => bytes.length + uptoBulk d + 1
  | (_, d) => uptoBulk d + 1
 end
def uptoSmall : (H : Type) → List (DataW H) → Bool := fun _ ds => decide (uptoBulkAll ds ≤ 1048576)
def OpenSpec.upto (s : _root_.Go.ChangeSpec) : _root_.Go.OpenSpec := { _root_.Go.OpenSpec.ofChange s with cond := some uptoSmall }

/-- 'insolvencylaw6.InterestCompound', WHERE WHAT IT READS IS OF BULK AT MOST 1048576: true; the input reads as it did. -/
def interestCompoundUptoRow : OpenClaim := { program := "ytakoagjpmdcddaagreatdoor", sum := "d365ac5734c52efb2b8cf45dfa9215575254e42f697a74acda1efe6b5899340c", func := "insolvency/insolvencylaw6.InterestCompound", spec := "interestCompound", inPlace := ["internal/bytealg.IndexByteString", "internal/bytealg.IndexString"], named := ["unicode/utf8.first", "unicode/utf8.acceptRanges", "internal/bytealg.MaxLen"], apart := false, laid := [("unicode/utf8.acceptRanges", laid_unicode_utf8_acceptRanges), ("unicode/utf8.first", laid_unicode_utf8_first)], narrowed := true }
def InterestCompoundUptoSaid : Prop := interestCompoundUptoRow.holds Tryz.pinned (OpenSpec.upto interestCompoundSpec)

/-- 'insolvencylaw6.InterestPeriods', WHERE WHAT IT READS IS OF BULK AT MOST 1048576: true; the input reads as it did. -/
def interestPeriodsUptoRow : OpenClaim := { program := "ytakoagjpmdcddaagreatdoor", sum := "d365ac5734c52efb2b8cf45dfa9215575254e42f697a74acda1efe6b5899340c", func := "insolvency/insolvencylaw6.InterestPeriods", spec := "interestPeriods", inPlace := ["internal/bytealg.IndexByteString", "internal/bytealg.IndexString"], named := ["unicode/utf8.first", "unicode/utf8.acceptRanges", "internal/bytealg.MaxLen"], apart := false, laid := [("unicode/utf8.acceptRanges", laid_unicode_utf8_acceptRanges), ("unicode/utf8.first", laid_unicode_utf8_first)], narrowed := true }
def InterestPeriodsUptoSaid : Prop := interestPeriodsUptoRow.holds Tryz.pinned (OpenSpec.upto interestPeriodsSpec)

/-- 'insolvencylaw30.VoteThreshold', WHERE WHAT IT READS IS OF BULK AT MOST 1048576: true; the input reads as it did. -/
def voteThresholdUptoRow : OpenClaim := { program := "ytakoagjpmdcddaagreatdoor", sum := "d365ac5734c52efb2b8cf45dfa9215575254e42f697a74acda1efe6b5899340c", func := "insolvency/insolvencylaw30.VoteThreshold", spec := "voteThreshold", inPlace := ["internal/bytealg.IndexByteString", "internal/bytealg.IndexString", "internal/bytealg.abigen_runtime_cmpstring"], unfollowed := true, recurses := true, named := ["unicode/utf8.first", "unicode/utf8.acceptRanges", "internal/bytealg.MaxLen"], apart := false, laid := [("unicode/utf8.acceptRanges", laid_unicode_utf8_acceptRanges), ("unicode/utf8.first", laid_unicode_utf8_first)], narrowed := true }
def VoteThresholdUptoSaid : Prop := voteThresholdUptoRow.holds Tryz.pinned (OpenSpec.upto voteThresholdSpec)

/-- 'insolvencylaw30.VoteCount', WHERE WHAT IT READS IS OF BULK AT MOST 1048576: true; the input reads as it did. -/
def voteCountUptoRow : OpenClaim := { program := "ytakoagjpmdcddaagreatdoor", sum := "d365ac5734c52efb2b8cf45dfa9215575254e42f697a74acda1efe6b5899340c", func := "insolvency/insolvencylaw30.VoteCount", spec := "voteCount", inPlace := ["internal/bytealg.IndexByteString", "internal/bytealg.IndexString", "internal/bytealg.abigen_runtime_cmpstring"], unfollowed := true, recurses := true, named := ["unicode/utf8.first", "unicode/utf8.acceptRanges", "internal/bytealg.MaxLen"], apart := false, laid := [("unicode/utf8.acceptRanges", laid_unicode_utf8_acceptRanges), ("unicode/utf8.first", laid_unicode_utf8_first)], narrowed := true }
def VoteCountUptoSaid : Prop := voteCountUptoRow.holds Tryz.pinned (OpenSpec.upto voteCountSpec)

/-- 'insolvencylaw30.VoteAccepts', WHERE WHAT IT READS IS OF BULK AT MOST 1048576: true; the input reads as it did. -/
def voteAcceptsUptoRow : OpenClaim := { program := "ytakoagjpmdcddaagreatdoor", sum := "d365ac5734c52efb2b8cf45dfa9215575254e42f697a74acda1efe6b5899340c", func := "insolvency/insolvencylaw30.VoteAccepts", spec := "voteAccepts", inPlace := ["internal/bytealg.IndexByteString", "internal/bytealg.IndexString", "internal/bytealg.abigen_runtime_cmpstring"], unfollowed := true, recurses := true, named := ["unicode/utf8.first", "unicode/utf8.acceptRanges", "internal/bytealg.MaxLen"], apart := false, laid := [("unicode/utf8.acceptRanges", laid_unicode_utf8_acceptRanges), ("unicode/utf8.first", laid_unicode_utf8_first)], narrowed := true }
def VoteAcceptsUptoSaid : Prop := voteAcceptsUptoRow.holds Tryz.pinned (OpenSpec.upto voteAcceptsSpec)

end Rows
end Go.Proofs.YtakoagjpmdcddaaGreatDoor
