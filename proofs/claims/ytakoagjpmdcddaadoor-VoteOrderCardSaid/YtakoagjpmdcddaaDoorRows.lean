/-
  NARROWER THAN 'FOR EVERY INPUT', by the rows' own cells (each row's printed sentence says how): VoteCheck: laid · VoteLeast: laid · VoteOrder: laid · VoteMore: laid.
  DERIVED. THE GIVEN ROWS OF THIS SEAT. 4 by the template 'for every input the law returns true; each argument reads behind the call as it read before'; 0 by the template 'total and deterministic' (their statements: YtakoagjpmdcddaaDoorTotals.lean).
  GIVEN WITH THE SEED: the statements are not yours to turn. If you find one false, say at which input.
  Laid BY PROGRAM, IN A SANDBOX (cutbox-rows.mjs): the forced cells as the released guide's own fill.sh prints them over the translation c9cbd7730c6d7a2b… (all of the seat's roots in one cut). By AI agents, Wed Nov 11 2026. No macro, syntax, notation, axiom, sorry.
-/
import Derived.Test.YtakoagjpmdcddaaDoorChecked
import GoSem.PinnedTables
import GoSem.Claim
import GoSem.ClaimJoined
import GoSem.ClaimMapViews
import Derived.JoinedTies
import Derived.KernelRfl
namespace Go.Proofs.YtakoagjpmdcddaaDoor
/- THE CELL 'sum', in the pinned program and in every row, IS THE sha256 OF THE DUMP (.gsa) THAT YtakoagjpmdcddaaDoorProg.lean LOADS. Nothing in Lean hashes anything: it is a label: what it is worth is what the hold of that sum in a sandbox is worth. -/
noncomputable def Tryd.pinned : Pinned := { name := "ytakoagjpmdcddaadoor", sum := "c9cbd7730c6d7a2b1f96c77178fa420e37f0d78732752890c24f63061b1fc5a1", checked := Tryd.checked }
namespace Rows
def none {H : Type} : Left H := { results := [], args := [] }

/- WHAT THE LISTED PACKAGE-LEVEL VARIABLES READ AS WHEN THE CALL BEGINS. Each datum BY PROGRAM (the guide's laid-datum.mjs) off the statement by which the dump's own 'gosem.cut.vars' lays the variable. In a bare row this is a premise. The card (YtakoagjpmdcddaaDoorCards.lean) ties it to the program's text. -/
def laid_unicode_utf8_acceptRanges {H : Type} : DataW H := .agg [.agg [.lit (.int .u8 128), .lit (.int .u8 191)], .agg [.lit (.int .u8 160), .lit (.int .u8 191)], .agg [.lit (.int .u8 128), .lit (.int .u8 159)], .agg [.lit (.int .u8 144), .lit (.int .u8 191)], .agg [.lit (.int .u8 128), .lit (.int .u8 143)], .agg [.lit (.int .u8 0), .lit (.int .u8 0)], .agg [.lit (.int .u8 0), .lit (.int .u8 0)], .agg [.lit (.int .u8 0), .lit (.int .u8 0)], .agg [.lit (.int .u8 0), .lit (.int .u8 0)], .agg [.lit (.int .u8 0), .lit (.int .u8 0)], .agg [.lit (.int .u8 0), .lit (.int .u8 0)], .agg [.lit (.int .u8 0), .lit (.int .u8 0)], .agg [.lit (.int .u8 0), .lit (.int .u8 0)], .agg [.lit (.int .u8 0), .lit (.int .u8 0)], .agg [.lit (.int .u8 0), .lit (.int .u8 0)], .agg [.lit (.int .u8 0), .lit (.int .u8 0)]]
/-- One of Go's own tables, pinned by name: the form's constant. -/
def laid_unicode_utf8_first : DataW Unit := Go.Pinned.utf8First

/-- 'insolvencylaw30.VoteCheck': WHATEVER THE INPUT: true; the input reads as it did. -/
def voteCheckSpec : ChangeSpec := { name := "voteCheck", fn := fun _ => fun
  | [d1, d2, d3] => { results := [.lit (.bool true)], args := [d1, d2, d3] }
  | _ => none }
def voteCheckRow : OpenClaim := { program := "ytakoagjpmdcddaadoor", sum := "c9cbd7730c6d7a2b1f96c77178fa420e37f0d78732752890c24f63061b1fc5a1", func := "insolvency/insolvencylaw30.VoteCheck", spec := "voteCheck", inPlace := ["internal/bytealg.IndexByteString", "internal/bytealg.IndexString", "internal/bytealg.abigen_runtime_cmpstring"], unfollowed := true, recurses := true, named := ["unicode/utf8.first", "unicode/utf8.acceptRanges", "internal/bytealg.MaxLen"], apart := false, laid := [("unicode/utf8.acceptRanges", laid_unicode_utf8_acceptRanges), ("unicode/utf8.first", laid_unicode_utf8_first)] }
def VoteCheckSaid : Prop := voteCheckRow.holds Tryd.pinned (OpenSpec.ofChange voteCheckSpec)

/-- ITS FALSE NEIGHBOUR: 'it returns false'. Refute it at one input. -/
def voteCheckWrong : ChangeSpec := { name := "voteCheck", fn := fun _ => fun
  | [d1, d2, d3] => { results := [.lit (.bool false)], args := [d1, d2, d3] }
  | _ => none }
def VoteCheckWrongFalsely : Prop := voteCheckRow.holds Tryd.pinned (OpenSpec.ofChange voteCheckWrong)

/-- 'insolvencylaw30.VoteLeast': WHATEVER THE INPUT: true; the input reads as it did. -/
def voteLeastSpec : ChangeSpec := { name := "voteLeast", fn := fun _ => fun
  | [d1, d2] => { results := [.lit (.bool true)], args := [d1, d2] }
  | _ => none }
def voteLeastRow : OpenClaim := { program := "ytakoagjpmdcddaadoor", sum := "c9cbd7730c6d7a2b1f96c77178fa420e37f0d78732752890c24f63061b1fc5a1", func := "insolvency/insolvencylaw30.VoteLeast", spec := "voteLeast", inPlace := ["internal/bytealg.IndexByteString", "internal/bytealg.IndexString", "internal/bytealg.abigen_runtime_cmpstring"], unfollowed := true, recurses := true, named := ["unicode/utf8.first", "unicode/utf8.acceptRanges", "internal/bytealg.MaxLen"], apart := false, laid := [("unicode/utf8.acceptRanges", laid_unicode_utf8_acceptRanges), ("unicode/utf8.first", laid_unicode_utf8_first)] }
def VoteLeastSaid : Prop := voteLeastRow.holds Tryd.pinned (OpenSpec.ofChange voteLeastSpec)

/-- ITS FALSE NEIGHBOUR: 'it returns false'. Refute it at one input. -/
def voteLeastWrong : ChangeSpec := { name := "voteLeast", fn := fun _ => fun
  | [d1, d2] => { results := [.lit (.bool false)], args := [d1, d2] }
  | _ => none }
def VoteLeastWrongFalsely : Prop := voteLeastRow.holds Tryd.pinned (OpenSpec.ofChange voteLeastWrong)

/-- 'insolvencylaw30.VoteOrder': WHATEVER THE INPUT: true; the input reads as it did. -/
def voteOrderSpec : ChangeSpec := { name := "voteOrder", fn := fun _ => fun
  | [d1, d2, d3] => { results := [.lit (.bool true)], args := [d1, d2, d3] }
  | _ => none }
def voteOrderRow : OpenClaim := { program := "ytakoagjpmdcddaadoor", sum := "c9cbd7730c6d7a2b1f96c77178fa420e37f0d78732752890c24f63061b1fc5a1", func := "insolvency/insolvencylaw30.VoteOrder", spec := "voteOrder", inPlace := ["internal/bytealg.IndexByteString", "internal/bytealg.IndexString", "internal/bytealg.abigen_runtime_cmpstring"], unfollowed := true, recurses := true, named := ["unicode/utf8.first", "unicode/utf8.acceptRanges", "internal/bytealg.MaxLen"], apart := false, laid := [("unicode/utf8.acceptRanges", laid_unicode_utf8_acceptRanges), ("unicode/utf8.first", laid_unicode_utf8_first)] }
def VoteOrderSaid : Prop := voteOrderRow.holds Tryd.pinned (OpenSpec.ofChange voteOrderSpec)

/-- ITS FALSE NEIGHBOUR: 'it returns false'. Refute it at one input. -/
def voteOrderWrong : ChangeSpec := { name := "voteOrder", fn := fun _ => fun
  | [d1, d2, d3] => { results := [.lit (.bool false)], args := [d1, d2, d3] }
  | _ => none }
def VoteOrderWrongFalsely : Prop := voteOrderRow.holds Tryd.pinned (OpenSpec.ofChange voteOrderWrong)

/-- 'insolvencylaw30.VoteMore': WHATEVER THE INPUT: true; the input reads as it did. -/
def voteMoreSpec : ChangeSpec := { name := "voteMore", fn := fun _ => fun
  | [d1, d2, d3] => { results := [.lit (.bool true)], args := [d1, d2, d3] }
  | _ => none }
def voteMoreRow : OpenClaim := { program := "ytakoagjpmdcddaadoor", sum := "c9cbd7730c6d7a2b1f96c77178fa420e37f0d78732752890c24f63061b1fc5a1", func := "insolvency/insolvencylaw30.VoteMore", spec := "voteMore", inPlace := ["internal/bytealg.IndexByteString", "internal/bytealg.IndexString", "internal/bytealg.abigen_runtime_cmpstring"], unfollowed := true, recurses := true, named := ["unicode/utf8.first", "unicode/utf8.acceptRanges", "internal/bytealg.MaxLen"], apart := false, laid := [("unicode/utf8.acceptRanges", laid_unicode_utf8_acceptRanges), ("unicode/utf8.first", laid_unicode_utf8_first)] }
def VoteMoreSaid : Prop := voteMoreRow.holds Tryd.pinned (OpenSpec.ofChange voteMoreSpec)

/-- ITS FALSE NEIGHBOUR: 'it returns false'. Refute it at one input. -/
def voteMoreWrong : ChangeSpec := { name := "voteMore", fn := fun _ => fun
  | [d1, d2, d3] => { results := [.lit (.bool false)], args := [d1, d2, d3] }
  | _ => none }
def VoteMoreWrongFalsely : Prop := voteMoreRow.holds Tryd.pinned (OpenSpec.ofChange voteMoreWrong)

/- THE SECOND FORM. 'bulk': how many values and letters a reading holds, each counted each time it is reached (what is shared counts as often as it is met; a slice's spare places count too). A statement '..UptoSaid' is the law's where the arguments, and the package variables that the reading takes, are together of bulk at most 1048576: NARROWER than '..Said'. Prove '..Said' where nothing that the law and all that it calls make is longer than what came in: it says more and counts as full. Else prove '..UptoSaid'. A law counts once. -/
mutual
def uptoBulk {H : Type} : DataW H → Nat
  | .lit (.string bytes) => bytes.length + 1
  | .lit _ => 1
  | .nil => 1
  | .ptr d => uptoBulk d + 1
  | .slice elems spare => uptoBulkAll elems + uptoBulkAll spare + 1
  | .agg parts => uptoBulkAll parts + 1
  | .iface _ d => uptoBulk d + 1
  | .map entries => uptoBulkEntries entries + 1
  | .held _ => 1
def uptoBulkAll {H : Type} : List (DataW H) → Nat
  | [] => 0
  | d :: r => uptoBulk d + uptoBulkAll r
def uptoBulkEntries {H : Type} : List (Lit × DataW H) → Nat
  | [] => 0
  | x :: r => uptoBulkEntry x + uptoBulkEntries r
def uptoBulkEntry {H : Type} : Lit × DataW H → Nat
  | (.string bytes, d) => bytes.length + uptoBulk d + 1
  | (_, d) => uptoBulk d + 1
 end
def uptoSmall : (H : Type) → List (DataW H) → Bool := fun _ ds => decide (uptoBulkAll ds ≤ 1048576)
def OpenSpec.upto (s : _root_.Go.ChangeSpec) : _root_.Go.OpenSpec := { _root_.Go.OpenSpec.ofChange s with cond := some uptoSmall }

/-- 'insolvencylaw30.VoteCheck', WHERE WHAT IT READS IS OF BULK AT MOST 1048576: true; the input reads as it did. -/
def voteCheckUptoRow : OpenClaim := { program := "ytakoagjpmdcddaadoor", sum := "c9cbd7730c6d7a2b1f96c77178fa420e37f0d78732752890c24f63061b1fc5a1", func := "insolvency/insolvencylaw30.VoteCheck", spec := "voteCheck", inPlace := ["internal/bytealg.IndexByteString", "internal/bytealg.IndexString", "internal/bytealg.abigen_runtime_cmpstring"], unfollowed := true, recurses := true, named := ["unicode/utf8.first", "unicode/utf8.acceptRanges", "internal/bytealg.MaxLen"], apart := false, laid := [("unicode/utf8.acceptRanges", laid_unicode_utf8_acceptRanges), ("unicode/utf8.first", laid_unicode_utf8_first)], narrowed := true }
def VoteCheckUptoSaid : Prop := voteCheckUptoRow.holds Tryd.pinned (OpenSpec.upto voteCheckSpec)

/-- 'insolvencylaw30.VoteLeast', WHERE WHAT IT READS IS OF BULK AT MOST 1048576: true; the input reads as it did. -/
def voteLeastUptoRow : OpenClaim := { program := "ytakoagjpmdcddaadoor", sum := "c9cbd7730c6d7a2b1f96c77178fa420e37f0d78732752890c24f63061b1fc5a1", func := "insolvency/insolvencylaw30.VoteLeast", spec := "voteLeast", inPlace := ["internal/bytealg.IndexByteString", "internal/bytealg.IndexString", "internal/bytealg.abigen_runtime_cmpstring"], unfollowed := true, recurses := true, named := ["unicode/utf8.first", "unicode/utf8.acceptRanges", "internal/bytealg.MaxLen"], apart := false, laid := [("unicode/utf8.acceptRanges", laid_unicode_utf8_acceptRanges), ("unicode/utf8.first", laid_unicode_utf8_first)], narrowed := true }
def VoteLeastUptoSaid : Prop := voteLeastUptoRow.holds Tryd.pinned (OpenSpec.upto voteLeastSpec)

/-- 'insolvencylaw30.VoteOrder', WHERE WHAT IT READS IS OF BULK AT MOST 1048576: true; the input reads as it did. -/
def voteOrderUptoRow : OpenClaim := { program := "ytakoagjpmdcddaadoor", sum := "c9cbd7730c6d7a2b1f96c77178fa420e37f0d78732752890c24f63061b1fc5a1", func := "insolvency/insolvencylaw30.VoteOrder", spec := "voteOrder", inPlace := ["internal/bytealg.IndexByteString", "internal/bytealg.IndexString", "internal/bytealg.abigen_runtime_cmpstring"], unfollowed := true, recurses := true, named := ["unicode/utf8.first", "unicode/utf8.acceptRanges", "internal/bytealg.MaxLen"], apart := false, laid := [("unicode/utf8.acceptRanges", laid_unicode_utf8_acceptRanges), ("unicode/utf8.first", laid_unicode_utf8_first)], narrowed := true }
def VoteOrderUptoSaid : Prop := voteOrderUptoRow.holds Tryd.pinned (OpenSpec.upto voteOrderSpec)

/-- 'insolvencylaw30.VoteMore', WHERE WHAT IT READS IS OF BULK AT MOST 1048576: true; the input reads as it did. -/
def voteMoreUptoRow : OpenClaim := { program := "ytakoagjpmdcddaadoor", sum := "c9cbd7730c6d7a2b1f96c77178fa420e37f0d78732752890c24f63061b1fc5a1", func := "insolvency/insolvencylaw30.VoteMore", spec := "voteMore", inPlace := ["internal/bytealg.IndexByteString", "internal/bytealg.IndexString", "internal/bytealg.abigen_runtime_cmpstring"], unfollowed := true, recurses := true, named := ["unicode/utf8.first", "unicode/utf8.acceptRanges", "internal/bytealg.MaxLen"], apart := false, laid := [("unicode/utf8.acceptRanges", laid_unicode_utf8_acceptRanges), ("unicode/utf8.first", laid_unicode_utf8_first)], narrowed := true }
def VoteMoreUptoSaid : Prop := voteMoreUptoRow.holds Tryd.pinned (OpenSpec.upto voteMoreSpec)

end Rows
end Go.Proofs.YtakoagjpmdcddaaDoor
