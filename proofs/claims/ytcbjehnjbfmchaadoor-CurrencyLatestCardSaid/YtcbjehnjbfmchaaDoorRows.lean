/-
  NARROWER THAN 'FOR EVERY INPUT', by the rows' own cells (each row's printed sentence says how): CurrencyCheck: laid · CurrencyMany: laid · CurrencyRate: laid · CurrencyLatest: laid · CurrencyConvert: laid · CurrencyQuoted: laid · CurrencyBack: laid · InterestCheck: laid · InterestSimple: laid · InterestAdditive: laid · InterestChain: laid · InterestRate: laid · InterestSums: laid · InterestAtLeast: laid.
  DERIVED. THE GIVEN ROWS OF THIS SEAT. 14 by the template 'for every input the law returns true; each argument reads behind the call as it read before'; 0 by the template 'total and deterministic' (their statements: YtcbjehnjbfmchaaDoorTotals.lean).
  GIVEN WITH THE SEED: the statements are not yours to turn. If you find one false, say at which input.
  Laid BY PROGRAM, IN A SANDBOX (cutbox-rows.mjs): the forced cells as the released guide's own fill.sh prints them over the translation 8cf2b5f2d1f8c5db… (all of the seat's roots in one cut). By AI agents, Wed Nov 11 2026. No macro, syntax, notation, axiom, sorry.
-/
import Derived.Test.YtcbjehnjbfmchaaDoorChecked
import GoSem.PinnedTables
import GoSem.Claim
import GoSem.ClaimJoined
import GoSem.ClaimMapViews
import Derived.JoinedTies
import Derived.KernelRfl
namespace Go.Proofs.YtcbjehnjbfmchaaDoor
/- THE CELL 'sum', in the pinned program and in every row, IS THE sha256 OF THE DUMP (.gsa) THAT YtcbjehnjbfmchaaDoorProg.lean LOADS. Nothing in Lean hashes anything: it is a label: what it is worth is what the hold of that sum in a sandbox is worth. -/
noncomputable def Tryd.pinned : Pinned := { name := "ytcbjehnjbfmchaadoor", sum := "8cf2b5f2d1f8c5db5e4518a4c16047e54454ccea15d6e028f06c0a43565135fa", checked := Tryd.checked }
namespace Rows
def none {H : Type} : Left H := { results := [], args := [] }

/- WHAT THE LISTED PACKAGE-LEVEL VARIABLES READ AS WHEN THE CALL BEGINS. Each datum BY PROGRAM (the guide's laid-datum.mjs) off the statement by which the dump's own 'gosem.cut.vars' lays the variable. In a bare row this is a premise. The card (YtcbjehnjbfmchaaDoorCards.lean) ties it to the program's text. -/
def laid_unicode_utf8_acceptRanges {H : Type} : DataW H := .agg [.agg [.lit (.int .u8 128), .lit (.int .u8 191)], .agg [.lit (.int .u8 160), .lit (.int .u8 191)], .agg [.lit (.int .u8 128), .lit (.int .u8 159)], .agg [.lit (.int .u8 144), .lit (.int .u8 191)], .agg [.lit (.int .u8 128), .lit (.int .u8 143)], .agg [.lit (.int .u8 0), .lit (.int .u8 0)], .agg [.lit (.int .u8 0), .lit (.int .u8 0)], .agg [.lit (.int .u8 0), .lit (.int .u8 0)], .agg [.lit (.int .u8 0), .lit (.int .u8 0)], .agg [.lit (.int .u8 0), .lit (.int .u8 0)], .agg [.lit (.int .u8 0), .lit (.int .u8 0)], .agg [.lit (.int .u8 0), .lit (.int .u8 0)], .agg [.lit (.int .u8 0), .lit (.int .u8 0)], .agg [.lit (.int .u8 0), .lit (.int .u8 0)], .agg [.lit (.int .u8 0), .lit (.int .u8 0)], .agg [.lit (.int .u8 0), .lit (.int .u8 0)]]
/-- One of Go's own tables, pinned by name: the form's constant. -/
def laid_unicode_utf8_first : DataW Unit := Go.Pinned.utf8First

/-- 'insolvencylaw7.CurrencyCheck': WHATEVER THE INPUT: true; the input reads as it did. -/
def currencyCheckSpec : ChangeSpec := { name := "currencyCheck", fn := fun _ => fun
  | [d] => { results := [.lit (.bool true)], args := [d] }
  | _ => none }
def currencyCheckRow : OpenClaim := { program := "ytcbjehnjbfmchaadoor", sum := "8cf2b5f2d1f8c5db5e4518a4c16047e54454ccea15d6e028f06c0a43565135fa", func := "insolvency/insolvencylaw7.CurrencyCheck", spec := "currencyCheck", inPlace := ["internal/bytealg.IndexByteString", "internal/bytealg.IndexString"], named := ["unicode/utf8.first", "unicode/utf8.acceptRanges", "internal/bytealg.MaxLen"], plainKeys := false, apart := false, laid := [("unicode/utf8.acceptRanges", laid_unicode_utf8_acceptRanges), ("unicode/utf8.first", laid_unicode_utf8_first)] }
def CurrencyCheckSaid : Prop := currencyCheckRow.holds Tryd.pinned (OpenSpec.ofChange currencyCheckSpec)

/-- ITS FALSE NEIGHBOUR: 'it returns false'. Refute it at one input. -/
def currencyCheckWrong : ChangeSpec := { name := "currencyCheck", fn := fun _ => fun
  | [d] => { results := [.lit (.bool false)], args := [d] }
  | _ => none }
def CurrencyCheckWrongFalsely : Prop := currencyCheckRow.holds Tryd.pinned (OpenSpec.ofChange currencyCheckWrong)

/-- 'insolvencylaw7.CurrencyMany': WHATEVER THE INPUT: true; the input reads as it did. -/
def currencyManySpec : ChangeSpec := { name := "currencyMany", fn := fun _ => fun
  | [d] => { results := [.lit (.bool true)], args := [d] }
  | _ => none }
def currencyManyRow : OpenClaim := { program := "ytcbjehnjbfmchaadoor", sum := "8cf2b5f2d1f8c5db5e4518a4c16047e54454ccea15d6e028f06c0a43565135fa", func := "insolvency/insolvencylaw7.CurrencyMany", spec := "currencyMany", inPlace := ["internal/bytealg.IndexByteString", "internal/bytealg.IndexString"], named := ["unicode/utf8.first", "unicode/utf8.acceptRanges", "internal/bytealg.MaxLen"], plainKeys := false, apart := false, laid := [("unicode/utf8.acceptRanges", laid_unicode_utf8_acceptRanges), ("unicode/utf8.first", laid_unicode_utf8_first)] }
def CurrencyManySaid : Prop := currencyManyRow.holds Tryd.pinned (OpenSpec.ofChange currencyManySpec)

/-- ITS FALSE NEIGHBOUR: 'it returns false'. Refute it at one input. -/
def currencyManyWrong : ChangeSpec := { name := "currencyMany", fn := fun _ => fun
  | [d] => { results := [.lit (.bool false)], args := [d] }
  | _ => none }
def CurrencyManyWrongFalsely : Prop := currencyManyRow.holds Tryd.pinned (OpenSpec.ofChange currencyManyWrong)

/-- 'insolvencylaw7.CurrencyRate': WHATEVER THE INPUT: true; the input reads as it did. -/
def currencyRateSpec : ChangeSpec := { name := "currencyRate", fn := fun _ => fun
  | [d1, d2, d3] => { results := [.lit (.bool true)], args := [d1, d2, d3] }
  | _ => none }
def currencyRateRow : OpenClaim := { program := "ytcbjehnjbfmchaadoor", sum := "8cf2b5f2d1f8c5db5e4518a4c16047e54454ccea15d6e028f06c0a43565135fa", func := "insolvency/insolvencylaw7.CurrencyRate", spec := "currencyRate", inPlace := ["internal/bytealg.IndexByteString", "internal/bytealg.IndexString"], named := ["unicode/utf8.first", "unicode/utf8.acceptRanges", "internal/bytealg.MaxLen"], plainKeys := false, apart := false, laid := [("unicode/utf8.acceptRanges", laid_unicode_utf8_acceptRanges), ("unicode/utf8.first", laid_unicode_utf8_first)] }
def CurrencyRateSaid : Prop := currencyRateRow.holds Tryd.pinned (OpenSpec.ofChange currencyRateSpec)

/-- ITS FALSE NEIGHBOUR: 'it returns false'. Refute it at one input. -/
def currencyRateWrong : ChangeSpec := { name := "currencyRate", fn := fun _ => fun
  | [d1, d2, d3] => { results := [.lit (.bool false)], args := [d1, d2, d3] }
  | _ => none }
def CurrencyRateWrongFalsely : Prop := currencyRateRow.holds Tryd.pinned (OpenSpec.ofChange currencyRateWrong)

/-- 'insolvencylaw7.CurrencyLatest': WHATEVER THE INPUT: true; the input reads as it did. -/
def currencyLatestSpec : ChangeSpec := { name := "currencyLatest", fn := fun _ => fun
  | [d1, d2, d3] => { results := [.lit (.bool true)], args := [d1, d2, d3] }
  | _ => none }
def currencyLatestRow : OpenClaim := { program := "ytcbjehnjbfmchaadoor", sum := "8cf2b5f2d1f8c5db5e4518a4c16047e54454ccea15d6e028f06c0a43565135fa", func := "insolvency/insolvencylaw7.CurrencyLatest", spec := "currencyLatest", inPlace := ["internal/bytealg.IndexByteString", "internal/bytealg.IndexString"], named := ["unicode/utf8.first", "unicode/utf8.acceptRanges", "internal/bytealg.MaxLen"], plainKeys := false, apart := false, laid := [("unicode/utf8.acceptRanges", laid_unicode_utf8_acceptRanges), ("unicode/utf8.first", laid_unicode_utf8_first)] }
def CurrencyLatestSaid : Prop := currencyLatestRow.holds Tryd.pinned (OpenSpec.ofChange currencyLatestSpec)

/-- ITS FALSE NEIGHBOUR: 'it returns false'. Refute it at one input. -/
def currencyLatestWrong : ChangeSpec := { name := "currencyLatest", fn := fun _ => fun
  | [d1, d2, d3] => { results := [.lit (.bool false)], args := [d1, d2, d3] }
  | _ => none }
def CurrencyLatestWrongFalsely : Prop := currencyLatestRow.holds Tryd.pinned (OpenSpec.ofChange currencyLatestWrong)

/-- 'insolvencylaw7.CurrencyConvert': WHATEVER THE INPUT: true; the input reads as it did. -/
def currencyConvertSpec : ChangeSpec := { name := "currencyConvert", fn := fun _ => fun
  | [d1, d2, d3, d4, d5] => { results := [.lit (.bool true)], args := [d1, d2, d3, d4, d5] }
  | _ => none }
def currencyConvertRow : OpenClaim := { program := "ytcbjehnjbfmchaadoor", sum := "8cf2b5f2d1f8c5db5e4518a4c16047e54454ccea15d6e028f06c0a43565135fa", func := "insolvency/insolvencylaw7.CurrencyConvert", spec := "currencyConvert", inPlace := ["internal/bytealg.IndexByteString", "internal/bytealg.IndexString"], named := ["unicode/utf8.first", "unicode/utf8.acceptRanges", "internal/bytealg.MaxLen"], plainKeys := false, apart := false, laid := [("unicode/utf8.acceptRanges", laid_unicode_utf8_acceptRanges), ("unicode/utf8.first", laid_unicode_utf8_first)] }
def CurrencyConvertSaid : Prop := currencyConvertRow.holds Tryd.pinned (OpenSpec.ofChange currencyConvertSpec)

/-- ITS FALSE NEIGHBOUR: 'it returns false'. Refute it at one input. -/
def currencyConvertWrong : ChangeSpec := { name := "currencyConvert", fn := fun _ => fun
  | [d1, d2, d3, d4, d5] => { results := [.lit (.bool false)], args := [d1, d2, d3, d4, d5] }
  | _ => none }
def CurrencyConvertWrongFalsely : Prop := currencyConvertRow.holds Tryd.pinned (OpenSpec.ofChange currencyConvertWrong)

/-- 'insolvencylaw7.CurrencyQuoted': WHATEVER THE INPUT: true; the input reads as it did. -/
def currencyQuotedSpec : ChangeSpec := { name := "currencyQuoted", fn := fun _ => fun
  | [d1, d2, d3, d4, d5] => { results := [.lit (.bool true)], args := [d1, d2, d3, d4, d5] }
  | _ => none }
def currencyQuotedRow : OpenClaim := { program := "ytcbjehnjbfmchaadoor", sum := "8cf2b5f2d1f8c5db5e4518a4c16047e54454ccea15d6e028f06c0a43565135fa", func := "insolvency/insolvencylaw7.CurrencyQuoted", spec := "currencyQuoted", inPlace := ["internal/bytealg.IndexByteString", "internal/bytealg.IndexString"], named := ["unicode/utf8.first", "unicode/utf8.acceptRanges", "internal/bytealg.MaxLen"], plainKeys := false, apart := false, laid := [("unicode/utf8.acceptRanges", laid_unicode_utf8_acceptRanges), ("unicode/utf8.first", laid_unicode_utf8_first)] }
def CurrencyQuotedSaid : Prop := currencyQuotedRow.holds Tryd.pinned (OpenSpec.ofChange currencyQuotedSpec)

/-- ITS FALSE NEIGHBOUR: 'it returns false'. Refute it at one input. -/
def currencyQuotedWrong : ChangeSpec := { name := "currencyQuoted", fn := fun _ => fun
  | [d1, d2, d3, d4, d5] => { results := [.lit (.bool false)], args := [d1, d2, d3, d4, d5] }
  | _ => none }
def CurrencyQuotedWrongFalsely : Prop := currencyQuotedRow.holds Tryd.pinned (OpenSpec.ofChange currencyQuotedWrong)

/-- 'insolvencylaw7.CurrencyBack': WHATEVER THE INPUT: true; the input reads as it did. -/
def currencyBackSpec : ChangeSpec := { name := "currencyBack", fn := fun _ => fun
  | [d1, d2, d3, d4, d5, d6] => { results := [.lit (.bool true)], args := [d1, d2, d3, d4, d5, d6] }
  | _ => none }
def currencyBackRow : OpenClaim := { program := "ytcbjehnjbfmchaadoor", sum := "8cf2b5f2d1f8c5db5e4518a4c16047e54454ccea15d6e028f06c0a43565135fa", func := "insolvency/insolvencylaw7.CurrencyBack", spec := "currencyBack", inPlace := ["internal/bytealg.IndexByteString", "internal/bytealg.IndexString"], named := ["unicode/utf8.first", "unicode/utf8.acceptRanges", "internal/bytealg.MaxLen"], plainKeys := false, apart := false, laid := [("unicode/utf8.acceptRanges", laid_unicode_utf8_acceptRanges), ("unicode/utf8.first", laid_unicode_utf8_first)] }
def CurrencyBackSaid : Prop := currencyBackRow.holds Tryd.pinned (OpenSpec.ofChange currencyBackSpec)

/-- ITS FALSE NEIGHBOUR: 'it returns false'. Refute it at one input. -/
def currencyBackWrong : ChangeSpec := { name := "currencyBack", fn := fun _ => fun
  | [d1, d2, d3, d4, d5, d6] => { results := [.lit (.bool false)], args := [d1, d2, d3, d4, d5, d6] }
  | _ => none }
def CurrencyBackWrongFalsely : Prop := currencyBackRow.holds Tryd.pinned (OpenSpec.ofChange currencyBackWrong)

/-- 'insolvencylaw6.InterestCheck': WHATEVER THE INPUT: true; the input reads as it did. -/
def interestCheckSpec : ChangeSpec := { name := "interestCheck", fn := fun _ => fun
  | [d] => { results := [.lit (.bool true)], args := [d] }
  | _ => none }
def interestCheckRow : OpenClaim := { program := "ytcbjehnjbfmchaadoor", sum := "8cf2b5f2d1f8c5db5e4518a4c16047e54454ccea15d6e028f06c0a43565135fa", func := "insolvency/insolvencylaw6.InterestCheck", spec := "interestCheck", inPlace := ["internal/bytealg.IndexByteString", "internal/bytealg.IndexString"], named := ["unicode/utf8.first", "unicode/utf8.acceptRanges", "internal/bytealg.MaxLen"], plainKeys := false, apart := false, laid := [("unicode/utf8.acceptRanges", laid_unicode_utf8_acceptRanges), ("unicode/utf8.first", laid_unicode_utf8_first)] }
def InterestCheckSaid : Prop := interestCheckRow.holds Tryd.pinned (OpenSpec.ofChange interestCheckSpec)

/-- ITS FALSE NEIGHBOUR: 'it returns false'. Refute it at one input. -/
def interestCheckWrong : ChangeSpec := { name := "interestCheck", fn := fun _ => fun
  | [d] => { results := [.lit (.bool false)], args := [d] }
  | _ => none }
def InterestCheckWrongFalsely : Prop := interestCheckRow.holds Tryd.pinned (OpenSpec.ofChange interestCheckWrong)

/-- 'insolvencylaw6.InterestSimple': WHATEVER THE INPUT: true; the input reads as it did. -/
def interestSimpleSpec : ChangeSpec := { name := "interestSimple", fn := fun _ => fun
  | [d1, d2, d3, d4, d5] => { results := [.lit (.bool true)], args := [d1, d2, d3, d4, d5] }
  | _ => none }
def interestSimpleRow : OpenClaim := { program := "ytcbjehnjbfmchaadoor", sum := "8cf2b5f2d1f8c5db5e4518a4c16047e54454ccea15d6e028f06c0a43565135fa", func := "insolvency/insolvencylaw6.InterestSimple", spec := "interestSimple", inPlace := ["internal/bytealg.IndexByteString", "internal/bytealg.IndexString"], named := ["unicode/utf8.first", "unicode/utf8.acceptRanges", "internal/bytealg.MaxLen"], plainKeys := false, apart := false, laid := [("unicode/utf8.acceptRanges", laid_unicode_utf8_acceptRanges), ("unicode/utf8.first", laid_unicode_utf8_first)] }
def InterestSimpleSaid : Prop := interestSimpleRow.holds Tryd.pinned (OpenSpec.ofChange interestSimpleSpec)

/-- ITS FALSE NEIGHBOUR: 'it returns false'. Refute it at one input. -/
def interestSimpleWrong : ChangeSpec := { name := "interestSimple", fn := fun _ => fun
  | [d1, d2, d3, d4, d5] => { results := [.lit (.bool false)], args := [d1, d2, d3, d4, d5] }
  | _ => none }
def InterestSimpleWrongFalsely : Prop := interestSimpleRow.holds Tryd.pinned (OpenSpec.ofChange interestSimpleWrong)

/-- 'insolvencylaw6.InterestAdditive': WHATEVER THE INPUT: true; the input reads as it did. -/
def interestAdditiveSpec : ChangeSpec := { name := "interestAdditive", fn := fun _ => fun
  | [d1, d2, d3, d4, d5, d6] => { results := [.lit (.bool true)], args := [d1, d2, d3, d4, d5, d6] }
  | _ => none }
def interestAdditiveRow : OpenClaim := { program := "ytcbjehnjbfmchaadoor", sum := "8cf2b5f2d1f8c5db5e4518a4c16047e54454ccea15d6e028f06c0a43565135fa", func := "insolvency/insolvencylaw6.InterestAdditive", spec := "interestAdditive", inPlace := ["internal/bytealg.IndexByteString", "internal/bytealg.IndexString"], named := ["unicode/utf8.first", "unicode/utf8.acceptRanges", "internal/bytealg.MaxLen"], plainKeys := false, apart := false, laid := [("unicode/utf8.acceptRanges", laid_unicode_utf8_acceptRanges), ("unicode/utf8.first", laid_unicode_utf8_first)] }
def InterestAdditiveSaid : Prop := interestAdditiveRow.holds Tryd.pinned (OpenSpec.ofChange interestAdditiveSpec)

/-- ITS FALSE NEIGHBOUR: 'it returns false'. Refute it at one input. -/
def interestAdditiveWrong : ChangeSpec := { name := "interestAdditive", fn := fun _ => fun
  | [d1, d2, d3, d4, d5, d6] => { results := [.lit (.bool false)], args := [d1, d2, d3, d4, d5, d6] }
  | _ => none }
def InterestAdditiveWrongFalsely : Prop := interestAdditiveRow.holds Tryd.pinned (OpenSpec.ofChange interestAdditiveWrong)

/-- 'insolvencylaw6.InterestChain': WHATEVER THE INPUT: true; the input reads as it did. -/
def interestChainSpec : ChangeSpec := { name := "interestChain", fn := fun _ => fun
  | [d1, d2, d3, d4, d5, d6] => { results := [.lit (.bool true)], args := [d1, d2, d3, d4, d5, d6] }
  | _ => none }
def interestChainRow : OpenClaim := { program := "ytcbjehnjbfmchaadoor", sum := "8cf2b5f2d1f8c5db5e4518a4c16047e54454ccea15d6e028f06c0a43565135fa", func := "insolvency/insolvencylaw6.InterestChain", spec := "interestChain", inPlace := ["internal/bytealg.IndexByteString", "internal/bytealg.IndexString"], named := ["unicode/utf8.first", "unicode/utf8.acceptRanges", "internal/bytealg.MaxLen"], plainKeys := false, apart := false, laid := [("unicode/utf8.acceptRanges", laid_unicode_utf8_acceptRanges), ("unicode/utf8.first", laid_unicode_utf8_first)] }
def InterestChainSaid : Prop := interestChainRow.holds Tryd.pinned (OpenSpec.ofChange interestChainSpec)

/-- ITS FALSE NEIGHBOUR: 'it returns false'. Refute it at one input. -/
def interestChainWrong : ChangeSpec := { name := "interestChain", fn := fun _ => fun
  | [d1, d2, d3, d4, d5, d6] => { results := [.lit (.bool false)], args := [d1, d2, d3, d4, d5, d6] }
  | _ => none }
def InterestChainWrongFalsely : Prop := interestChainRow.holds Tryd.pinned (OpenSpec.ofChange interestChainWrong)

/-- 'insolvencylaw6.InterestRate': WHATEVER THE INPUT: true; the input reads as it did. -/
def interestRateSpec : ChangeSpec := { name := "interestRate", fn := fun _ => fun
  | [d1, d2] => { results := [.lit (.bool true)], args := [d1, d2] }
  | _ => none }
def interestRateRow : OpenClaim := { program := "ytcbjehnjbfmchaadoor", sum := "8cf2b5f2d1f8c5db5e4518a4c16047e54454ccea15d6e028f06c0a43565135fa", func := "insolvency/insolvencylaw6.InterestRate", spec := "interestRate", inPlace := ["internal/bytealg.IndexByteString", "internal/bytealg.IndexString"], named := ["unicode/utf8.first", "unicode/utf8.acceptRanges", "internal/bytealg.MaxLen"], plainKeys := false, apart := false, laid := [("unicode/utf8.acceptRanges", laid_unicode_utf8_acceptRanges), ("unicode/utf8.first", laid_unicode_utf8_first)] }
def InterestRateSaid : Prop := interestRateRow.holds Tryd.pinned (OpenSpec.ofChange interestRateSpec)

/-- ITS FALSE NEIGHBOUR: 'it returns false'. Refute it at one input. -/
def interestRateWrong : ChangeSpec := { name := "interestRate", fn := fun _ => fun
  | [d1, d2] => { results := [.lit (.bool false)], args := [d1, d2] }
  | _ => none }
def InterestRateWrongFalsely : Prop := interestRateRow.holds Tryd.pinned (OpenSpec.ofChange interestRateWrong)

/-- 'insolvencylaw6.InterestSums': WHATEVER THE INPUT: true; the input reads as it did. -/
def interestSumsSpec : ChangeSpec := { name := "interestSums", fn := fun _ => fun
  | [d1, d2, d3, d4] => { results := [.lit (.bool true)], args := [d1, d2, d3, d4] }
  | _ => none }
def interestSumsRow : OpenClaim := { program := "ytcbjehnjbfmchaadoor", sum := "8cf2b5f2d1f8c5db5e4518a4c16047e54454ccea15d6e028f06c0a43565135fa", func := "insolvency/insolvencylaw6.InterestSums", spec := "interestSums", inPlace := ["internal/bytealg.IndexByteString", "internal/bytealg.IndexString"], named := ["unicode/utf8.first", "unicode/utf8.acceptRanges", "internal/bytealg.MaxLen"], plainKeys := false, apart := false, laid := [("unicode/utf8.acceptRanges", laid_unicode_utf8_acceptRanges), ("unicode/utf8.first", laid_unicode_utf8_first)] }
def InterestSumsSaid : Prop := interestSumsRow.holds Tryd.pinned (OpenSpec.ofChange interestSumsSpec)

/-- ITS FALSE NEIGHBOUR: 'it returns false'. Refute it at one input. -/
def interestSumsWrong : ChangeSpec := { name := "interestSums", fn := fun _ => fun
  | [d1, d2, d3, d4] => { results := [.lit (.bool false)], args := [d1, d2, d3, d4] }
  | _ => none }
def InterestSumsWrongFalsely : Prop := interestSumsRow.holds Tryd.pinned (OpenSpec.ofChange interestSumsWrong)

/-- 'insolvencylaw6.InterestAtLeast': WHATEVER THE INPUT: true; the input reads as it did. -/
def interestAtLeastSpec : ChangeSpec := { name := "interestAtLeast", fn := fun _ => fun
  | [d1, d2, d3, d4, d5] => { results := [.lit (.bool true)], args := [d1, d2, d3, d4, d5] }
  | _ => none }
def interestAtLeastRow : OpenClaim := { program := "ytcbjehnjbfmchaadoor", sum := "8cf2b5f2d1f8c5db5e4518a4c16047e54454ccea15d6e028f06c0a43565135fa", func := "insolvency/insolvencylaw6.InterestAtLeast", spec := "interestAtLeast", inPlace := ["internal/bytealg.IndexByteString", "internal/bytealg.IndexString", "internal/bytealg.abigen_runtime_cmpstring"], named := ["unicode/utf8.first", "unicode/utf8.acceptRanges", "internal/bytealg.MaxLen"], plainKeys := false, apart := false, laid := [("unicode/utf8.acceptRanges", laid_unicode_utf8_acceptRanges), ("unicode/utf8.first", laid_unicode_utf8_first)] }
def InterestAtLeastSaid : Prop := interestAtLeastRow.holds Tryd.pinned (OpenSpec.ofChange interestAtLeastSpec)

/-- ITS FALSE NEIGHBOUR: 'it returns false'. Refute it at one input. -/
def interestAtLeastWrong : ChangeSpec := { name := "interestAtLeast", fn := fun _ => fun
  | [d1, d2, d3, d4, d5] => { results := [.lit (.bool false)], args := [d1, d2, d3, d4, d5] }
  | _ => none }
def InterestAtLeastWrongFalsely : Prop := interestAtLeastRow.holds Tryd.pinned (OpenSpec.ofChange interestAtLeastWrong)

/- THE SECOND FORM. 'bulk': how many values and letters a reading holds, each counted each time it is reached (what is shared counts as often as it is met; a slice's spare places count too). A statement '..UptoSaid' is the law's where the arguments, and the package variables that the reading takes, are together of bulk at most 1048576: NARROWER than '..Said'. Prove '..Said' where nothing that the law and all that it calls make is longer than what came in: it says more and counts as full. Else prove '..UptoSaid'. A law counts once. -/
mutual
def uptoBulk {H : Type} : DataW H → Nat
  | .lit (.string bytes) => bytes.length + 1
  | .lit _ => 1
  | .nil => 1
  | .ptr d => uptoBulk d + 1
  | .slice elems spare => uptoBulkAll elems + uptoBulkAll spare + 1
  | .agg parts => uptoBulkAll parts + 1
  | .iface _ d => uptoBulk d + 1
  | .map entries => uptoBulkEntries entries + 1
  | .held _ => 1
def uptoBulkAll {H : Type} : List (DataW H) → Nat
  | [] => 0
  | d :: r => uptoBulk d + uptoBulkAll r
def uptoBulkEntries {H : Type} : List (Lit × DataW H) → Nat
  | [] => 0
  | x :: r => uptoBulkEntry x + uptoBulkEntries r
def uptoBulkEntry {H : Type} : Lit × DataW H → Nat
  | (.string bytes, d) => bytes.length + uptoBulk d + 1
  | (_, d) => uptoBulk d + 1
 end
def uptoSmall : (H : Type) → List (DataW H) → Bool := fun _ ds => decide (uptoBulkAll ds ≤ 1048576)
def OpenSpec.upto (s : _root_.Go.ChangeSpec) : _root_.Go.OpenSpec := { _root_.Go.OpenSpec.ofChange s with cond := some uptoSmall }

/-- 'insolvencylaw7.CurrencyCheck', WHERE WHAT IT READS IS OF BULK AT MOST 1048576: true; the input reads as it did. -/
def currencyCheckUptoRow : OpenClaim := { program := "ytcbjehnjbfmchaadoor", sum := "8cf2b5f2d1f8c5db5e4518a4c16047e54454ccea15d6e028f06c0a43565135fa", func := "insolvency/insolvencylaw7.CurrencyCheck", spec := "currencyCheck", inPlace := ["internal/bytealg.IndexByteString", "internal/bytealg.IndexString"], named := ["unicode/utf8.first", "unicode/utf8.acceptRanges", "internal/bytealg.MaxLen"], plainKeys := false, apart := false, laid := [("unicode/utf8.acceptRanges", laid_unicode_utf8_acceptRanges), ("unicode/utf8.first", laid_unicode_utf8_first)], narrowed := true }
def CurrencyCheckUptoSaid : Prop := currencyCheckUptoRow.holds Tryd.pinned (OpenSpec.upto currencyCheckSpec)

/-- 'insolvencylaw7.CurrencyMany', WHERE WHAT IT READS IS OF BULK AT MOST 1048576: true; the input reads as it did. -/
def currencyManyUptoRow : OpenClaim := { program := "ytcbjehnjbfmchaadoor", sum := "8cf2b5f2d1f8c5db5e4518a4c16047e54454ccea15d6e028f06c0a43565135fa", func := "insolvency/insolvencylaw7.CurrencyMany", spec := "currencyMany", inPlace := ["internal/bytealg.IndexByteString", "internal/bytealg.IndexString"], named := ["unicode/utf8.first", "unicode/utf8.acceptRanges", "internal/bytealg.MaxLen"], plainKeys := false, apart := false, laid := [("unicode/utf8.acceptRanges", laid_unicode_utf8_acceptRanges), ("unicode/utf8.first", laid_unicode_utf8_first)], narrowed := true }
def CurrencyManyUptoSaid : Prop := currencyManyUptoRow.holds Tryd.pinned (OpenSpec.upto currencyManySpec)

/-- 'insolvencylaw7.CurrencyRate', WHERE WHAT IT READS IS OF BULK AT MOST 1048576: true; the input reads as it did. -/
def currencyRateUptoRow : OpenClaim := { program := "ytcbjehnjbfmchaadoor", sum := "8cf2b5f2d1f8c5db5e4518a4c16047e54454ccea15d6e028f06c0a43565135fa", func := "insolvency/insolvencylaw7.CurrencyRate", spec := "currencyRate", inPlace := ["internal/bytealg.IndexByteString", "internal/bytealg.IndexString"], named := ["unicode/utf8.first", "unicode/utf8.acceptRanges", "internal/bytealg.MaxLen"], plainKeys := false, apart := false, laid := [("unicode/utf8.acceptRanges", laid_unicode_utf8_acceptRanges), ("unicode/utf8.first", laid_unicode_utf8_first)], narrowed := true }
def CurrencyRateUptoSaid : Prop := currencyRateUptoRow.holds Tryd.pinned (OpenSpec.upto currencyRateSpec)

/-- 'insolvencylaw7.CurrencyLatest', WHERE WHAT IT READS IS OF BULK AT MOST 1048576: true; the input reads as it did. -/
def currencyLatestUptoRow : OpenClaim := { program := "ytcbjehnjbfmchaadoor", sum := "8cf2b5f2d1f8c5db5e4518a4c16047e54454ccea15d6e028f06c0a43565135fa", func := "insolvency/insolvencylaw7.CurrencyLatest", spec := "currencyLatest", inPlace := ["internal/bytealg.IndexByteString", "internal/bytealg.IndexString"], named := ["unicode/utf8.first", "unicode/utf8.acceptRanges", "internal/bytealg.MaxLen"], plainKeys := false, apart := false, laid := [("unicode/utf8.acceptRanges", laid_unicode_utf8_acceptRanges), ("unicode/utf8.first", laid_unicode_utf8_first)], narrowed := true }
def CurrencyLatestUptoSaid : Prop := currencyLatestUptoRow.holds Tryd.pinned (OpenSpec.upto currencyLatestSpec)

/-- 'insolvencylaw7.CurrencyConvert', WHERE WHAT IT READS IS OF BULK AT MOST 1048576: true; the input reads as it did. -/
def currencyConvertUptoRow : OpenClaim := { program := "ytcbjehnjbfmchaadoor", sum := "8cf2b5f2d1f8c5db5e4518a4c16047e54454ccea15d6e028f06c0a43565135fa", func := "insolvency/insolvencylaw7.CurrencyConvert", spec := "currencyConvert", inPlace := ["internal/bytealg.IndexByteString", "internal/bytealg.IndexString"], named := ["unicode/utf8.first", "unicode/utf8.acceptRanges", "internal/bytealg.MaxLen"], plainKeys := false, apart := false, laid := [("unicode/utf8.acceptRanges", laid_unicode_utf8_acceptRanges), ("unicode/utf8.first", laid_unicode_utf8_first)], narrowed := true }
def CurrencyConvertUptoSaid : Prop := currencyConvertUptoRow.holds Tryd.pinned (OpenSpec.upto currencyConvertSpec)

/-- 'insolvencylaw7.CurrencyQuoted', WHERE WHAT IT READS IS OF BULK AT MOST 1048576: true; the input reads as it did. -/
def currencyQuotedUptoRow : OpenClaim := { program := "ytcbjehnjbfmchaadoor", sum := "8cf2b5f2d1f8c5db5e4518a4c16047e54454ccea15d6e028f06c0a43565135fa", func := "insolvency/insolvencylaw7.CurrencyQuoted", spec := "currencyQuoted", inPlace := ["internal/bytealg.IndexByteString", "internal/bytealg.IndexString"], named := ["unicode/utf8.first", "unicode/utf8.acceptRanges", "internal/bytealg.MaxLen"], plainKeys := false, apart := false, laid := [("unicode/utf8.acceptRanges", laid_unicode_utf8_acceptRanges), ("unicode/utf8.first", laid_unicode_utf8_first)], narrowed := true }
def CurrencyQuotedUptoSaid : Prop := currencyQuotedUptoRow.holds Tryd.pinned (OpenSpec.upto currencyQuotedSpec)

/-- 'insolvencylaw7.CurrencyBack', WHERE WHAT IT READS IS OF BULK AT MOST 1048576: true; the input reads as it did. -/
def currencyBackUptoRow : OpenClaim := { program := "ytcbjehnjbfmchaadoor", sum := "8cf2b5f2d1f8c5db5e4518a4c16047e54454ccea15d6e028f06c0a43565135fa", func := "insolvency/insolvencylaw7.CurrencyBack", spec := "currencyBack", inPlace := ["internal/bytealg.IndexByteString", "internal/bytealg.IndexString"], named := ["unicode/utf8.first", "unicode/utf8.acceptRanges", "internal/bytealg.MaxLen"], plainKeys := false, apart := false, laid := [("unicode/utf8.acceptRanges", laid_unicode_utf8_acceptRanges), ("unicode/utf8.first", laid_unicode_utf8_first)], narrowed := true }
def CurrencyBackUptoSaid : Prop := currencyBackUptoRow.holds Tryd.pinned (OpenSpec.upto currencyBackSpec)

/-- 'insolvencylaw6.InterestCheck', WHERE WHAT IT READS IS OF BULK AT MOST 1048576: true; the input reads as it did. -/
def interestCheckUptoRow : OpenClaim := { program := "ytcbjehnjbfmchaadoor", sum := "8cf2b5f2d1f8c5db5e4518a4c16047e54454ccea15d6e028f06c0a43565135fa", func := "insolvency/insolvencylaw6.InterestCheck", spec := "interestCheck", inPlace := ["internal/bytealg.IndexByteString", "internal/bytealg.IndexString"], named := ["unicode/utf8.first", "unicode/utf8.acceptRanges", "internal/bytealg.MaxLen"], plainKeys := false, apart := false, laid := [("unicode/utf8.acceptRanges", laid_unicode_utf8_acceptRanges), ("unicode/utf8.first", laid_unicode_utf8_first)], narrowed := true }
def InterestCheckUptoSaid : Prop := interestCheckUptoRow.holds Tryd.pinned (OpenSpec.upto interestCheckSpec)

/-- 'insolvencylaw6.InterestSimple', WHERE WHAT IT READS IS OF BULK AT MOST 1048576: true; the input reads as it did. -/
def interestSimpleUptoRow : OpenClaim := { program := "ytcbjehnjbfmchaadoor", sum := "8cf2b5f2d1f8c5db5e4518a4c16047e54454ccea15d6e028f06c0a43565135fa", func := "insolvency/insolvencylaw6.InterestSimple", spec := "interestSimple", inPlace := ["internal/bytealg.IndexByteString", "internal/bytealg.IndexString"], named := ["unicode/utf8.first", "unicode/utf8.acceptRanges", "internal/bytealg.MaxLen"], plainKeys := false, apart := false, laid := [("unicode/utf8.acceptRanges", laid_unicode_utf8_acceptRanges), ("unicode/utf8.first", laid_unicode_utf8_first)], narrowed := true }
def InterestSimpleUptoSaid : Prop := interestSimpleUptoRow.holds Tryd.pinned (OpenSpec.upto interestSimpleSpec)

/-- 'insolvencylaw6.InterestAdditive', WHERE WHAT IT READS IS OF BULK AT MOST 1048576: true; the input reads as it did. -/
def interestAdditiveUptoRow : OpenClaim := { program := "ytcbjehnjbfmchaadoor", sum := "8cf2b5f2d1f8c5db5e4518a4c16047e54454ccea15d6e028f06c0a43565135fa", func := "insolvency/insolvencylaw6.InterestAdditive", spec := "interestAdditive", inPlace := ["internal/bytealg.IndexByteString", "internal/bytealg.IndexString"], named := ["unicode/utf8.first", "unicode/utf8.acceptRanges", "internal/bytealg.MaxLen"], plainKeys := false, apart := false, laid := [("unicode/utf8.acceptRanges", laid_unicode_utf8_acceptRanges), ("unicode/utf8.first", laid_unicode_utf8_first)], narrowed := true }
def InterestAdditiveUptoSaid : Prop := interestAdditiveUptoRow.holds Tryd.pinned (OpenSpec.upto interestAdditiveSpec)

/-- 'insolvencylaw6.InterestChain', WHERE WHAT IT READS IS OF BULK AT MOST 1048576: true; the input reads as it did. -/
def interestChainUptoRow : OpenClaim := { program := "ytcbjehnjbfmchaadoor", sum := "8cf2b5f2d1f8c5db5e4518a4c16047e54454ccea15d6e028f06c0a43565135fa", func := "insolvency/insolvencylaw6.InterestChain", spec := "interestChain", inPlace := ["internal/bytealg.IndexByteString", "internal/bytealg.IndexString"], named := ["unicode/utf8.first", "unicode/utf8.acceptRanges", "internal/bytealg.MaxLen"], plainKeys := false, apart := false, laid := [("unicode/utf8.acceptRanges", laid_unicode_utf8_acceptRanges), ("unicode/utf8.first", laid_unicode_utf8_first)], narrowed := true }
def InterestChainUptoSaid : Prop := interestChainUptoRow.holds Tryd.pinned (OpenSpec.upto interestChainSpec)

/-- 'insolvencylaw6.InterestRate', WHERE WHAT IT READS IS OF BULK AT MOST 1048576: true; the input reads as it did. -/
def interestRateUptoRow : OpenClaim := { program := "ytcbjehnjbfmchaadoor", sum := "8cf2b5f2d1f8c5db5e4518a4c16047e54454ccea15d6e028f06c0a43565135fa", func := "insolvency/insolvencylaw6.InterestRate", spec := "interestRate", inPlace := ["internal/bytealg.IndexByteString", "internal/bytealg.IndexString"], named := ["unicode/utf8.first", "unicode/utf8.acceptRanges", "internal/bytealg.MaxLen"], plainKeys := false, apart := false, laid := [("unicode/utf8.acceptRanges", laid_unicode_utf8_acceptRanges), ("unicode/utf8.first", laid_unicode_utf8_first)], narrowed := true }
def InterestRateUptoSaid : Prop := interestRateUptoRow.holds Tryd.pinned (OpenSpec.upto interestRateSpec)

/-- 'insolvencylaw6.InterestSums', WHERE WHAT IT READS IS OF BULK AT MOST 1048576: true; the input reads as it did. -/
def interestSumsUptoRow : OpenClaim := { program := "ytcbjehnjbfmchaadoor", sum := "8cf2b5f2d1f8c5db5e4518a4c16047e54454ccea15d6e028f06c0a43565135fa", func := "insolvency/insolvencylaw6.InterestSums", spec := "interestSums", inPlace := ["internal/bytealg.IndexByteString", "internal/bytealg.IndexString"], named := ["unicode/utf8.first", "unicode/utf8.acceptRanges", "internal/bytealg.MaxLen"], plainKeys := false, apart := false, laid := [("unicode/utf8.acceptRanges", laid_unicode_utf8_acceptRanges), ("unicode/utf8.first", laid_unicode_utf8_first)], narrowed := true }
def InterestSumsUptoSaid : Prop := interestSumsUptoRow.holds Tryd.pinned (OpenSpec.upto interestSumsSpec)

/-- 'insolvencylaw6.InterestAtLeast', WHERE WHAT IT READS IS OF BULK AT MOST 1048576: true; the input reads as it did. -/
def interestAtLeastUptoRow : OpenClaim := { program := "ytcbjehnjbfmchaadoor", sum := "8cf2b5f2d1f8c5db5e4518a4c16047e54454ccea15d6e028f06c0a43565135fa", func := "insolvency/insolvencylaw6.InterestAtLeast", spec := "interestAtLeast", inPlace := ["internal/bytealg.IndexByteString", "internal/bytealg.IndexString", "internal/bytealg.abigen_runtime_cmpstring"], named := ["unicode/utf8.first", "unicode/utf8.acceptRanges", "internal/bytealg.MaxLen"], plainKeys := false, apart := false, laid := [("unicode/utf8.acceptRanges", laid_unicode_utf8_acceptRanges), ("unicode/utf8.first", laid_unicode_utf8_first)], narrowed := true }
def InterestAtLeastUptoSaid : Prop := interestAtLeastUptoRow.holds Tryd.pinned (OpenSpec.upto interestAtLeastSpec)

end Rows
end Go.Proofs.YtcbjehnjbfmchaaDoor
