/-
  DERIVED. GIVEN WITH THE SEED: THE CARDS: each row of YtcbjehnjbfmchaaDoorRows.lean that lists a variable, with what it lists TIED to the program's text (the seventh form; the later family's looks); each row that meets fmt, with fmt's text TOLD by the authors' own Lean function (tested against real Go, not proved from fmt's source: count such statements apart). THE CARD IS WHAT COUNTS. Prove the row's statement (the work); the ties are given (YtcbjehnjbfmchaaDoorTie.lean); close each card by the builder's one call (the guide's Derived/Test/ToyasCard.lean, 'card_holds'). Laid BY PROGRAM, IN A SANDBOX (cutbox-door.mjs). By AI agents, Wed Nov 11 2026. No macro, syntax, notation, axiom, sorry.
-/
import Derived.Test.YtcbjehnjbfmchaaDoorRows
import GoSem.ClaimSeven
namespace Go.Proofs.YtcbjehnjbfmchaaDoor
namespace Rows

/-- THE TIED CARD OF 'insolvencylaw7.CurrencyCheck'. -/
def currencyCheckCard : Claim7 := { stood := { row := currencyCheckRow, standIns := [], harness := (true, "9202a00ce268925bc076c3f8bf0d41c12160ba03541809317b2e0cdca78e2ce3"), looks := false }, kinds := [], alts := [], laidByText := true, laidKinds := [.data, .pinned], laidTests := true, laidLooks := .later }
def CurrencyCheckCardSaid : Prop := Claim7.holds Tryd.pinned (.plain (OpenSpec.ofChange currencyCheckSpec)) currencyCheckCard

/-- THE TIED CARD OF 'insolvencylaw7.CurrencyMany'. -/
def currencyManyCard : Claim7 := { stood := { row := currencyManyRow, standIns := [], harness := (true, "9202a00ce268925bc076c3f8bf0d41c12160ba03541809317b2e0cdca78e2ce3"), looks := false }, kinds := [], alts := [], laidByText := true, laidKinds := [.data, .pinned], laidTests := true, laidLooks := .later }
def CurrencyManyCardSaid : Prop := Claim7.holds Tryd.pinned (.plain (OpenSpec.ofChange currencyManySpec)) currencyManyCard

/-- THE TIED CARD OF 'insolvencylaw7.CurrencyRate'. -/
def currencyRateCard : Claim7 := { stood := { row := currencyRateRow, standIns := [], harness := (true, "9202a00ce268925bc076c3f8bf0d41c12160ba03541809317b2e0cdca78e2ce3"), looks := false }, kinds := [], alts := [], laidByText := true, laidKinds := [.data, .pinned], laidTests := true, laidLooks := .later }
def CurrencyRateCardSaid : Prop := Claim7.holds Tryd.pinned (.plain (OpenSpec.ofChange currencyRateSpec)) currencyRateCard

/-- THE TIED CARD OF 'insolvencylaw7.CurrencyLatest'. -/
def currencyLatestCard : Claim7 := { stood := { row := currencyLatestRow, standIns := [], harness := (true, "9202a00ce268925bc076c3f8bf0d41c12160ba03541809317b2e0cdca78e2ce3"), looks := false }, kinds := [], alts := [], laidByText := true, laidKinds := [.data, .pinned], laidTests := true, laidLooks := .later }
def CurrencyLatestCardSaid : Prop := Claim7.holds Tryd.pinned (.plain (OpenSpec.ofChange currencyLatestSpec)) currencyLatestCard

/-- THE TIED CARD OF 'insolvencylaw7.CurrencyConvert'. -/
def currencyConvertCard : Claim7 := { stood := { row := currencyConvertRow, standIns := [], harness := (true, "9202a00ce268925bc076c3f8bf0d41c12160ba03541809317b2e0cdca78e2ce3"), looks := false }, kinds := [], alts := [], laidByText := true, laidKinds := [.data, .pinned], laidTests := true, laidLooks := .later }
def CurrencyConvertCardSaid : Prop := Claim7.holds Tryd.pinned (.plain (OpenSpec.ofChange currencyConvertSpec)) currencyConvertCard

/-- THE TIED CARD OF 'insolvencylaw7.CurrencyQuoted'. -/
def currencyQuotedCard : Claim7 := { stood := { row := currencyQuotedRow, standIns := [], harness := (true, "9202a00ce268925bc076c3f8bf0d41c12160ba03541809317b2e0cdca78e2ce3"), looks := false }, kinds := [], alts := [], laidByText := true, laidKinds := [.data, .pinned], laidTests := true, laidLooks := .later }
def CurrencyQuotedCardSaid : Prop := Claim7.holds Tryd.pinned (.plain (OpenSpec.ofChange currencyQuotedSpec)) currencyQuotedCard

/-- THE TIED CARD OF 'insolvencylaw7.CurrencyBack'. -/
def currencyBackCard : Claim7 := { stood := { row := currencyBackRow, standIns := [], harness := (true, "9202a00ce268925bc076c3f8bf0d41c12160ba03541809317b2e0cdca78e2ce3"), looks := false }, kinds := [], alts := [], laidByText := true, laidKinds := [.data, .pinned], laidTests := true, laidLooks := .later }
def CurrencyBackCardSaid : Prop := Claim7.holds Tryd.pinned (.plain (OpenSpec.ofChange currencyBackSpec)) currencyBackCard

/-- THE TIED CARD OF 'insolvencylaw6.InterestCheck'. -/
def interestCheckCard : Claim7 := { stood := { row := interestCheckRow, standIns := [], harness := (true, "9202a00ce268925bc076c3f8bf0d41c12160ba03541809317b2e0cdca78e2ce3"), looks := false }, kinds := [], alts := [], laidByText := true, laidKinds := [.data, .pinned], laidTests := true, laidLooks := .later }
def InterestCheckCardSaid : Prop := Claim7.holds Tryd.pinned (.plain (OpenSpec.ofChange interestCheckSpec)) interestCheckCard

/-- THE TIED CARD OF 'insolvencylaw6.InterestSimple'. -/
def interestSimpleCard : Claim7 := { stood := { row := interestSimpleRow, standIns := [], harness := (true, "9202a00ce268925bc076c3f8bf0d41c12160ba03541809317b2e0cdca78e2ce3"), looks := false }, kinds := [], alts := [], laidByText := true, laidKinds := [.data, .pinned], laidTests := true, laidLooks := .later }
def InterestSimpleCardSaid : Prop := Claim7.holds Tryd.pinned (.plain (OpenSpec.ofChange interestSimpleSpec)) interestSimpleCard

/-- THE TIED CARD OF 'insolvencylaw6.InterestAdditive'. -/
def interestAdditiveCard : Claim7 := { stood := { row := interestAdditiveRow, standIns := [], harness := (true, "9202a00ce268925bc076c3f8bf0d41c12160ba03541809317b2e0cdca78e2ce3"), looks := false }, kinds := [], alts := [], laidByText := true, laidKinds := [.data, .pinned], laidTests := true, laidLooks := .later }
def InterestAdditiveCardSaid : Prop := Claim7.holds Tryd.pinned (.plain (OpenSpec.ofChange interestAdditiveSpec)) interestAdditiveCard

/-- THE TIED CARD OF 'insolvencylaw6.InterestChain'. -/
def interestChainCard : Claim7 := { stood := { row := interestChainRow, standIns := [], harness := (true, "9202a00ce268925bc076c3f8bf0d41c12160ba03541809317b2e0cdca78e2ce3"), looks := false }, kinds := [], alts := [], laidByText := true, laidKinds := [.data, .pinned], laidTests := true, laidLooks := .later }
def InterestChainCardSaid : Prop := Claim7.holds Tryd.pinned (.plain (OpenSpec.ofChange interestChainSpec)) interestChainCard

/-- THE TIED CARD OF 'insolvencylaw6.InterestRate'. -/
def interestRateCard : Claim7 := { stood := { row := interestRateRow, standIns := [], harness := (true, "9202a00ce268925bc076c3f8bf0d41c12160ba03541809317b2e0cdca78e2ce3"), looks := false }, kinds := [], alts := [], laidByText := true, laidKinds := [.data, .pinned], laidTests := true, laidLooks := .later }
def InterestRateCardSaid : Prop := Claim7.holds Tryd.pinned (.plain (OpenSpec.ofChange interestRateSpec)) interestRateCard

/-- THE TIED CARD OF 'insolvencylaw6.InterestSums'. -/
def interestSumsCard : Claim7 := { stood := { row := interestSumsRow, standIns := [], harness := (true, "9202a00ce268925bc076c3f8bf0d41c12160ba03541809317b2e0cdca78e2ce3"), looks := false }, kinds := [], alts := [], laidByText := true, laidKinds := [.data, .pinned], laidTests := true, laidLooks := .later }
def InterestSumsCardSaid : Prop := Claim7.holds Tryd.pinned (.plain (OpenSpec.ofChange interestSumsSpec)) interestSumsCard

/-- THE TIED CARD OF 'insolvencylaw6.InterestAtLeast'. -/
def interestAtLeastCard : Claim7 := { stood := { row := interestAtLeastRow, standIns := [], harness := (true, "9202a00ce268925bc076c3f8bf0d41c12160ba03541809317b2e0cdca78e2ce3"), looks := false }, kinds := [], alts := [], laidByText := true, laidKinds := [.data, .pinned], laidTests := true, laidLooks := .later }
def InterestAtLeastCardSaid : Prop := Claim7.holds Tryd.pinned (.plain (OpenSpec.ofChange interestAtLeastSpec)) interestAtLeastCard

/-- THE SECOND FORM's CARD OF 'insolvencylaw7.CurrencyCheck'. -/
def currencyCheckUptoCard : Claim7 := { stood := { row := currencyCheckUptoRow, standIns := [], harness := (true, "9202a00ce268925bc076c3f8bf0d41c12160ba03541809317b2e0cdca78e2ce3"), looks := false }, kinds := [], alts := [], laidByText := true, laidKinds := [.data, .pinned], laidTests := true, laidLooks := .later }
def CurrencyCheckUptoCardSaid : Prop := Claim7.holds Tryd.pinned (.plain (OpenSpec.upto currencyCheckSpec)) currencyCheckUptoCard

/-- THE SECOND FORM's CARD OF 'insolvencylaw7.CurrencyMany'. -/
def currencyManyUptoCard : Claim7 := { stood := { row := currencyManyUptoRow, standIns := [], harness := (true, "9202a00ce268925bc076c3f8bf0d41c12160ba03541809317b2e0cdca78e2ce3"), looks := false }, kinds := [], alts := [], laidByText := true, laidKinds := [.data, .pinned], laidTests := true, laidLooks := .later }
def CurrencyManyUptoCardSaid : Prop := Claim7.holds Tryd.pinned (.plain (OpenSpec.upto currencyManySpec)) currencyManyUptoCard

/-- THE SECOND FORM's CARD OF 'insolvencylaw7.CurrencyRate'. -/
def currencyRateUptoCard : Claim7 := { stood := { row := currencyRateUptoRow, standIns := [], harness := (true, "9202a00ce268925bc076c3f8bf0d41c12160ba03541809317b2e0cdca78e2ce3"), looks := false }, kinds := [], alts := [], laidByText := true, laidKinds := [.data, .pinned], laidTests := true, laidLooks := .later }
def CurrencyRateUptoCardSaid : Prop := Claim7.holds Tryd.pinned (.plain (OpenSpec.upto currencyRateSpec)) currencyRateUptoCard

/-- THE SECOND FORM's CARD OF 'insolvencylaw7.CurrencyLatest'. -/
def currencyLatestUptoCard : Claim7 := { stood := { row := currencyLatestUptoRow, standIns := [], harness := (true, "9202a00ce268925bc076c3f8bf0d41c12160ba03541809317b2e0cdca78e2ce3"), looks := false }, kinds := [], alts := [], laidByText := true, laidKinds := [.data, .pinned], laidTests := true, laidLooks := .later }
def CurrencyLatestUptoCardSaid : Prop := Claim7.holds Tryd.pinned (.plain (OpenSpec.upto currencyLatestSpec)) currencyLatestUptoCard

/-- THE SECOND FORM's CARD OF 'insolvencylaw7.CurrencyConvert'. -/
def currencyConvertUptoCard : Claim7 := { stood := { row := currencyConvertUptoRow, standIns := [], harness := (true, "9202a00ce268925bc076c3f8bf0d41c12160ba03541809317b2e0cdca78e2ce3"), looks := false }, kinds := [], alts := [], laidByText := true, laidKinds := [.data, .pinned], laidTests := true, laidLooks := .later }
def CurrencyConvertUptoCardSaid : Prop := Claim7.holds Tryd.pinned (.plain (OpenSpec.upto currencyConvertSpec)) currencyConvertUptoCard

/-- THE SECOND FORM's CARD OF 'insolvencylaw7.CurrencyQuoted'. -/
def currencyQuotedUptoCard : Claim7 := { stood := { row := currencyQuotedUptoRow, standIns := [], harness := (true, "9202a00ce268925bc076c3f8bf0d41c12160ba03541809317b2e0cdca78e2ce3"), looks := false }, kinds := [], alts := [], laidByText := true, laidKinds := [.data, .pinned], laidTests := true, laidLooks := .later }
def CurrencyQuotedUptoCardSaid : Prop := Claim7.holds Tryd.pinned (.plain (OpenSpec.upto currencyQuotedSpec)) currencyQuotedUptoCard

/-- THE SECOND FORM's CARD OF 'insolvencylaw7.CurrencyBack'. -/
def currencyBackUptoCard : Claim7 := { stood := { row := currencyBackUptoRow, standIns := [], harness := (true, "9202a00ce268925bc076c3f8bf0d41c12160ba03541809317b2e0cdca78e2ce3"), looks := false }, kinds := [], alts := [], laidByText := true, laidKinds := [.data, .pinned], laidTests := true, laidLooks := .later }
def CurrencyBackUptoCardSaid : Prop := Claim7.holds Tryd.pinned (.plain (OpenSpec.upto currencyBackSpec)) currencyBackUptoCard

/-- THE SECOND FORM's CARD OF 'insolvencylaw6.InterestCheck'. -/
def interestCheckUptoCard : Claim7 := { stood := { row := interestCheckUptoRow, standIns := [], harness := (true, "9202a00ce268925bc076c3f8bf0d41c12160ba03541809317b2e0cdca78e2ce3"), looks := false }, kinds := [], alts := [], laidByText := true, laidKinds := [.data, .pinned], laidTests := true, laidLooks := .later }
def InterestCheckUptoCardSaid : Prop := Claim7.holds Tryd.pinned (.plain (OpenSpec.upto interestCheckSpec)) interestCheckUptoCard

/-- THE SECOND FORM's CARD OF 'insolvencylaw6.InterestSimple'. -/
def interestSimpleUptoCard : Claim7 := { stood := { row := interestSimpleUptoRow, standIns := [], harness := (true, "9202a00ce268925bc076c3f8bf0d41c12160ba03541809317b2e0cdca78e2ce3"), looks := false }, kinds := [], alts := [], laidByText := true, laidKinds := [.data, .pinned], laidTests := true, laidLooks := .later }
def InterestSimpleUptoCardSaid : Prop := Claim7.holds Tryd.pinned (.plain (OpenSpec.upto interestSimpleSpec)) interestSimpleUptoCard

/-- THE SECOND FORM's CARD OF 'insolvencylaw6.InterestAdditive'. -/
def interestAdditiveUptoCard : Claim7 := { stood := { row := interestAdditiveUptoRow, standIns := [], harness := (true, "9202a00ce268925bc076c3f8bf0d41c12160ba03541809317b2e0cdca78e2ce3"), looks := false }, kinds := [], alts := [], laidByText := true, laidKinds := [.data, .pinned], laidTests := true, laidLooks := .later }
def InterestAdditiveUptoCardSaid : Prop := Claim7.holds Tryd.pinned (.plain (OpenSpec.upto interestAdditiveSpec)) interestAdditiveUptoCard

/-- THE SECOND FORM's CARD OF 'insolvencylaw6.InterestChain'. -/
def interestChainUptoCard : Claim7 := { stood := { row := interestChainUptoRow, standIns := [], harness := (true, "9202a00ce268925bc076c3f8bf0d41c12160ba03541809317b2e0cdca78e2ce3"), looks := false }, kinds := [], alts := [], laidByText := true, laidKinds := [.data, .pinned], laidTests := true, laidLooks := .later }
def InterestChainUptoCardSaid : Prop := Claim7.holds Tryd.pinned (.plain (OpenSpec.upto interestChainSpec)) interestChainUptoCard

/-- THE SECOND FORM's CARD OF 'insolvencylaw6.InterestRate'. -/
def interestRateUptoCard : Claim7 := { stood := { row := interestRateUptoRow, standIns := [], harness := (true, "9202a00ce268925bc076c3f8bf0d41c12160ba03541809317b2e0cdca78e2ce3"), looks := false }, kinds := [], alts := [], laidByText := true, laidKinds := [.data, .pinned], laidTests := true, laidLooks := .later }
def InterestRateUptoCardSaid : Prop := Claim7.holds Tryd.pinned (.plain (OpenSpec.upto interestRateSpec)) interestRateUptoCard

/-- THE SECOND FORM's CARD OF 'insolvencylaw6.InterestSums'. -/
def interestSumsUptoCard : Claim7 := { stood := { row := interestSumsUptoRow, standIns := [], harness := (true, "9202a00ce268925bc076c3f8bf0d41c12160ba03541809317b2e0cdca78e2ce3"), looks := false }, kinds := [], alts := [], laidByText := true, laidKinds := [.data, .pinned], laidTests := true, laidLooks := .later }
def InterestSumsUptoCardSaid : Prop := Claim7.holds Tryd.pinned (.plain (OpenSpec.upto interestSumsSpec)) interestSumsUptoCard

/-- THE SECOND FORM's CARD OF 'insolvencylaw6.InterestAtLeast'. -/
def interestAtLeastUptoCard : Claim7 := { stood := { row := interestAtLeastUptoRow, standIns := [], harness := (true, "9202a00ce268925bc076c3f8bf0d41c12160ba03541809317b2e0cdca78e2ce3"), looks := false }, kinds := [], alts := [], laidByText := true, laidKinds := [.data, .pinned], laidTests := true, laidLooks := .later }
def InterestAtLeastUptoCardSaid : Prop := Claim7.holds Tryd.pinned (.plain (OpenSpec.upto interestAtLeastSpec)) interestAtLeastUptoCard
end Rows
end Go.Proofs.YtcbjehnjbfmchaaDoor
