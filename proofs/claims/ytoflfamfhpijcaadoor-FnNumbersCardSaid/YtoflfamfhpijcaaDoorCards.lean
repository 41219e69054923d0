/-
  DERIVED. GIVEN WITH THE SEED: THE CARDS: each row of YtoflfamfhpijcaaDoorRows.lean that lists a variable, with what it lists TIED to the program's text (the seventh form; the later family's looks); each row that meets fmt, with fmt's text TOLD by the authors' own Lean function (tested against real Go, not proved from fmt's source: count such statements apart). THE CARD IS WHAT COUNTS. Prove the row's statement (the work); the ties are given (YtoflfamfhpijcaaDoorTie.lean); close each card by the builder's one call (the guide's Derived/Test/ToyasCard.lean, 'card_holds'). Laid BY PROGRAM, IN A SANDBOX (cutbox-door.mjs). By AI agents, Wed Nov 11 2026. No macro, syntax, notation, axiom, sorry.
-/
import Derived.Test.YtoflfamfhpijcaaDoorRows
import GoSem.ClaimSeven
namespace Go.Proofs.YtoflfamfhpijcaaDoor
namespace Rows

/-- THE TIED CARD OF 'laws.FnSourceText'. -/
def fnSourceTextCard : Claim7 := { stood := { row := fnSourceTextRow, standIns := [], harness := (true, "7e4c20682b47dd603b786fa73237fdd27ebf80c686bf67ee1c6fde8c144fc9aa"), looks := true }, kinds := [], alts := [], laidByText := true, laidKinds := [.data, .data, .data, .sentinel, .sentinel], laidTests := true, laidLooks := .later }
def FnSourceTextCardSaid : Prop := Claim7.holds Tryd.pinned (.plain (OpenSpec.ofChange fnSourceTextSpec)) fnSourceTextCard

/-- THE TIED CARD OF 'laws.FnExactParseData'. -/
def fnExactParseDataCard : Claim7 := { stood := { row := fnExactParseDataRow, standIns := [], harness := (true, "7e4c20682b47dd603b786fa73237fdd27ebf80c686bf67ee1c6fde8c144fc9aa"), looks := true }, kinds := [], alts := [], laidByText := true, laidKinds := [.data, .data, .data, .sentinel, .sentinel], laidTests := true, laidLooks := .later }
def FnExactParseDataCardSaid : Prop := Claim7.holds Tryd.pinned (.plain (OpenSpec.ofChange fnExactParseDataSpec)) fnExactParseDataCard

/-- THE TIED CARD OF 'laws.FnExactFormatNumber'. -/
def fnExactFormatNumberCard : Claim7 := { stood := { row := fnExactFormatNumberRow, standIns := [], harness := (true, "7e4c20682b47dd603b786fa73237fdd27ebf80c686bf67ee1c6fde8c144fc9aa"), looks := true }, kinds := [], alts := [], laidByText := true, laidKinds := [.data, .data, .data], laidTests := true, laidLooks := .later }
def FnExactFormatNumberCardSaid : Prop := Claim7.holds Tryd.pinned (.plain (OpenSpec.ofChange fnExactFormatNumberSpec)) fnExactFormatNumberCard

/-- THE TIED CARD OF 'laws.FnExactFormatBinding'. -/
def fnExactFormatBindingCard : Claim7 := { stood := { row := fnExactFormatBindingRow, standIns := [], harness := (true, "7e4c20682b47dd603b786fa73237fdd27ebf80c686bf67ee1c6fde8c144fc9aa"), looks := true }, kinds := [], alts := [], laidByText := true, laidKinds := [.data, .data, .data], laidTests := true, laidLooks := .later }
def FnExactFormatBindingCardSaid : Prop := Claim7.holds Tryd.pinned (.plain (OpenSpec.ofChange fnExactFormatBindingSpec)) fnExactFormatBindingCard

/-- THE TIED CARD OF 'laws.FnExactFormatDatum'. -/
def fnExactFormatDatumCard : Claim7 := { stood := { row := fnExactFormatDatumRow, standIns := [], harness := (true, "7e4c20682b47dd603b786fa73237fdd27ebf80c686bf67ee1c6fde8c144fc9aa"), looks := true }, kinds := [], alts := [], laidByText := true, laidKinds := [.data, .data, .data], laidTests := true, laidLooks := .later }
def FnExactFormatDatumCardSaid : Prop := Claim7.holds Tryd.pinned (.plain (OpenSpec.ofChange fnExactFormatDatumSpec)) fnExactFormatDatumCard

/-- THE TIED CARD OF 'laws.FnExactFormatData'. -/
def fnExactFormatDataCard : Claim7 := { stood := { row := fnExactFormatDataRow, standIns := [], harness := (true, "7e4c20682b47dd603b786fa73237fdd27ebf80c686bf67ee1c6fde8c144fc9aa"), looks := true }, kinds := [], alts := [], laidByText := true, laidKinds := [.data, .data, .data], laidTests := true, laidLooks := .later }
def FnExactFormatDataCardSaid : Prop := Claim7.holds Tryd.pinned (.plain (OpenSpec.ofChange fnExactFormatDataSpec)) fnExactFormatDataCard

/-- THE TIED CARD OF 'laws.FnExactParseNumber'. -/
def fnExactParseNumberCard : Claim7 := { stood := { row := fnExactParseNumberRow, standIns := [], harness := (true, "7e4c20682b47dd603b786fa73237fdd27ebf80c686bf67ee1c6fde8c144fc9aa"), looks := true }, kinds := [], alts := [], laidByText := true, laidKinds := [.data, .data, .data, .sentinel, .sentinel], laidTests := true, laidLooks := .later }
def FnExactParseNumberCardSaid : Prop := Claim7.holds Tryd.pinned (.plain (OpenSpec.ofChange fnExactParseNumberSpec)) fnExactParseNumberCard

/-- THE TIED CARD OF 'laws.FnNumbers'. -/
def fnNumbersCard : Claim7 := { stood := { row := fnNumbersRow, standIns := [], harness := (true, "7e4c20682b47dd603b786fa73237fdd27ebf80c686bf67ee1c6fde8c144fc9aa"), looks := true }, kinds := [], alts := [], laidByText := true, laidKinds := [.data, .data, .data, .sentinel, .sentinel], laidTests := true, laidLooks := .later }
def FnNumbersCardSaid : Prop := Claim7.holds Tryd.pinned (.plain (OpenSpec.ofChange fnNumbersSpec)) fnNumbersCard

/-- THE TIED CARD OF 'laws.FnExactFormatSyntax'. -/
def fnExactFormatSyntaxCard : Claim7 := { stood := { row := fnExactFormatSyntaxRow, standIns := [], harness := (true, "7e4c20682b47dd603b786fa73237fdd27ebf80c686bf67ee1c6fde8c144fc9aa"), looks := true }, kinds := [], alts := [], laidByText := true, laidKinds := [.data, .data, .data], laidTests := true, laidLooks := .later }
def FnExactFormatSyntaxCardSaid : Prop := Claim7.holds Tryd.pinned (.plain (OpenSpec.ofChange fnExactFormatSyntaxSpec)) fnExactFormatSyntaxCard

/-- THE SECOND FORM's CARD OF 'laws.FnSourceText'. -/
def fnSourceTextUptoCard : Claim7 := { stood := { row := fnSourceTextUptoRow, standIns := [], harness := (true, "7e4c20682b47dd603b786fa73237fdd27ebf80c686bf67ee1c6fde8c144fc9aa"), looks := true }, kinds := [], alts := [], laidByText := true, laidKinds := [.data, .data, .data, .sentinel, .sentinel], laidTests := true, laidLooks := .later }
def FnSourceTextUptoCardSaid : Prop := Claim7.holds Tryd.pinned (.plain (OpenSpec.upto fnSourceTextSpec)) fnSourceTextUptoCard

/-- THE SECOND FORM's CARD OF 'laws.FnExactParseData'. -/
def fnExactParseDataUptoCard : Claim7 := { stood := { row := fnExactParseDataUptoRow, standIns := [], harness := (true, "7e4c20682b47dd603b786fa73237fdd27ebf80c686bf67ee1c6fde8c144fc9aa"), looks := true }, kinds := [], alts := [], laidByText := true, laidKinds := [.data, .data, .data, .sentinel, .sentinel], laidTests := true, laidLooks := .later }
def FnExactParseDataUptoCardSaid : Prop := Claim7.holds Tryd.pinned (.plain (OpenSpec.upto fnExactParseDataSpec)) fnExactParseDataUptoCard

/-- THE SECOND FORM's CARD OF 'laws.FnExactFormatNumber'. -/
def fnExactFormatNumberUptoCard : Claim7 := { stood := { row := fnExactFormatNumberUptoRow, standIns := [], harness := (true, "7e4c20682b47dd603b786fa73237fdd27ebf80c686bf67ee1c6fde8c144fc9aa"), looks := true }, kinds := [], alts := [], laidByText := true, laidKinds := [.data, .data, .data], laidTests := true, laidLooks := .later }
def FnExactFormatNumberUptoCardSaid : Prop := Claim7.holds Tryd.pinned (.plain (OpenSpec.upto fnExactFormatNumberSpec)) fnExactFormatNumberUptoCard

/-- THE SECOND FORM's CARD OF 'laws.FnExactFormatBinding'. -/
def fnExactFormatBindingUptoCard : Claim7 := { stood := { row := fnExactFormatBindingUptoRow, standIns := [], harness := (true, "7e4c20682b47dd603b786fa73237fdd27ebf80c686bf67ee1c6fde8c144fc9aa"), looks := true }, kinds := [], alts := [], laidByText := true, laidKinds := [.data, .data, .data], laidTests := true, laidLooks := .later }
def FnExactFormatBindingUptoCardSaid : Prop := Claim7.holds Tryd.pinned (.plain (OpenSpec.upto fnExactFormatBindingSpec)) fnExactFormatBindingUptoCard

/-- THE SECOND FORM's CARD OF 'laws.FnExactFormatDatum'. -/
def fnExactFormatDatumUptoCard : Claim7 := { stood := { row := fnExactFormatDatumUptoRow, standIns := [], harness := (true, "7e4c20682b47dd603b786fa73237fdd27ebf80c686bf67ee1c6fde8c144fc9aa"), looks := true }, kinds := [], alts := [], laidByText := true, laidKinds := [.data, .data, .data], laidTests := true, laidLooks := .later }
def FnExactFormatDatumUptoCardSaid : Prop := Claim7.holds Tryd.pinned (.plain (OpenSpec.upto fnExactFormatDatumSpec)) fnExactFormatDatumUptoCard

/-- THE SECOND FORM's CARD OF 'laws.FnExactFormatData'. -/
def fnExactFormatDataUptoCard : Claim7 := { stood := { row := fnExactFormatDataUptoRow, standIns := [], harness := (true, "7e4c20682b47dd603b786fa73237fdd27ebf80c686bf67ee1c6fde8c144fc9aa"), looks := true }, kinds := [], alts := [], laidByText := true, laidKinds := [.data, .data, .data], laidTests := true, laidLooks := .later }
def FnExactFormatDataUptoCardSaid : Prop := Claim7.holds Tryd.pinned (.plain (OpenSpec.upto fnExactFormatDataSpec)) fnExactFormatDataUptoCard

/-- THE SECOND FORM's CARD OF 'laws.FnExactParseNumber'. -/
def fnExactParseNumberUptoCard : Claim7 := { stood := { row := fnExactParseNumberUptoRow, standIns := [], harness := (true, "7e4c20682b47dd603b786fa73237fdd27ebf80c686bf67ee1c6fde8c144fc9aa"), looks := true }, kinds := [], alts := [], laidByText := true, laidKinds := [.data, .data, .data, .sentinel, .sentinel], laidTests := true, laidLooks := .later }
def FnExactParseNumberUptoCardSaid : Prop := Claim7.holds Tryd.pinned (.plain (OpenSpec.upto fnExactParseNumberSpec)) fnExactParseNumberUptoCard

/-- THE SECOND FORM's CARD OF 'laws.FnNumbers'. -/
def fnNumbersUptoCard : Claim7 := { stood := { row := fnNumbersUptoRow, standIns := [], harness := (true, "7e4c20682b47dd603b786fa73237fdd27ebf80c686bf67ee1c6fde8c144fc9aa"), looks := true }, kinds := [], alts := [], laidByText := true, laidKinds := [.data, .data, .data, .sentinel, .sentinel], laidTests := true, laidLooks := .later }
def FnNumbersUptoCardSaid : Prop := Claim7.holds Tryd.pinned (.plain (OpenSpec.upto fnNumbersSpec)) fnNumbersUptoCard

/-- THE SECOND FORM's CARD OF 'laws.FnExactFormatSyntax'. -/
def fnExactFormatSyntaxUptoCard : Claim7 := { stood := { row := fnExactFormatSyntaxUptoRow, standIns := [], harness := (true, "7e4c20682b47dd603b786fa73237fdd27ebf80c686bf67ee1c6fde8c144fc9aa"), looks := true }, kinds := [], alts := [], laidByText := true, laidKinds := [.data, .data, .data], laidTests := true, laidLooks := .later }
def FnExactFormatSyntaxUptoCardSaid : Prop := Claim7.holds Tryd.pinned (.plain (OpenSpec.upto fnExactFormatSyntaxSpec)) fnExactFormatSyntaxUptoCard
end Rows
end Go.Proofs.YtoflfamfhpijcaaDoor
