/-
  DERIVED. GIVEN WITH THE SEED: THE CARDS: each row of YtghbnehocggnnaaDoorRows.lean that lists a variable, with what it lists TIED to the program's text (the seventh form; the later family's looks); each row that meets fmt, with fmt's text TOLD by the authors' own Lean function (tested against real Go, not proved from fmt's source: count such statements apart). THE CARD IS WHAT COUNTS. Prove the row's statement (the work); the ties are given (YtghbnehocggnnaaDoorTie.lean); close each card by the builder's one call (the guide's Derived/Test/ToyasCard.lean, 'card_holds'). Laid BY PROGRAM, IN A SANDBOX (cutbox-door.mjs). By AI agents, Wed Nov 11 2026. No macro, syntax, notation, axiom, sorry.
-/
import Derived.Test.YtghbnehocggnnaaDoorRows
import GoSem.ClaimSeven
namespace Go.Proofs.YtghbnehocggnnaaDoor
namespace Rows

/-- THE TIED CARD OF 'laws.FnExactFormatBinding'. -/
def fnExactFormatBindingCard : Claim7 := { stood := { row := fnExactFormatBindingRow, standIns := [], harness := (true, "324a9d83345df313377a577bcc9decf2a5debb9366d94cde39a2a4e68a1c02cd"), looks := true }, kinds := [], alts := [], laidByText := true, laidKinds := [.data, .data, .data], laidTests := true, laidLooks := .later }
def FnExactFormatBindingCardSaid : Prop := Claim7.holds Tryd.pinned (.plain (OpenSpec.ofChange fnExactFormatBindingSpec)) fnExactFormatBindingCard

/-- THE TIED CARD OF 'laws.FnSourceText'. -/
def fnSourceTextCard : Claim7 := { stood := { row := fnSourceTextRow, standIns := [], harness := (true, "324a9d83345df313377a577bcc9decf2a5debb9366d94cde39a2a4e68a1c02cd"), looks := true }, kinds := [], alts := [], laidByText := true, laidKinds := [.data, .data, .data, .sentinel, .sentinel], laidTests := true, laidLooks := .later }
def FnSourceTextCardSaid : Prop := Claim7.holds Tryd.pinned (.plain (OpenSpec.ofChange fnSourceTextSpec)) fnSourceTextCard

/-- THE SECOND FORM's CARD OF 'laws.FnExactFormatBinding'. -/
def fnExactFormatBindingUptoCard : Claim7 := { stood := { row := fnExactFormatBindingUptoRow, standIns := [], harness := (true, "324a9d83345df313377a577bcc9decf2a5debb9366d94cde39a2a4e68a1c02cd"), looks := true }, kinds := [], alts := [], laidByText := true, laidKinds := [.data, .data, .data], laidTests := true, laidLooks := .later }
def FnExactFormatBindingUptoCardSaid : Prop := Claim7.holds Tryd.pinned (.plain (OpenSpec.upto fnExactFormatBindingSpec)) fnExactFormatBindingUptoCard

/-- THE SECOND FORM's CARD OF 'laws.FnSourceText'. -/
def fnSourceTextUptoCard : Claim7 := { stood := { row := fnSourceTextUptoRow, standIns := [], harness := (true, "324a9d83345df313377a577bcc9decf2a5debb9366d94cde39a2a4e68a1c02cd"), looks := true }, kinds := [], alts := [], laidByText := true, laidKinds := [.data, .data, .data, .sentinel, .sentinel], laidTests := true, laidLooks := .later }
def FnSourceTextUptoCardSaid : Prop := Claim7.holds Tryd.pinned (.plain (OpenSpec.upto fnSourceTextSpec)) fnSourceTextUptoCard
end Rows
end Go.Proofs.YtghbnehocggnnaaDoor
