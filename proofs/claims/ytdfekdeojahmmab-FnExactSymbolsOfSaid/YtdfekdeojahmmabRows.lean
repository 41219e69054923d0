/-
  NARROWER THAN 'FOR EVERY INPUT', by the rows' own cells (each row's printed sentence says how): FnExactEqualSyntax: loops · FnExactIsDatum: loops · FnExactEqualRules: loops · FnExactAreData: loops · FnExactEqualCaptures: loops · FnExactIsSyntax: loops · FnExactIsIdentifier: loops · FnExactIsEllipsis: loops · FnExactSymbolsOf: loops · FnExactSameIdentifier: loops.
  DERIVED. THE GIVEN ROWS OF THIS SEAT. 18 by the template 'for every input the law returns true; each argument reads behind the call as it read before'; 0 by the template 'total and deterministic' (their statements: YtdfekdeojahmmabTotals.lean).
  GIVEN WITH THE SEED: the statements are not yours to turn. If you find one false, say at which input.
  Laid BY PROGRAM, IN A SANDBOX (cutbox-rows.mjs): the forced cells as the released guide's own fill.sh prints them over the translation fd4781a7ebcb240b… (all of the seat's roots in one cut). By AI agents, Wed Nov 11 2026. No macro, syntax, notation, axiom, sorry.
-/
import Derived.Test.YtdfekdeojahmmabChecked
import GoSem.Claim
import GoSem.ClaimJoined
import GoSem.ClaimMapViews
import Derived.JoinedTies
import Derived.KernelRfl
namespace Go.Proofs.Ytdfekdeojahmmab
/- THE CELL 'sum', in the pinned program and in every row, IS THE sha256 OF THE DUMP (.gsa) THAT YtdfekdeojahmmabProg.lean LOADS. Nothing in Lean hashes anything: it is a label: what it is worth is what the hold of that sum in a sandbox is worth. -/
noncomputable def Try.pinned : Pinned := { name := "ytdfekdeojahmmab", sum := "fd4781a7ebcb240b86e9a2adddbc2d1132a70302c8ccc9a322bbe28383d51ec3", checked := Try.checked }
namespace Rows
def none {H : Type} : Left H := { results := [], args := [] }

/-- 'laws.FnExactEqualSyntax': WHATEVER THE INPUT: true; the input reads as it did. -/
def fnExactEqualSyntaxSpec : ChangeSpec := { name := "fnExactEqualSyntax", fn := fun _ => fun
  | [d1, d2] => { results := [.lit (.bool true)], args := [d1, d2] }
  | _ => none }
def fnExactEqualSyntaxRow : OpenClaim := { program := "ytdfekdeojahmmab", sum := "fd4781a7ebcb240b86e9a2adddbc2d1132a70302c8ccc9a322bbe28383d51ec3", func := "loop.example/g03220/laws.FnExactEqualSyntax", spec := "fnExactEqualSyntax", recurses := true, loops := true, apart := false }
def FnExactEqualSyntaxSaid : Prop := fnExactEqualSyntaxRow.holds Try.pinned (OpenSpec.ofChange fnExactEqualSyntaxSpec)

/-- ITS FALSE NEIGHBOUR: 'it returns false'. Refute it at one input. -/
def fnExactEqualSyntaxWrong : ChangeSpec := { name := "fnExactEqualSyntax", fn := fun _ => fun
  | [d1, d2] => { results := [.lit (.bool false)], args := [d1, d2] }
  | _ => none }
def FnExactEqualSyntaxWrongFalsely : Prop := fnExactEqualSyntaxRow.holds Try.pinned (OpenSpec.ofChange fnExactEqualSyntaxWrong)

/-- 'laws.FnExactFlippedScope': WHATEVER THE INPUT: true; the input reads as it did. -/
def fnExactFlippedScopeSpec : ChangeSpec := { name := "fnExactFlippedScope", fn := fun _ => fun
  | [d1, d2] => { results := [.lit (.bool true)], args := [d1, d2] }
  | _ => none }
def fnExactFlippedScopeRow : OpenClaim := { program := "ytdfekdeojahmmab", sum := "fd4781a7ebcb240b86e9a2adddbc2d1132a70302c8ccc9a322bbe28383d51ec3", func := "loop.example/g03220/laws.FnExactFlippedScope", spec := "fnExactFlippedScope", apart := false }
def FnExactFlippedScopeSaid : Prop := fnExactFlippedScopeRow.holds Try.pinned (OpenSpec.ofChange fnExactFlippedScopeSpec)

/-- ITS FALSE NEIGHBOUR: 'it returns false'. Refute it at one input. -/
def fnExactFlippedScopeWrong : ChangeSpec := { name := "fnExactFlippedScope", fn := fun _ => fun
  | [d1, d2] => { results := [.lit (.bool false)], args := [d1, d2] }
  | _ => none }
def FnExactFlippedScopeWrongFalsely : Prop := fnExactFlippedScopeRow.holds Try.pinned (OpenSpec.ofChange fnExactFlippedScopeWrong)

/-- 'laws.FnExactNumberDatum': WHATEVER THE INPUT: true; the input reads as it did. -/
def fnExactNumberDatumSpec : ChangeSpec := { name := "fnExactNumberDatum", fn := fun _ => fun
  | [d] => { results := [.lit (.bool true)], args := [d] }
  | _ => none }
def fnExactNumberDatumRow : OpenClaim := { program := "ytdfekdeojahmmab", sum := "fd4781a7ebcb240b86e9a2adddbc2d1132a70302c8ccc9a322bbe28383d51ec3", func := "loop.example/g03220/laws.FnExactNumberDatum", spec := "fnExactNumberDatum", recurses := true, apart := false }
def FnExactNumberDatumSaid : Prop := fnExactNumberDatumRow.holds Try.pinned (OpenSpec.ofChange fnExactNumberDatumSpec)

/-- ITS FALSE NEIGHBOUR: 'it returns false'. Refute it at one input. -/
def fnExactNumberDatumWrong : ChangeSpec := { name := "fnExactNumberDatum", fn := fun _ => fun
  | [d] => { results := [.lit (.bool false)], args := [d] }
  | _ => none }
def FnExactNumberDatumWrongFalsely : Prop := fnExactNumberDatumRow.holds Try.pinned (OpenSpec.ofChange fnExactNumberDatumWrong)

/-- 'laws.FnExactStringDatum': WHATEVER THE INPUT: true; the input reads as it did. -/
def fnExactStringDatumSpec : ChangeSpec := { name := "fnExactStringDatum", fn := fun _ => fun
  | [d] => { results := [.lit (.bool true)], args := [d] }
  | _ => none }
def fnExactStringDatumRow : OpenClaim := { program := "ytdfekdeojahmmab", sum := "fd4781a7ebcb240b86e9a2adddbc2d1132a70302c8ccc9a322bbe28383d51ec3", func := "loop.example/g03220/laws.FnExactStringDatum", spec := "fnExactStringDatum", recurses := true, apart := false }
def FnExactStringDatumSaid : Prop := fnExactStringDatumRow.holds Try.pinned (OpenSpec.ofChange fnExactStringDatumSpec)

/-- ITS FALSE NEIGHBOUR: 'it returns false'. Refute it at one input. -/
def fnExactStringDatumWrong : ChangeSpec := { name := "fnExactStringDatum", fn := fun _ => fun
  | [d] => { results := [.lit (.bool false)], args := [d] }
  | _ => none }
def FnExactStringDatumWrongFalsely : Prop := fnExactStringDatumRow.holds Try.pinned (OpenSpec.ofChange fnExactStringDatumWrong)

/-- 'laws.FnScopeSets': WHATEVER THE INPUT: true; the input reads as it did. -/
def fnScopeSetsSpec : ChangeSpec := { name := "fnScopeSets", fn := fun _ => fun
  | [d] => { results := [.lit (.bool true)], args := [d] }
  | _ => none }
def fnScopeSetsRow : OpenClaim := { program := "ytdfekdeojahmmab", sum := "fd4781a7ebcb240b86e9a2adddbc2d1132a70302c8ccc9a322bbe28383d51ec3", func := "loop.example/g03220/laws.FnScopeSets", spec := "fnScopeSets", apart := false }
def FnScopeSetsSaid : Prop := fnScopeSetsRow.holds Try.pinned (OpenSpec.ofChange fnScopeSetsSpec)

/-- ITS FALSE NEIGHBOUR: 'it returns false'. Refute it at one input. -/
def fnScopeSetsWrong : ChangeSpec := { name := "fnScopeSets", fn := fun _ => fun
  | [d] => { results := [.lit (.bool false)], args := [d] }
  | _ => none }
def FnScopeSetsWrongFalsely : Prop := fnScopeSetsRow.holds Try.pinned (OpenSpec.ofChange fnScopeSetsWrong)

/-- 'laws.FnExactIsBinding': WHATEVER THE INPUT: true; the input reads as it did. -/
def fnExactIsBindingSpec : ChangeSpec := { name := "fnExactIsBinding", fn := fun _ => fun
  | [d] => { results := [.lit (.bool true)], args := [d] }
  | _ => none }
def fnExactIsBindingRow : OpenClaim := { program := "ytdfekdeojahmmab", sum := "fd4781a7ebcb240b86e9a2adddbc2d1132a70302c8ccc9a322bbe28383d51ec3", func := "loop.example/g03220/laws.FnExactIsBinding", spec := "fnExactIsBinding", apart := false }
def FnExactIsBindingSaid : Prop := fnExactIsBindingRow.holds Try.pinned (OpenSpec.ofChange fnExactIsBindingSpec)

/-- ITS FALSE NEIGHBOUR: 'it returns false'. Refute it at one input. -/
def fnExactIsBindingWrong : ChangeSpec := { name := "fnExactIsBinding", fn := fun _ => fun
  | [d] => { results := [.lit (.bool false)], args := [d] }
  | _ => none }
def FnExactIsBindingWrongFalsely : Prop := fnExactIsBindingRow.holds Try.pinned (OpenSpec.ofChange fnExactIsBindingWrong)

/-- 'laws.FnExactSymbolDatum': WHATEVER THE INPUT: true; the input reads as it did. -/
def fnExactSymbolDatumSpec : ChangeSpec := { name := "fnExactSymbolDatum", fn := fun _ => fun
  | [d] => { results := [.lit (.bool true)], args := [d] }
  | _ => none }
def fnExactSymbolDatumRow : OpenClaim := { program := "ytdfekdeojahmmab", sum := "fd4781a7ebcb240b86e9a2adddbc2d1132a70302c8ccc9a322bbe28383d51ec3", func := "loop.example/g03220/laws.FnExactSymbolDatum", spec := "fnExactSymbolDatum", recurses := true, apart := false }
def FnExactSymbolDatumSaid : Prop := fnExactSymbolDatumRow.holds Try.pinned (OpenSpec.ofChange fnExactSymbolDatumSpec)

/-- ITS FALSE NEIGHBOUR: 'it returns false'. Refute it at one input. -/
def fnExactSymbolDatumWrong : ChangeSpec := { name := "fnExactSymbolDatum", fn := fun _ => fun
  | [d] => { results := [.lit (.bool false)], args := [d] }
  | _ => none }
def FnExactSymbolDatumWrongFalsely : Prop := fnExactSymbolDatumRow.holds Try.pinned (OpenSpec.ofChange fnExactSymbolDatumWrong)

/-- 'laws.FnExactIsDatum': WHATEVER THE INPUT: true; the input reads as it did. -/
def fnExactIsDatumSpec : ChangeSpec := { name := "fnExactIsDatum", fn := fun _ => fun
  | [d] => { results := [.lit (.bool true)], args := [d] }
  | _ => none }
def fnExactIsDatumRow : OpenClaim := { program := "ytdfekdeojahmmab", sum := "fd4781a7ebcb240b86e9a2adddbc2d1132a70302c8ccc9a322bbe28383d51ec3", func := "loop.example/g03220/laws.FnExactIsDatum", spec := "fnExactIsDatum", recurses := true, loops := true, apart := false }
def FnExactIsDatumSaid : Prop := fnExactIsDatumRow.holds Try.pinned (OpenSpec.ofChange fnExactIsDatumSpec)

/-- ITS FALSE NEIGHBOUR: 'it returns false'. Refute it at one input. -/
def fnExactIsDatumWrong : ChangeSpec := { name := "fnExactIsDatum", fn := fun _ => fun
  | [d] => { results := [.lit (.bool false)], args := [d] }
  | _ => none }
def FnExactIsDatumWrongFalsely : Prop := fnExactIsDatumRow.holds Try.pinned (OpenSpec.ofChange fnExactIsDatumWrong)

/-- 'laws.FnExactEqualRules': WHATEVER THE INPUT: true; the input reads as it did. -/
def fnExactEqualRulesSpec : ChangeSpec := { name := "fnExactEqualRules", fn := fun _ => fun
  | [d1, d2] => { results := [.lit (.bool true)], args := [d1, d2] }
  | _ => none }
def fnExactEqualRulesRow : OpenClaim := { program := "ytdfekdeojahmmab", sum := "fd4781a7ebcb240b86e9a2adddbc2d1132a70302c8ccc9a322bbe28383d51ec3", func := "loop.example/g03220/laws.FnExactEqualRules", spec := "fnExactEqualRules", recurses := true, loops := true, apart := false }
def FnExactEqualRulesSaid : Prop := fnExactEqualRulesRow.holds Try.pinned (OpenSpec.ofChange fnExactEqualRulesSpec)

/-- ITS FALSE NEIGHBOUR: 'it returns false'. Refute it at one input. -/
def fnExactEqualRulesWrong : ChangeSpec := { name := "fnExactEqualRules", fn := fun _ => fun
  | [d1, d2] => { results := [.lit (.bool false)], args := [d1, d2] }
  | _ => none }
def FnExactEqualRulesWrongFalsely : Prop := fnExactEqualRulesRow.holds Try.pinned (OpenSpec.ofChange fnExactEqualRulesWrong)

/-- 'laws.FnExactAreData': WHATEVER THE INPUT: true; the input reads as it did. -/
def fnExactAreDataSpec : ChangeSpec := { name := "fnExactAreData", fn := fun _ => fun
  | [d] => { results := [.lit (.bool true)], args := [d] }
  | _ => none }
def fnExactAreDataRow : OpenClaim := { program := "ytdfekdeojahmmab", sum := "fd4781a7ebcb240b86e9a2adddbc2d1132a70302c8ccc9a322bbe28383d51ec3", func := "loop.example/g03220/laws.FnExactAreData", spec := "fnExactAreData", recurses := true, loops := true, apart := false }
def FnExactAreDataSaid : Prop := fnExactAreDataRow.holds Try.pinned (OpenSpec.ofChange fnExactAreDataSpec)

/-- ITS FALSE NEIGHBOUR: 'it returns false'. Refute it at one input. -/
def fnExactAreDataWrong : ChangeSpec := { name := "fnExactAreData", fn := fun _ => fun
  | [d] => { results := [.lit (.bool false)], args := [d] }
  | _ => none }
def FnExactAreDataWrongFalsely : Prop := fnExactAreDataRow.holds Try.pinned (OpenSpec.ofChange fnExactAreDataWrong)

/-- 'laws.FnExactEqualCaptures': WHATEVER THE INPUT: true; the input reads as it did. -/
def fnExactEqualCapturesSpec : ChangeSpec := { name := "fnExactEqualCaptures", fn := fun _ => fun
  | [d1, d2] => { results := [.lit (.bool true)], args := [d1, d2] }
  | _ => none }
def fnExactEqualCapturesRow : OpenClaim := { program := "ytdfekdeojahmmab", sum := "fd4781a7ebcb240b86e9a2adddbc2d1132a70302c8ccc9a322bbe28383d51ec3", func := "loop.example/g03220/laws.FnExactEqualCaptures", spec := "fnExactEqualCaptures", recurses := true, loops := true, apart := false }
def FnExactEqualCapturesSaid : Prop := fnExactEqualCapturesRow.holds Try.pinned (OpenSpec.ofChange fnExactEqualCapturesSpec)

/-- ITS FALSE NEIGHBOUR: 'it returns false'. Refute it at one input. -/
def fnExactEqualCapturesWrong : ChangeSpec := { name := "fnExactEqualCaptures", fn := fun _ => fun
  | [d1, d2] => { results := [.lit (.bool false)], args := [d1, d2] }
  | _ => none }
def FnExactEqualCapturesWrongFalsely : Prop := fnExactEqualCapturesRow.holds Try.pinned (OpenSpec.ofChange fnExactEqualCapturesWrong)

/-- 'laws.FnExactAreBindings': WHATEVER THE INPUT: true; the input reads as it did. -/
def fnExactAreBindingsSpec : ChangeSpec := { name := "fnExactAreBindings", fn := fun _ => fun
  | [d] => { results := [.lit (.bool true)], args := [d] }
  | _ => none }
def fnExactAreBindingsRow : OpenClaim := { program := "ytdfekdeojahmmab", sum := "fd4781a7ebcb240b86e9a2adddbc2d1132a70302c8ccc9a322bbe28383d51ec3", func := "loop.example/g03220/laws.FnExactAreBindings", spec := "fnExactAreBindings", apart := false }
def FnExactAreBindingsSaid : Prop := fnExactAreBindingsRow.holds Try.pinned (OpenSpec.ofChange fnExactAreBindingsSpec)

/-- ITS FALSE NEIGHBOUR: 'it returns false'. Refute it at one input. -/
def fnExactAreBindingsWrong : ChangeSpec := { name := "fnExactAreBindings", fn := fun _ => fun
  | [d] => { results := [.lit (.bool false)], args := [d] }
  | _ => none }
def FnExactAreBindingsWrongFalsely : Prop := fnExactAreBindingsRow.holds Try.pinned (OpenSpec.ofChange fnExactAreBindingsWrong)

/-- 'laws.FnExactIsSyntax': WHATEVER THE INPUT: true; the input reads as it did. -/
def fnExactIsSyntaxSpec : ChangeSpec := { name := "fnExactIsSyntax", fn := fun _ => fun
  | [d] => { results := [.lit (.bool true)], args := [d] }
  | _ => none }
def fnExactIsSyntaxRow : OpenClaim := { program := "ytdfekdeojahmmab", sum := "fd4781a7ebcb240b86e9a2adddbc2d1132a70302c8ccc9a322bbe28383d51ec3", func := "loop.example/g03220/laws.FnExactIsSyntax", spec := "fnExactIsSyntax", recurses := true, loops := true, apart := false }
def FnExactIsSyntaxSaid : Prop := fnExactIsSyntaxRow.holds Try.pinned (OpenSpec.ofChange fnExactIsSyntaxSpec)

/-- ITS FALSE NEIGHBOUR: 'it returns false'. Refute it at one input. -/
def fnExactIsSyntaxWrong : ChangeSpec := { name := "fnExactIsSyntax", fn := fun _ => fun
  | [d] => { results := [.lit (.bool false)], args := [d] }
  | _ => none }
def FnExactIsSyntaxWrongFalsely : Prop := fnExactIsSyntaxRow.holds Try.pinned (OpenSpec.ofChange fnExactIsSyntaxWrong)

/-- 'laws.FnExactIsIdentifier': WHATEVER THE INPUT: true; the input reads as it did. -/
def fnExactIsIdentifierSpec : ChangeSpec := { name := "fnExactIsIdentifier", fn := fun _ => fun
  | [d] => { results := [.lit (.bool true)], args := [d] }
  | _ => none }
def fnExactIsIdentifierRow : OpenClaim := { program := "ytdfekdeojahmmab", sum := "fd4781a7ebcb240b86e9a2adddbc2d1132a70302c8ccc9a322bbe28383d51ec3", func := "loop.example/g03220/laws.FnExactIsIdentifier", spec := "fnExactIsIdentifier", recurses := true, loops := true, apart := false }
def FnExactIsIdentifierSaid : Prop := fnExactIsIdentifierRow.holds Try.pinned (OpenSpec.ofChange fnExactIsIdentifierSpec)

/-- ITS FALSE NEIGHBOUR: 'it returns false'. Refute it at one input. -/
def fnExactIsIdentifierWrong : ChangeSpec := { name := "fnExactIsIdentifier", fn := fun _ => fun
  | [d] => { results := [.lit (.bool false)], args := [d] }
  | _ => none }
def FnExactIsIdentifierWrongFalsely : Prop := fnExactIsIdentifierRow.holds Try.pinned (OpenSpec.ofChange fnExactIsIdentifierWrong)

/-- 'laws.FnExactIsEllipsis': WHATEVER THE INPUT: true; the input reads as it did. -/
def fnExactIsEllipsisSpec : ChangeSpec := { name := "fnExactIsEllipsis", fn := fun _ => fun
  | [d] => { results := [.lit (.bool true)], args := [d] }
  | _ => none }
def fnExactIsEllipsisRow : OpenClaim := { program := "ytdfekdeojahmmab", sum := "fd4781a7ebcb240b86e9a2adddbc2d1132a70302c8ccc9a322bbe28383d51ec3", func := "loop.example/g03220/laws.FnExactIsEllipsis", spec := "fnExactIsEllipsis", recurses := true, loops := true, apart := false }
def FnExactIsEllipsisSaid : Prop := fnExactIsEllipsisRow.holds Try.pinned (OpenSpec.ofChange fnExactIsEllipsisSpec)

/-- ITS FALSE NEIGHBOUR: 'it returns false'. Refute it at one input. -/
def fnExactIsEllipsisWrong : ChangeSpec := { name := "fnExactIsEllipsis", fn := fun _ => fun
  | [d] => { results := [.lit (.bool false)], args := [d] }
  | _ => none }
def FnExactIsEllipsisWrongFalsely : Prop := fnExactIsEllipsisRow.holds Try.pinned (OpenSpec.ofChange fnExactIsEllipsisWrong)

/-- 'laws.FnSwapTwice': WHATEVER THE INPUT: true; the input reads as it did. -/
def fnSwapTwiceSpec : ChangeSpec := { name := "fnSwapTwice", fn := fun _ => fun
  | [d] => { results := [.lit (.bool true)], args := [d] }
  | _ => none }
def fnSwapTwiceRow : OpenClaim := { program := "ytdfekdeojahmmab", sum := "fd4781a7ebcb240b86e9a2adddbc2d1132a70302c8ccc9a322bbe28383d51ec3", func := "loop.example/g03220/laws.FnSwapTwice", spec := "fnSwapTwice", recurses := true, apart := false }
def FnSwapTwiceSaid : Prop := fnSwapTwiceRow.holds Try.pinned (OpenSpec.ofChange fnSwapTwiceSpec)

/-- ITS FALSE NEIGHBOUR: 'it returns false'. Refute it at one input. -/
def fnSwapTwiceWrong : ChangeSpec := { name := "fnSwapTwice", fn := fun _ => fun
  | [d] => { results := [.lit (.bool false)], args := [d] }
  | _ => none }
def FnSwapTwiceWrongFalsely : Prop := fnSwapTwiceRow.holds Try.pinned (OpenSpec.ofChange fnSwapTwiceWrong)

/-- 'laws.FnExactSymbolsOf': WHATEVER THE INPUT: true; the input reads as it did. -/
def fnExactSymbolsOfSpec : ChangeSpec := { name := "fnExactSymbolsOf", fn := fun _ => fun
  | [d] => { results := [.lit (.bool true)], args := [d] }
  | _ => none }
def fnExactSymbolsOfRow : OpenClaim := { program := "ytdfekdeojahmmab", sum := "fd4781a7ebcb240b86e9a2adddbc2d1132a70302c8ccc9a322bbe28383d51ec3", func := "loop.example/g03220/laws.FnExactSymbolsOf", spec := "fnExactSymbolsOf", recurses := true, loops := true, apart := false }
def FnExactSymbolsOfSaid : Prop := fnExactSymbolsOfRow.holds Try.pinned (OpenSpec.ofChange fnExactSymbolsOfSpec)

/-- ITS FALSE NEIGHBOUR: 'it returns false'. Refute it at one input. -/
def fnExactSymbolsOfWrong : ChangeSpec := { name := "fnExactSymbolsOf", fn := fun _ => fun
  | [d] => { results := [.lit (.bool false)], args := [d] }
  | _ => none }
def FnExactSymbolsOfWrongFalsely : Prop := fnExactSymbolsOfRow.holds Try.pinned (OpenSpec.ofChange fnExactSymbolsOfWrong)

/-- 'laws.FnExactSameIdentifier': WHATEVER THE INPUT: true; the input reads as it did. -/
def fnExactSameIdentifierSpec : ChangeSpec := { name := "fnExactSameIdentifier", fn := fun _ => fun
  | [d1, d2] => { results := [.lit (.bool true)], args := [d1, d2] }
  | _ => none }
def fnExactSameIdentifierRow : OpenClaim := { program := "ytdfekdeojahmmab", sum := "fd4781a7ebcb240b86e9a2adddbc2d1132a70302c8ccc9a322bbe28383d51ec3", func := "loop.example/g03220/laws.FnExactSameIdentifier", spec := "fnExactSameIdentifier", recurses := true, loops := true, apart := false }
def FnExactSameIdentifierSaid : Prop := fnExactSameIdentifierRow.holds Try.pinned (OpenSpec.ofChange fnExactSameIdentifierSpec)

/-- ITS FALSE NEIGHBOUR: 'it returns false'. Refute it at one input. -/
def fnExactSameIdentifierWrong : ChangeSpec := { name := "fnExactSameIdentifier", fn := fun _ => fun
  | [d1, d2] => { results := [.lit (.bool false)], args := [d1, d2] }
  | _ => none }
def FnExactSameIdentifierWrongFalsely : Prop := fnExactSameIdentifierRow.holds Try.pinned (OpenSpec.ofChange fnExactSameIdentifierWrong)

/- THE SECOND FORM. 'bulk': how many values and letters a reading holds, each counted each time it is reached (what is shared counts as often as it is met; a slice's spare places count too). A statement '..UptoSaid' is the law's where the arguments, and the package variables that the reading takes, are together of bulk at most 1048576: NARROWER than '..Said'. Prove '..Said' where nothing that the law and all that it calls make is longer than what came in: it says more and counts as full. Else prove '..UptoSaid'. A law counts once. -/
mutual
def uptoBulk {H : Type} : DataW H → Nat
  | .lit (.string bytes) => bytes.length + 1
  | .lit _ => 1
  | .nil => 1
  | .ptr d => uptoBulk d + 1
  | .slice elems spare => uptoBulkAll elems + uptoBulkAll spare + 1
  | .agg parts => uptoBulkAll parts + 1
  | .iface _ d => uptoBulk d + 1
  | .map entries => uptoBulkEntries entries + 1
  | .held _ => 1
def uptoBulkAll {H : Type} : List (DataW H) → Nat
  | [] => 0
  | d :: r => uptoBulk d + uptoBulkAll r
def uptoBulkEntries {H : Type} : List (Lit × DataW H) → Nat
  | [] => 0
  | x :: r => uptoBulkEntry x + uptoBulkEntries r
def uptoBulkEntry {H : Type} : Lit × DataW H → Nat
  | (.string bytes, d) => bytes.length + uptoBulk d + 1
  | (_, d) => uptoBulk d + 1
 end
def uptoSmall : (H : Type) → List (DataW H) → Bool := fun _ ds => decide (uptoBulkAll ds ≤ 1048576)
def OpenSpec.upto (s : _root_.Go.ChangeSpec) : _root_.Go.OpenSpec := { _root_.Go.OpenSpec.ofChange s with cond := some uptoSmall }

/-- 'laws.FnExactEqualSyntax', WHERE WHAT IT READS IS OF BULK AT MOST 1048576: true; the input reads as it did. -/
def fnExactEqualSyntaxUptoRow : OpenClaim := { program := "ytdfekdeojahmmab", sum := "fd4781a7ebcb240b86e9a2adddbc2d1132a70302c8ccc9a322bbe28383d51ec3", func := "loop.example/g03220/laws.FnExactEqualSyntax", spec := "fnExactEqualSyntax", recurses := true, loops := true, apart := false, narrowed := true }
def FnExactEqualSyntaxUptoSaid : Prop := fnExactEqualSyntaxUptoRow.holds Try.pinned (OpenSpec.upto fnExactEqualSyntaxSpec)

/-- 'laws.FnExactFlippedScope', WHERE WHAT IT READS IS OF BULK AT MOST 1048576: true; the input reads as it did. -/
def fnExactFlippedScopeUptoRow : OpenClaim := { program := "ytdfekdeojahmmab", sum := "fd4781a7ebcb240b86e9a2adddbc2d1132a70302c8ccc9a322bbe28383d51ec3", func := "loop.example/g03220/laws.FnExactFlippedScope", spec := "fnExactFlippedScope", apart := false, narrowed := true }
def FnExactFlippedScopeUptoSaid : Prop := fnExactFlippedScopeUptoRow.holds Try.pinned (OpenSpec.upto fnExactFlippedScopeSpec)

/-- 'laws.FnExactNumberDatum', WHERE WHAT IT READS IS OF BULK AT MOST 1048576: true; the input reads as it did. -/
def fnExactNumberDatumUptoRow : OpenClaim := { program := "ytdfekdeojahmmab", sum := "fd4781a7ebcb240b86e9a2adddbc2d1132a70302c8ccc9a322bbe28383d51ec3", func := "loop.example/g03220/laws.FnExactNumberDatum", spec := "fnExactNumberDatum", recurses := true, apart := false, narrowed := true }
def FnExactNumberDatumUptoSaid : Prop := fnExactNumberDatumUptoRow.holds Try.pinned (OpenSpec.upto fnExactNumberDatumSpec)

/-- 'laws.FnExactStringDatum', WHERE WHAT IT READS IS OF BULK AT MOST 1048576: true; the input reads as it did. -/
def fnExactStringDatumUptoRow : OpenClaim := { program := "ytdfekdeojahmmab", sum := "fd4781a7ebcb240b86e9a2adddbc2d1132a70302c8ccc9a322bbe28383d51ec3", func := "loop.example/g03220/laws.FnExactStringDatum", spec := "fnExactStringDatum", recurses := true, apart := false, narrowed := true }
def FnExactStringDatumUptoSaid : Prop := fnExactStringDatumUptoRow.holds Try.pinned (OpenSpec.upto fnExactStringDatumSpec)

/-- 'laws.FnScopeSets', WHERE WHAT IT READS IS OF BULK AT MOST 1048576: true; the input reads as it did. -/
def fnScopeSetsUptoRow : OpenClaim := { program := "ytdfekdeojahmmab", sum := "fd4781a7ebcb240b86e9a2adddbc2d1132a70302c8ccc9a322bbe28383d51ec3", func := "loop.example/g03220/laws.FnScopeSets", spec := "fnScopeSets", apart := false, narrowed := true }
def FnScopeSetsUptoSaid : Prop := fnScopeSetsUptoRow.holds Try.pinned (OpenSpec.upto fnScopeSetsSpec)

/-- 'laws.FnExactIsBinding', WHERE WHAT IT READS IS OF BULK AT MOST 1048576: true; the input reads as it did. -/
def fnExactIsBindingUptoRow : OpenClaim := { program := "ytdfekdeojahmmab", sum := "fd4781a7ebcb240b86e9a2adddbc2d1132a70302c8ccc9a322bbe28383d51ec3", func := "loop.example/g03220/laws.FnExactIsBinding", spec := "fnExactIsBinding", apart := false, narrowed := true }
def FnExactIsBindingUptoSaid : Prop := fnExactIsBindingUptoRow.holds Try.pinned (OpenSpec.upto fnExactIsBindingSpec)

/-- 'laws.FnExactSymbolDatum', WHERE WHAT IT READS IS OF BULK AT MOST 1048576: true; the input reads as it did. -/
def fnExactSymbolDatumUptoRow : OpenClaim := { program := "ytdfekdeojahmmab", sum := "fd4781a7ebcb240b86e9a2adddbc2d1132a70302c8ccc9a322bbe28383d51ec3", func := "loop.example/g03220/laws.FnExactSymbolDatum", spec := "fnExactSymbolDatum", recurses := true, apart := false, narrowed := true }
def FnExactSymbolDatumUptoSaid : Prop := fnExactSymbolDatumUptoRow.holds Try.pinned (OpenSpec.upto fnExactSymbolDatumSpec)

/-- 'laws.FnExactIsDatum', WHERE WHAT IT READS IS OF BULK AT MOST 1048576: true; the input reads as it did. -/
def fnExactIsDatumUptoRow : OpenClaim := { program := "ytdfekdeojahmmab", sum := "fd4781a7ebcb240b86e9a2adddbc2d1132a70302c8ccc9a322bbe28383d51ec3", func := "loop.example/g03220/laws.FnExactIsDatum", spec := "fnExactIsDatum", recurses := true, loops := true, apart := false, narrowed := true }
def FnExactIsDatumUptoSaid : Prop := fnExactIsDatumUptoRow.holds Try.pinned (OpenSpec.upto fnExactIsDatumSpec)

/-- 'laws.FnExactEqualRules', WHERE WHAT IT READS IS OF BULK AT MOST 1048576: true; the input reads as it did. -/
def fnExactEqualRulesUptoRow : OpenClaim := { program := "ytdfekdeojahmmab", sum := "fd4781a7ebcb240b86e9a2adddbc2d1132a70302c8ccc9a322bbe28383d51ec3", func := "loop.example/g03220/laws.FnExactEqualRules", spec := "fnExactEqualRules", recurses := true, loops := true, apart := false, narrowed := true }
def FnExactEqualRulesUptoSaid : Prop := fnExactEqualRulesUptoRow.holds Try.pinned (OpenSpec.upto fnExactEqualRulesSpec)

/-- 'laws.FnExactAreData', WHERE WHAT IT READS IS OF BULK AT MOST 1048576: true; the input reads as it did. -/
def fnExactAreDataUptoRow : OpenClaim := { program := "ytdfekdeojahmmab", sum := "fd4781a7ebcb240b86e9a2adddbc2d1132a70302c8ccc9a322bbe28383d51ec3", func := "loop.example/g03220/laws.FnExactAreData", spec := "fnExactAreData", recurses := true, loops := true, apart := false, narrowed := true }
def FnExactAreDataUptoSaid : Prop := fnExactAreDataUptoRow.holds Try.pinned (OpenSpec.upto fnExactAreDataSpec)

/-- 'laws.FnExactEqualCaptures', WHERE WHAT IT READS IS OF BULK AT MOST 1048576: true; the input reads as it did. -/
def fnExactEqualCapturesUptoRow : OpenClaim := { program := "ytdfekdeojahmmab", sum := "fd4781a7ebcb240b86e9a2adddbc2d1132a70302c8ccc9a322bbe28383d51ec3", func := "loop.example/g03220/laws.FnExactEqualCaptures", spec := "fnExactEqualCaptures", recurses := true, loops := true, apart := false, narrowed := true }
def FnExactEqualCapturesUptoSaid : Prop := fnExactEqualCapturesUptoRow.holds Try.pinned (OpenSpec.upto fnExactEqualCapturesSpec)

/-- 'laws.FnExactAreBindings', WHERE WHAT IT READS IS OF BULK AT MOST 1048576: true; the input reads as it did. -/
def fnExactAreBindingsUptoRow : OpenClaim := { program := "ytdfekdeojahmmab", sum := "fd4781a7ebcb240b86e9a2adddbc2d1132a70302c8ccc9a322bbe28383d51ec3", func := "loop.example/g03220/laws.FnExactAreBindings", spec := "fnExactAreBindings", apart := false, narrowed := true }
def FnExactAreBindingsUptoSaid : Prop := fnExactAreBindingsUptoRow.holds Try.pinned (OpenSpec.upto fnExactAreBindingsSpec)

/-- 'laws.FnExactIsSyntax', WHERE WHAT IT READS IS OF BULK AT MOST 1048576: true; the input reads as it did. -/
def fnExactIsSyntaxUptoRow : OpenClaim := { program := "ytdfekdeojahmmab", sum := "fd4781a7ebcb240b86e9a2adddbc2d1132a70302c8ccc9a322bbe28383d51ec3", func := "loop.example/g03220/laws.FnExactIsSyntax", spec := "fnExactIsSyntax", recurses := true, loops := true, apart := false, narrowed := true }
def FnExactIsSyntaxUptoSaid : Prop := fnExactIsSyntaxUptoRow.holds Try.pinned (OpenSpec.upto fnExactIsSyntaxSpec)

/-- 'laws.FnExactIsIdentifier', WHERE WHAT IT READS IS OF BULK AT MOST 1048576: true; the input reads as it did. -/
def fnExactIsIdentifierUptoRow : OpenClaim := { program := "ytdfekdeojahmmab", sum := "fd4781a7ebcb240b86e9a2adddbc2d1132a70302c8ccc9a322bbe28383d51ec3", func := "loop.example/g03220/laws.FnExactIsIdentifier", spec := "fnExactIsIdentifier", recurses := true, loops := true, apart := false, narrowed := true }
def FnExactIsIdentifierUptoSaid : Prop := fnExactIsIdentifierUptoRow.holds Try.pinned (OpenSpec.upto fnExactIsIdentifierSpec)

/-- 'laws.FnExactIsEllipsis', WHERE WHAT IT READS IS OF BULK AT MOST 1048576: true; the input reads as it did. -/
def fnExactIsEllipsisUptoRow : OpenClaim := { program := "ytdfekdeojahmmab", sum := "fd4781a7ebcb240b86e9a2adddbc2d1132a70302c8ccc9a322bbe28383d51ec3", func := "loop.example/g03220/laws.FnExactIsEllipsis", spec := "fnExactIsEllipsis", recurses := true, loops := true, apart := false, narrowed := true }
def FnExactIsEllipsisUptoSaid : Prop := fnExactIsEllipsisUptoRow.holds Try.pinned (OpenSpec.upto fnExactIsEllipsisSpec)

/-- 'laws.FnSwapTwice', WHERE WHAT IT READS IS OF BULK AT MOST 1048576: true; the input reads as it did. -/
def fnSwapTwiceUptoRow : OpenClaim := { program := "ytdfekdeojahmmab", sum := "fd4781a7ebcb240b86e9a2adddbc2d1132a70302c8ccc9a322bbe28383d51ec3", func := "loop.example/g03220/laws.FnSwapTwice", spec := "fnSwapTwice", recurses := true, apart := false, narrowed := true }
def FnSwapTwiceUptoSaid : Prop := fnSwapTwiceUptoRow.holds Try.pinned (OpenSpec.upto fnSwapTwiceSpec)

/-- 'laws.FnExactSymbolsOf', WHERE WHAT IT READS IS OF BULK AT MOST 1048576: true; the input reads as it did. -/
def fnExactSymbolsOfUptoRow : OpenClaim := { program := "ytdfekdeojahmmab", sum := "fd4781a7ebcb240b86e9a2adddbc2d1132a70302c8ccc9a322bbe28383d51ec3", func := "loop.example/g03220/laws.FnExactSymbolsOf", spec := "fnExactSymbolsOf", recurses := true, loops := true, apart := false, narrowed := true }
def FnExactSymbolsOfUptoSaid : Prop := fnExactSymbolsOfUptoRow.holds Try.pinned (OpenSpec.upto fnExactSymbolsOfSpec)

/-- 'laws.FnExactSameIdentifier', WHERE WHAT IT READS IS OF BULK AT MOST 1048576: true; the input reads as it did. -/
def fnExactSameIdentifierUptoRow : OpenClaim := { program := "ytdfekdeojahmmab", sum := "fd4781a7ebcb240b86e9a2adddbc2d1132a70302c8ccc9a322bbe28383d51ec3", func := "loop.example/g03220/laws.FnExactSameIdentifier", spec := "fnExactSameIdentifier", recurses := true, loops := true, apart := false, narrowed := true }
def FnExactSameIdentifierUptoSaid : Prop := fnExactSameIdentifierUptoRow.holds Try.pinned (OpenSpec.upto fnExactSameIdentifierSpec)

end Rows
end Go.Proofs.Ytdfekdeojahmmab
