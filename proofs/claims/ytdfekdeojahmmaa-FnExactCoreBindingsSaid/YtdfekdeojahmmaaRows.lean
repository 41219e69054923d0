/-
  NARROWER THAN 'FOR EVERY INPUT', by the rows' own cells (each row's printed sentence says how): FnExactCountNodes: loops · FnExactDepthOf: loops · FnExactEqualData: loops · FnExactCountSyntax: loops · FnExactListDatum: loops.
  DERIVED. THE GIVEN ROWS OF THIS SEAT. 19 by the template 'for every input the law returns true; each argument reads behind the call as it read before'; 0 by the template 'total and deterministic' (their statements: YtdfekdeojahmmaaTotals.lean).
  GIVEN WITH THE SEED: the statements are not yours to turn. If you find one false, say at which input.
  Laid BY PROGRAM, IN A SANDBOX (cutbox-rows.mjs): the forced cells as the released guide's own fill.sh prints them over the translation 56574761e6df381c… (all of the seat's roots in one cut). By AI agents, Wed Nov 11 2026. No macro, syntax, notation, axiom, sorry.
-/
import Derived.Test.YtdfekdeojahmmaaChecked
import GoSem.Claim
import GoSem.ClaimJoined
import GoSem.ClaimMapViews
import Derived.JoinedTies
import Derived.KernelRfl
namespace Go.Proofs.Ytdfekdeojahmmaa
/- THE CELL 'sum', in the pinned program and in every row, IS THE sha256 OF THE DUMP (.gsa) THAT YtdfekdeojahmmaaProg.lean LOADS. Nothing in Lean hashes anything: it is a label: what it is worth is what the hold of that sum in a sandbox is worth. -/
noncomputable def Try.pinned : Pinned := { name := "ytdfekdeojahmmaa", sum := "56574761e6df381c72d911e6e7cdc03aa221bf641016640a5334aaf209fab833", checked := Try.checked }
namespace Rows
def none {H : Type} : Left H := { results := [], args := [] }

/-- 'laws.FnExactConstants': WHATEVER THE INPUT: true; the input reads as it did. -/
def fnExactConstantsSpec : ChangeSpec := { name := "fnExactConstants", fn := fun _ => fun
  | [] => { results := [.lit (.bool true)], args := [] }
  | _ => none }
def fnExactConstantsRow : OpenClaim := { program := "ytdfekdeojahmmaa", sum := "56574761e6df381c72d911e6e7cdc03aa221bf641016640a5334aaf209fab833", func := "loop.example/g03220/laws.FnExactConstants", spec := "fnExactConstants", apart := false }
def FnExactConstantsSaid : Prop := fnExactConstantsRow.holds Try.pinned (OpenSpec.ofChange fnExactConstantsSpec)

/-- ITS FALSE NEIGHBOUR: 'it returns false'. Refute it at one input. -/
def fnExactConstantsWrong : ChangeSpec := { name := "fnExactConstants", fn := fun _ => fun
  | [] => { results := [.lit (.bool false)], args := [] }
  | _ => none }
def FnExactConstantsWrongFalsely : Prop := fnExactConstantsRow.holds Try.pinned (OpenSpec.ofChange fnExactConstantsWrong)

/-- 'laws.FnExactKindOfScope': WHATEVER THE INPUT: true; the input reads as it did. -/
def fnExactKindOfScopeSpec : ChangeSpec := { name := "fnExactKindOfScope", fn := fun _ => fun
  | [d] => { results := [.lit (.bool true)], args := [d] }
  | _ => none }
def fnExactKindOfScopeRow : OpenClaim := { program := "ytdfekdeojahmmaa", sum := "56574761e6df381c72d911e6e7cdc03aa221bf641016640a5334aaf209fab833", func := "loop.example/g03220/laws.FnExactKindOfScope", spec := "fnExactKindOfScope", apart := false }
def FnExactKindOfScopeSaid : Prop := fnExactKindOfScopeRow.holds Try.pinned (OpenSpec.ofChange fnExactKindOfScopeSpec)

/-- ITS FALSE NEIGHBOUR: 'it returns false'. Refute it at one input. -/
def fnExactKindOfScopeWrong : ChangeSpec := { name := "fnExactKindOfScope", fn := fun _ => fun
  | [d] => { results := [.lit (.bool false)], args := [d] }
  | _ => none }
def FnExactKindOfScopeWrongFalsely : Prop := fnExactKindOfScopeRow.holds Try.pinned (OpenSpec.ofChange fnExactKindOfScopeWrong)

/-- 'laws.FnExactHasScope': WHATEVER THE INPUT: true; the input reads as it did. -/
def fnExactHasScopeSpec : ChangeSpec := { name := "fnExactHasScope", fn := fun _ => fun
  | [d1, d2] => { results := [.lit (.bool true)], args := [d1, d2] }
  | _ => none }
def fnExactHasScopeRow : OpenClaim := { program := "ytdfekdeojahmmaa", sum := "56574761e6df381c72d911e6e7cdc03aa221bf641016640a5334aaf209fab833", func := "loop.example/g03220/laws.FnExactHasScope", spec := "fnExactHasScope", apart := false }
def FnExactHasScopeSaid : Prop := fnExactHasScopeRow.holds Try.pinned (OpenSpec.ofChange fnExactHasScopeSpec)

/-- ITS FALSE NEIGHBOUR: 'it returns false'. Refute it at one input. -/
def fnExactHasScopeWrong : ChangeSpec := { name := "fnExactHasScope", fn := fun _ => fun
  | [d1, d2] => { results := [.lit (.bool false)], args := [d1, d2] }
  | _ => none }
def FnExactHasScopeWrongFalsely : Prop := fnExactHasScopeRow.holds Try.pinned (OpenSpec.ofChange fnExactHasScopeWrong)

/-- 'laws.FnExactFormNames': WHATEVER THE INPUT: true; the input reads as it did. -/
def fnExactFormNamesSpec : ChangeSpec := { name := "fnExactFormNames", fn := fun _ => fun
  | [] => { results := [.lit (.bool true)], args := [] }
  | _ => none }
def fnExactFormNamesRow : OpenClaim := { program := "ytdfekdeojahmmaa", sum := "56574761e6df381c72d911e6e7cdc03aa221bf641016640a5334aaf209fab833", func := "loop.example/g03220/laws.FnExactFormNames", spec := "fnExactFormNames", apart := false }
def FnExactFormNamesSaid : Prop := fnExactFormNamesRow.holds Try.pinned (OpenSpec.ofChange fnExactFormNamesSpec)

/-- ITS FALSE NEIGHBOUR: 'it returns false'. Refute it at one input. -/
def fnExactFormNamesWrong : ChangeSpec := { name := "fnExactFormNames", fn := fun _ => fun
  | [] => { results := [.lit (.bool false)], args := [] }
  | _ => none }
def FnExactFormNamesWrongFalsely : Prop := fnExactFormNamesRow.holds Try.pinned (OpenSpec.ofChange fnExactFormNamesWrong)

/-- 'laws.FnExactPrimitiveNames': WHATEVER THE INPUT: true; the input reads as it did. -/
def fnExactPrimitiveNamesSpec : ChangeSpec := { name := "fnExactPrimitiveNames", fn := fun _ => fun
  | [] => { results := [.lit (.bool true)], args := [] }
  | _ => none }
def fnExactPrimitiveNamesRow : OpenClaim := { program := "ytdfekdeojahmmaa", sum := "56574761e6df381c72d911e6e7cdc03aa221bf641016640a5334aaf209fab833", func := "loop.example/g03220/laws.FnExactPrimitiveNames", spec := "fnExactPrimitiveNames", apart := false }
def FnExactPrimitiveNamesSaid : Prop := fnExactPrimitiveNamesRow.holds Try.pinned (OpenSpec.ofChange fnExactPrimitiveNamesSpec)

/-- ITS FALSE NEIGHBOUR: 'it returns false'. Refute it at one input. -/
def fnExactPrimitiveNamesWrong : ChangeSpec := { name := "fnExactPrimitiveNames", fn := fun _ => fun
  | [] => { results := [.lit (.bool false)], args := [] }
  | _ => none }
def FnExactPrimitiveNamesWrongFalsely : Prop := fnExactPrimitiveNamesRow.holds Try.pinned (OpenSpec.ofChange fnExactPrimitiveNamesWrong)

/-- 'laws.FnExactIsSymbol': WHATEVER THE INPUT: true; the input reads as it did. -/
def fnExactIsSymbolSpec : ChangeSpec := { name := "fnExactIsSymbol", fn := fun _ => fun
  | [d] => { results := [.lit (.bool true)], args := [d] }
  | _ => none }
def fnExactIsSymbolRow : OpenClaim := { program := "ytdfekdeojahmmaa", sum := "56574761e6df381c72d911e6e7cdc03aa221bf641016640a5334aaf209fab833", func := "loop.example/g03220/laws.FnExactIsSymbol", spec := "fnExactIsSymbol", apart := false }
def FnExactIsSymbolSaid : Prop := fnExactIsSymbolRow.holds Try.pinned (OpenSpec.ofChange fnExactIsSymbolSpec)

/-- ITS FALSE NEIGHBOUR: 'it returns false'. Refute it at one input. -/
def fnExactIsSymbolWrong : ChangeSpec := { name := "fnExactIsSymbol", fn := fun _ => fun
  | [d] => { results := [.lit (.bool false)], args := [d] }
  | _ => none }
def FnExactIsSymbolWrongFalsely : Prop := fnExactIsSymbolRow.holds Try.pinned (OpenSpec.ofChange fnExactIsSymbolWrong)

/-- 'laws.FnExactIsScopeSet': WHATEVER THE INPUT: true; the input reads as it did. -/
def fnExactIsScopeSetSpec : ChangeSpec := { name := "fnExactIsScopeSet", fn := fun _ => fun
  | [d] => { results := [.lit (.bool true)], args := [d] }
  | _ => none }
def fnExactIsScopeSetRow : OpenClaim := { program := "ytdfekdeojahmmaa", sum := "56574761e6df381c72d911e6e7cdc03aa221bf641016640a5334aaf209fab833", func := "loop.example/g03220/laws.FnExactIsScopeSet", spec := "fnExactIsScopeSet", apart := false }
def FnExactIsScopeSetSaid : Prop := fnExactIsScopeSetRow.holds Try.pinned (OpenSpec.ofChange fnExactIsScopeSetSpec)

/-- ITS FALSE NEIGHBOUR: 'it returns false'. Refute it at one input. -/
def fnExactIsScopeSetWrong : ChangeSpec := { name := "fnExactIsScopeSet", fn := fun _ => fun
  | [d] => { results := [.lit (.bool false)], args := [d] }
  | _ => none }
def FnExactIsScopeSetWrongFalsely : Prop := fnExactIsScopeSetRow.holds Try.pinned (OpenSpec.ofChange fnExactIsScopeSetWrong)

/-- 'laws.FnBound': WHATEVER THE INPUT: true; the input reads as it did. -/
def fnBoundSpec : ChangeSpec := { name := "fnBound", fn := fun _ => fun
  | [d] => { results := [.lit (.bool true)], args := [d] }
  | _ => none }
def fnBoundRow : OpenClaim := { program := "ytdfekdeojahmmaa", sum := "56574761e6df381c72d911e6e7cdc03aa221bf641016640a5334aaf209fab833", func := "loop.example/g03220/laws.FnBound", spec := "fnBound", recurses := true, apart := false }
def FnBoundSaid : Prop := fnBoundRow.holds Try.pinned (OpenSpec.ofChange fnBoundSpec)

/-- ITS FALSE NEIGHBOUR: 'it returns false'. Refute it at one input. -/
def fnBoundWrong : ChangeSpec := { name := "fnBound", fn := fun _ => fun
  | [d] => { results := [.lit (.bool false)], args := [d] }
  | _ => none }
def FnBoundWrongFalsely : Prop := fnBoundRow.holds Try.pinned (OpenSpec.ofChange fnBoundWrong)

/-- 'laws.FnExactCountNodes': WHATEVER THE INPUT: true; the input reads as it did. -/
def fnExactCountNodesSpec : ChangeSpec := { name := "fnExactCountNodes", fn := fun _ => fun
  | [d] => { results := [.lit (.bool true)], args := [d] }
  | _ => none }
def fnExactCountNodesRow : OpenClaim := { program := "ytdfekdeojahmmaa", sum := "56574761e6df381c72d911e6e7cdc03aa221bf641016640a5334aaf209fab833", func := "loop.example/g03220/laws.FnExactCountNodes", spec := "fnExactCountNodes", recurses := true, loops := true, apart := false }
def FnExactCountNodesSaid : Prop := fnExactCountNodesRow.holds Try.pinned (OpenSpec.ofChange fnExactCountNodesSpec)

/-- ITS FALSE NEIGHBOUR: 'it returns false'. Refute it at one input. -/
def fnExactCountNodesWrong : ChangeSpec := { name := "fnExactCountNodes", fn := fun _ => fun
  | [d] => { results := [.lit (.bool false)], args := [d] }
  | _ => none }
def FnExactCountNodesWrongFalsely : Prop := fnExactCountNodesRow.holds Try.pinned (OpenSpec.ofChange fnExactCountNodesWrong)

/-- 'laws.FnExactDepthOf': WHATEVER THE INPUT: true; the input reads as it did. -/
def fnExactDepthOfSpec : ChangeSpec := { name := "fnExactDepthOf", fn := fun _ => fun
  | [d] => { results := [.lit (.bool true)], args := [d] }
  | _ => none }
def fnExactDepthOfRow : OpenClaim := { program := "ytdfekdeojahmmaa", sum := "56574761e6df381c72d911e6e7cdc03aa221bf641016640a5334aaf209fab833", func := "loop.example/g03220/laws.FnExactDepthOf", spec := "fnExactDepthOf", recurses := true, loops := true, apart := false }
def FnExactDepthOfSaid : Prop := fnExactDepthOfRow.holds Try.pinned (OpenSpec.ofChange fnExactDepthOfSpec)

/-- ITS FALSE NEIGHBOUR: 'it returns false'. Refute it at one input. -/
def fnExactDepthOfWrong : ChangeSpec := { name := "fnExactDepthOf", fn := fun _ => fun
  | [d] => { results := [.lit (.bool false)], args := [d] }
  | _ => none }
def FnExactDepthOfWrongFalsely : Prop := fnExactDepthOfRow.holds Try.pinned (OpenSpec.ofChange fnExactDepthOfWrong)

/-- 'laws.FnExactEqualData': WHATEVER THE INPUT: true; the input reads as it did. -/
def fnExactEqualDataSpec : ChangeSpec := { name := "fnExactEqualData", fn := fun _ => fun
  | [d1, d2] => { results := [.lit (.bool true)], args := [d1, d2] }
  | _ => none }
def fnExactEqualDataRow : OpenClaim := { program := "ytdfekdeojahmmaa", sum := "56574761e6df381c72d911e6e7cdc03aa221bf641016640a5334aaf209fab833", func := "loop.example/g03220/laws.FnExactEqualData", spec := "fnExactEqualData", recurses := true, loops := true, apart := false }
def FnExactEqualDataSaid : Prop := fnExactEqualDataRow.holds Try.pinned (OpenSpec.ofChange fnExactEqualDataSpec)

/-- ITS FALSE NEIGHBOUR: 'it returns false'. Refute it at one input. -/
def fnExactEqualDataWrong : ChangeSpec := { name := "fnExactEqualData", fn := fun _ => fun
  | [d1, d2] => { results := [.lit (.bool false)], args := [d1, d2] }
  | _ => none }
def FnExactEqualDataWrongFalsely : Prop := fnExactEqualDataRow.holds Try.pinned (OpenSpec.ofChange fnExactEqualDataWrong)

/-- 'laws.FnExactIsSubset': WHATEVER THE INPUT: true; the input reads as it did. -/
def fnExactIsSubsetSpec : ChangeSpec := { name := "fnExactIsSubset", fn := fun _ => fun
  | [d1, d2] => { results := [.lit (.bool true)], args := [d1, d2] }
  | _ => none }
def fnExactIsSubsetRow : OpenClaim := { program := "ytdfekdeojahmmaa", sum := "56574761e6df381c72d911e6e7cdc03aa221bf641016640a5334aaf209fab833", func := "loop.example/g03220/laws.FnExactIsSubset", spec := "fnExactIsSubset", apart := false }
def FnExactIsSubsetSaid : Prop := fnExactIsSubsetRow.holds Try.pinned (OpenSpec.ofChange fnExactIsSubsetSpec)

/-- ITS FALSE NEIGHBOUR: 'it returns false'. Refute it at one input. -/
def fnExactIsSubsetWrong : ChangeSpec := { name := "fnExactIsSubset", fn := fun _ => fun
  | [d1, d2] => { results := [.lit (.bool false)], args := [d1, d2] }
  | _ => none }
def FnExactIsSubsetWrongFalsely : Prop := fnExactIsSubsetRow.holds Try.pinned (OpenSpec.ofChange fnExactIsSubsetWrong)

/-- 'laws.FnExactBooleanDatum': WHATEVER THE INPUT: true; the input reads as it did. -/
def fnExactBooleanDatumSpec : ChangeSpec := { name := "fnExactBooleanDatum", fn := fun _ => fun
  | [d] => { results := [.lit (.bool true)], args := [d] }
  | _ => none }
def fnExactBooleanDatumRow : OpenClaim := { program := "ytdfekdeojahmmaa", sum := "56574761e6df381c72d911e6e7cdc03aa221bf641016640a5334aaf209fab833", func := "loop.example/g03220/laws.FnExactBooleanDatum", spec := "fnExactBooleanDatum", recurses := true, apart := false }
def FnExactBooleanDatumSaid : Prop := fnExactBooleanDatumRow.holds Try.pinned (OpenSpec.ofChange fnExactBooleanDatumSpec)

/-- ITS FALSE NEIGHBOUR: 'it returns false'. Refute it at one input. -/
def fnExactBooleanDatumWrong : ChangeSpec := { name := "fnExactBooleanDatum", fn := fun _ => fun
  | [d] => { results := [.lit (.bool false)], args := [d] }
  | _ => none }
def FnExactBooleanDatumWrongFalsely : Prop := fnExactBooleanDatumRow.holds Try.pinned (OpenSpec.ofChange fnExactBooleanDatumWrong)

/-- 'laws.FnExactWithoutUses': WHATEVER THE INPUT: true; the input reads as it did. -/
def fnExactWithoutUsesSpec : ChangeSpec := { name := "fnExactWithoutUses", fn := fun _ => fun
  | [d] => { results := [.lit (.bool true)], args := [d] }
  | _ => none }
def fnExactWithoutUsesRow : OpenClaim := { program := "ytdfekdeojahmmaa", sum := "56574761e6df381c72d911e6e7cdc03aa221bf641016640a5334aaf209fab833", func := "loop.example/g03220/laws.FnExactWithoutUses", spec := "fnExactWithoutUses", apart := false }
def FnExactWithoutUsesSaid : Prop := fnExactWithoutUsesRow.holds Try.pinned (OpenSpec.ofChange fnExactWithoutUsesSpec)

/-- ITS FALSE NEIGHBOUR: 'it returns false'. Refute it at one input. -/
def fnExactWithoutUsesWrong : ChangeSpec := { name := "fnExactWithoutUses", fn := fun _ => fun
  | [d] => { results := [.lit (.bool false)], args := [d] }
  | _ => none }
def FnExactWithoutUsesWrongFalsely : Prop := fnExactWithoutUsesRow.holds Try.pinned (OpenSpec.ofChange fnExactWithoutUsesWrong)

/-- 'laws.FnExactCountSyntax': WHATEVER THE INPUT: true; the input reads as it did. -/
def fnExactCountSyntaxSpec : ChangeSpec := { name := "fnExactCountSyntax", fn := fun _ => fun
  | [d] => { results := [.lit (.bool true)], args := [d] }
  | _ => none }
def fnExactCountSyntaxRow : OpenClaim := { program := "ytdfekdeojahmmaa", sum := "56574761e6df381c72d911e6e7cdc03aa221bf641016640a5334aaf209fab833", func := "loop.example/g03220/laws.FnExactCountSyntax", spec := "fnExactCountSyntax", recurses := true, loops := true, apart := false }
def FnExactCountSyntaxSaid : Prop := fnExactCountSyntaxRow.holds Try.pinned (OpenSpec.ofChange fnExactCountSyntaxSpec)

/-- ITS FALSE NEIGHBOUR: 'it returns false'. Refute it at one input. -/
def fnExactCountSyntaxWrong : ChangeSpec := { name := "fnExactCountSyntax", fn := fun _ => fun
  | [d] => { results := [.lit (.bool false)], args := [d] }
  | _ => none }
def FnExactCountSyntaxWrongFalsely : Prop := fnExactCountSyntaxRow.holds Try.pinned (OpenSpec.ofChange fnExactCountSyntaxWrong)

/-- 'laws.FnExactWithScope': WHATEVER THE INPUT: true; the input reads as it did. -/
def fnExactWithScopeSpec : ChangeSpec := { name := "fnExactWithScope", fn := fun _ => fun
  | [d1, d2] => { results := [.lit (.bool true)], args := [d1, d2] }
  | _ => none }
def fnExactWithScopeRow : OpenClaim := { program := "ytdfekdeojahmmaa", sum := "56574761e6df381c72d911e6e7cdc03aa221bf641016640a5334aaf209fab833", func := "loop.example/g03220/laws.FnExactWithScope", spec := "fnExactWithScope", apart := false }
def FnExactWithScopeSaid : Prop := fnExactWithScopeRow.holds Try.pinned (OpenSpec.ofChange fnExactWithScopeSpec)

/-- ITS FALSE NEIGHBOUR: 'it returns false'. Refute it at one input. -/
def fnExactWithScopeWrong : ChangeSpec := { name := "fnExactWithScope", fn := fun _ => fun
  | [d1, d2] => { results := [.lit (.bool false)], args := [d1, d2] }
  | _ => none }
def FnExactWithScopeWrongFalsely : Prop := fnExactWithScopeRow.holds Try.pinned (OpenSpec.ofChange fnExactWithScopeWrong)

/-- 'laws.FnExactCoreBindings': WHATEVER THE INPUT: true; the input reads as it did. -/
def fnExactCoreBindingsSpec : ChangeSpec := { name := "fnExactCoreBindings", fn := fun _ => fun
  | [] => { results := [.lit (.bool true)], args := [] }
  | _ => none }
def fnExactCoreBindingsRow : OpenClaim := { program := "ytdfekdeojahmmaa", sum := "56574761e6df381c72d911e6e7cdc03aa221bf641016640a5334aaf209fab833", func := "loop.example/g03220/laws.FnExactCoreBindings", spec := "fnExactCoreBindings", apart := false }
def FnExactCoreBindingsSaid : Prop := fnExactCoreBindingsRow.holds Try.pinned (OpenSpec.ofChange fnExactCoreBindingsSpec)

/-- ITS FALSE NEIGHBOUR: 'it returns false'. Refute it at one input. -/
def fnExactCoreBindingsWrong : ChangeSpec := { name := "fnExactCoreBindings", fn := fun _ => fun
  | [] => { results := [.lit (.bool false)], args := [] }
  | _ => none }
def FnExactCoreBindingsWrongFalsely : Prop := fnExactCoreBindingsRow.holds Try.pinned (OpenSpec.ofChange fnExactCoreBindingsWrong)

/-- 'laws.FnExactEqualBindings': WHATEVER THE INPUT: true; the input reads as it did. -/
def fnExactEqualBindingsSpec : ChangeSpec := { name := "fnExactEqualBindings", fn := fun _ => fun
  | [d1, d2] => { results := [.lit (.bool true)], args := [d1, d2] }
  | _ => none }
def fnExactEqualBindingsRow : OpenClaim := { program := "ytdfekdeojahmmaa", sum := "56574761e6df381c72d911e6e7cdc03aa221bf641016640a5334aaf209fab833", func := "loop.example/g03220/laws.FnExactEqualBindings", spec := "fnExactEqualBindings", apart := false }
def FnExactEqualBindingsSaid : Prop := fnExactEqualBindingsRow.holds Try.pinned (OpenSpec.ofChange fnExactEqualBindingsSpec)

/-- ITS FALSE NEIGHBOUR: 'it returns false'. Refute it at one input. -/
def fnExactEqualBindingsWrong : ChangeSpec := { name := "fnExactEqualBindings", fn := fun _ => fun
  | [d1, d2] => { results := [.lit (.bool false)], args := [d1, d2] }
  | _ => none }
def FnExactEqualBindingsWrongFalsely : Prop := fnExactEqualBindingsRow.holds Try.pinned (OpenSpec.ofChange fnExactEqualBindingsWrong)

/-- 'laws.FnExactListDatum': WHATEVER THE INPUT: true; the input reads as it did. -/
def fnExactListDatumSpec : ChangeSpec := { name := "fnExactListDatum", fn := fun _ => fun
  | [d] => { results := [.lit (.bool true)], args := [d] }
  | _ => none }
def fnExactListDatumRow : OpenClaim := { program := "ytdfekdeojahmmaa", sum := "56574761e6df381c72d911e6e7cdc03aa221bf641016640a5334aaf209fab833", func := "loop.example/g03220/laws.FnExactListDatum", spec := "fnExactListDatum", recurses := true, loops := true, apart := false }
def FnExactListDatumSaid : Prop := fnExactListDatumRow.holds Try.pinned (OpenSpec.ofChange fnExactListDatumSpec)

/-- ITS FALSE NEIGHBOUR: 'it returns false'. Refute it at one input. -/
def fnExactListDatumWrong : ChangeSpec := { name := "fnExactListDatum", fn := fun _ => fun
  | [d] => { results := [.lit (.bool false)], args := [d] }
  | _ => none }
def FnExactListDatumWrongFalsely : Prop := fnExactListDatumRow.holds Try.pinned (OpenSpec.ofChange fnExactListDatumWrong)

/- THE SECOND FORM. 'bulk': how many values and letters a reading holds, each counted each time it is reached (what is shared counts as often as it is met; a slice's spare places count too). A statement '..UptoSaid' is the law's where the arguments, and the package variables that the reading takes, are together of bulk at most 1048576: NARROWER than '..Said'. Prove '..Said' where nothing that the law and all that it calls make is longer than what came in: it says more and counts as full. Else prove '..UptoSaid'. A law counts once. -/
mutual
def uptoBulk {H : Type} : DataW H → Nat
  | .lit (.string bytes) => bytes.length + 1
  | .lit _ => 1
  | .nil => 1
  | .ptr d => uptoBulk d + 1
  | .slice elems spare => uptoBulkAll elems + uptoBulkAll spare + 1
  | .agg parts => uptoBulkAll parts + 1
  | .iface _ d => uptoBulk d + 1
  | .map entries => uptoBulkEntries entries + 1
  | .held _ => 1
def uptoBulkAll {H : Type} : List (DataW H) → Nat
  | [] => 0
  | d :: r => uptoBulk d + uptoBulkAll r
def uptoBulkEntries {H : Type} : List (Lit × DataW H) → Nat
  | [] => 0
  | x :: r => uptoBulkEntry x + uptoBulkEntries r
def uptoBulkEntry {H : Type} : Lit × DataW H → Nat
  | (.string bytes, d) => bytes.length + uptoBulk d + 1
  | (_, d) => uptoBulk d + 1
 end
def uptoSmall : (H : Type) → List (DataW H) → Bool := fun _ ds => decide (uptoBulkAll ds ≤ 1048576)
def OpenSpec.upto (s : _root_.Go.ChangeSpec) : _root_.Go.OpenSpec := { _root_.Go.OpenSpec.ofChange s with cond := some uptoSmall }

/-- 'laws.FnExactConstants', WHERE WHAT IT READS IS OF BULK AT MOST 1048576: true; the input reads as it did. -/
def fnExactConstantsUptoRow : OpenClaim := { program := "ytdfekdeojahmmaa", sum := "56574761e6df381c72d911e6e7cdc03aa221bf641016640a5334aaf209fab833", func := "loop.example/g03220/laws.FnExactConstants", spec := "fnExactConstants", apart := false, narrowed := true }
def FnExactConstantsUptoSaid : Prop := fnExactConstantsUptoRow.holds Try.pinned (OpenSpec.upto fnExactConstantsSpec)

/-- 'laws.FnExactKindOfScope', WHERE WHAT IT READS IS OF BULK AT MOST 1048576: true; the input reads as it did. -/
def fnExactKindOfScopeUptoRow : OpenClaim := { program := "ytdfekdeojahmmaa", sum := "56574761e6df381c72d911e6e7cdc03aa221bf641016640a5334aaf209fab833", func := "loop.example/g03220/laws.FnExactKindOfScope", spec := "fnExactKindOfScope", apart := false, narrowed := true }
def FnExactKindOfScopeUptoSaid : Prop := fnExactKindOfScopeUptoRow.holds Try.pinned (OpenSpec.upto fnExactKindOfScopeSpec)

/-- 'laws.FnExactHasScope', WHERE WHAT IT READS IS OF BULK AT MOST 1048576: true; the input reads as it did. -/
def fnExactHasScopeUptoRow : OpenClaim := { program := "ytdfekdeojahmmaa", sum := "56574761e6df381c72d911e6e7cdc03aa221bf641016640a5334aaf209fab833", func := "loop.example/g03220/laws.FnExactHasScope", spec := "fnExactHasScope", apart := false, narrowed := true }
def FnExactHasScopeUptoSaid : Prop := fnExactHasScopeUptoRow.holds Try.pinned (OpenSpec.upto fnExactHasScopeSpec)

/-- 'laws.FnExactFormNames', WHERE WHAT IT READS IS OF BULK AT MOST 1048576: true; the input reads as it did. -/
def fnExactFormNamesUptoRow : OpenClaim := { program := "ytdfekdeojahmmaa", sum := "56574761e6df381c72d911e6e7cdc03aa221bf641016640a5334aaf209fab833", func := "loop.example/g03220/laws.FnExactFormNames", spec := "fnExactFormNames", apart := false, narrowed := true }
def FnExactFormNamesUptoSaid : Prop := fnExactFormNamesUptoRow.holds Try.pinned (OpenSpec.upto fnExactFormNamesSpec)

/-- 'laws.FnExactPrimitiveNames', WHERE WHAT IT READS IS OF BULK AT MOST 1048576: true; the input reads as it did. -/
def fnExactPrimitiveNamesUptoRow : OpenClaim := { program := "ytdfekdeojahmmaa", sum := "56574761e6df381c72d911e6e7cdc03aa221bf641016640a5334aaf209fab833", func := "loop.example/g03220/laws.FnExactPrimitiveNames", spec := "fnExactPrimitiveNames", apart := false, narrowed := true }
def FnExactPrimitiveNamesUptoSaid : Prop := fnExactPrimitiveNamesUptoRow.holds Try.pinned (OpenSpec.upto fnExactPrimitiveNamesSpec)

/-- 'laws.FnExactIsSymbol', WHERE WHAT IT READS IS OF BULK AT MOST 1048576: true; the input reads as it did. -/
def fnExactIsSymbolUptoRow : OpenClaim := { program := "ytdfekdeojahmmaa", sum := "56574761e6df381c72d911e6e7cdc03aa221bf641016640a5334aaf209fab833", func := "loop.example/g03220/laws.FnExactIsSymbol", spec := "fnExactIsSymbol", apart := false, narrowed := true }
def FnExactIsSymbolUptoSaid : Prop := fnExactIsSymbolUptoRow.holds Try.pinned (OpenSpec.upto fnExactIsSymbolSpec)

/-- 'laws.FnExactIsScopeSet', WHERE WHAT IT READS IS OF BULK AT MOST 1048576: true; the input reads as it did. -/
def fnExactIsScopeSetUptoRow : OpenClaim := { program := "ytdfekdeojahmmaa", sum := "56574761e6df381c72d911e6e7cdc03aa221bf641016640a5334aaf209fab833", func := "loop.example/g03220/laws.FnExactIsScopeSet", spec := "fnExactIsScopeSet", apart := false, narrowed := true }
def FnExactIsScopeSetUptoSaid : Prop := fnExactIsScopeSetUptoRow.holds Try.pinned (OpenSpec.upto fnExactIsScopeSetSpec)

/-- 'laws.FnBound', WHERE WHAT IT READS IS OF BULK AT MOST 1048576: true; the input reads as it did. -/
def fnBoundUptoRow : OpenClaim := { program := "ytdfekdeojahmmaa", sum := "56574761e6df381c72d911e6e7cdc03aa221bf641016640a5334aaf209fab833", func := "loop.example/g03220/laws.FnBound", spec := "fnBound", recurses := true, apart := false, narrowed := true }
def FnBoundUptoSaid : Prop := fnBoundUptoRow.holds Try.pinned (OpenSpec.upto fnBoundSpec)

/-- 'laws.FnExactCountNodes', WHERE WHAT IT READS IS OF BULK AT MOST 1048576: true; the input reads as it did. -/
def fnExactCountNodesUptoRow : OpenClaim := { program := "ytdfekdeojahmmaa", sum := "56574761e6df381c72d911e6e7cdc03aa221bf641016640a5334aaf209fab833", func := "loop.example/g03220/laws.FnExactCountNodes", spec := "fnExactCountNodes", recurses := true, loops := true, apart := false, narrowed := true }
def FnExactCountNodesUptoSaid : Prop := fnExactCountNodesUptoRow.holds Try.pinned (OpenSpec.upto fnExactCountNodesSpec)

/-- 'laws.FnExactDepthOf', WHERE WHAT IT READS IS OF BULK AT MOST 1048576: true; the input reads as it did. -/
def fnExactDepthOfUptoRow : OpenClaim := { program := "ytdfekdeojahmmaa", sum := "56574761e6df381c72d911e6e7cdc03aa221bf641016640a5334aaf209fab833", func := "loop.example/g03220/laws.FnExactDepthOf", spec := "fnExactDepthOf", recurses := true, loops := true, apart := false, narrowed := true }
def FnExactDepthOfUptoSaid : Prop := fnExactDepthOfUptoRow.holds Try.pinned (OpenSpec.upto fnExactDepthOfSpec)

/-- 'laws.FnExactEqualData', WHERE WHAT IT READS IS OF BULK AT MOST 1048576: true; the input reads as it did. -/
def fnExactEqualDataUptoRow : OpenClaim := { program := "ytdfekdeojahmmaa", sum := "56574761e6df381c72d911e6e7cdc03aa221bf641016640a5334aaf209fab833", func := "loop.example/g03220/laws.FnExactEqualData", spec := "fnExactEqualData", recurses := true, loops := true, apart := false, narrowed := true }
def FnExactEqualDataUptoSaid : Prop := fnExactEqualDataUptoRow.holds Try.pinned (OpenSpec.upto fnExactEqualDataSpec)

/-- 'laws.FnExactIsSubset', WHERE WHAT IT READS IS OF BULK AT MOST 1048576: true; the input reads as it did. -/
def fnExactIsSubsetUptoRow : OpenClaim := { program := "ytdfekdeojahmmaa", sum := "56574761e6df381c72d911e6e7cdc03aa221bf641016640a5334aaf209fab833", func := "loop.example/g03220/laws.FnExactIsSubset", spec := "fnExactIsSubset", apart := false, narrowed := true }
def FnExactIsSubsetUptoSaid : Prop := fnExactIsSubsetUptoRow.holds Try.pinned (OpenSpec.upto fnExactIsSubsetSpec)

/-- 'laws.FnExactBooleanDatum', WHERE WHAT IT READS IS OF BULK AT MOST 1048576: true; the input reads as it did. -/
def fnExactBooleanDatumUptoRow : OpenClaim := { program := "ytdfekdeojahmmaa", sum := "56574761e6df381c72d911e6e7cdc03aa221bf641016640a5334aaf209fab833", func := "loop.example/g03220/laws.FnExactBooleanDatum", spec := "fnExactBooleanDatum", recurses := true, apart := false, narrowed := true }
def FnExactBooleanDatumUptoSaid : Prop := fnExactBooleanDatumUptoRow.holds Try.pinned (OpenSpec.upto fnExactBooleanDatumSpec)

/-- 'laws.FnExactWithoutUses', WHERE WHAT IT READS IS OF BULK AT MOST 1048576: true; the input reads as it did. -/
def fnExactWithoutUsesUptoRow : OpenClaim := { program := "ytdfekdeojahmmaa", sum := "56574761e6df381c72d911e6e7cdc03aa221bf641016640a5334aaf209fab833", func := "loop.example/g03220/laws.FnExactWithoutUses", spec := "fnExactWithoutUses", apart := false, narrowed := true }
def FnExactWithoutUsesUptoSaid : Prop := fnExactWithoutUsesUptoRow.holds Try.pinned (OpenSpec.upto fnExactWithoutUsesSpec)

/-- 'laws.FnExactCountSyntax', WHERE WHAT IT READS IS OF BULK AT MOST 1048576: true; the input reads as it did. -/
def fnExactCountSyntaxUptoRow : OpenClaim := { program := "ytdfekdeojahmmaa", sum := "56574761e6df381c72d911e6e7cdc03aa221bf641016640a5334aaf209fab833", func := "loop.example/g03220/laws.FnExactCountSyntax", spec := "fnExactCountSyntax", recurses := true, loops := true, apart := false, narrowed := true }
def FnExactCountSyntaxUptoSaid : Prop := fnExactCountSyntaxUptoRow.holds Try.pinned (OpenSpec.upto fnExactCountSyntaxSpec)

/-- 'laws.FnExactWithScope', WHERE WHAT IT READS IS OF BULK AT MOST 1048576: true; the input reads as it did. -/
def fnExactWithScopeUptoRow : OpenClaim := { program := "ytdfekdeojahmmaa", sum := "56574761e6df381c72d911e6e7cdc03aa221bf641016640a5334aaf209fab833", func := "loop.example/g03220/laws.FnExactWithScope", spec := "fnExactWithScope", apart := false, narrowed := true }
def FnExactWithScopeUptoSaid : Prop := fnExactWithScopeUptoRow.holds Try.pinned (OpenSpec.upto fnExactWithScopeSpec)

/-- 'laws.FnExactCoreBindings', WHERE WHAT IT READS IS OF BULK AT MOST 1048576: true; the input reads as it did. -/
def fnExactCoreBindingsUptoRow : OpenClaim := { program := "ytdfekdeojahmmaa", sum := "56574761e6df381c72d911e6e7cdc03aa221bf641016640a5334aaf209fab833", func := "loop.example/g03220/laws.FnExactCoreBindings", spec := "fnExactCoreBindings", apart := false, narrowed := true }
def FnExactCoreBindingsUptoSaid : Prop := fnExactCoreBindingsUptoRow.holds Try.pinned (OpenSpec.upto fnExactCoreBindingsSpec)

/-- 'laws.FnExactEqualBindings', WHERE WHAT IT READS IS OF BULK AT MOST 1048576: true; the input reads as it did. -/
def fnExactEqualBindingsUptoRow : OpenClaim := { program := "ytdfekdeojahmmaa", sum := "56574761e6df381c72d911e6e7cdc03aa221bf641016640a5334aaf209fab833", func := "loop.example/g03220/laws.FnExactEqualBindings", spec := "fnExactEqualBindings", apart := false, narrowed := true }
def FnExactEqualBindingsUptoSaid : Prop := fnExactEqualBindingsUptoRow.holds Try.pinned (OpenSpec.upto fnExactEqualBindingsSpec)

/-- 'laws.FnExactListDatum', WHERE WHAT IT READS IS OF BULK AT MOST 1048576: true; the input reads as it did. -/
def fnExactListDatumUptoRow : OpenClaim := { program := "ytdfekdeojahmmaa", sum := "56574761e6df381c72d911e6e7cdc03aa221bf641016640a5334aaf209fab833", func := "loop.example/g03220/laws.FnExactListDatum", spec := "fnExactListDatum", recurses := true, loops := true, apart := false, narrowed := true }
def FnExactListDatumUptoSaid : Prop := fnExactListDatumUptoRow.holds Try.pinned (OpenSpec.upto fnExactListDatumSpec)

end Rows
end Go.Proofs.Ytdfekdeojahmmaa
