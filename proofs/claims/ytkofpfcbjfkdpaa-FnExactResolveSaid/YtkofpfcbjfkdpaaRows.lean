/-
  NARROWER THAN 'FOR EVERY INPUT', by the rows' own cells (each row's printed sentence says how): FnExactEqualCaptures: loops · FnExactSwapSymbols: loops · FnExactSyntaxOf: loops · FnExactDatumOf: loops · FnExactStripUses: loops · FnExactAddScope: loops · FnExactFlipScope: loops · FnExactIdentifiersIn: loops · FnExactSameMeaning: loops · FnExactCandidates: loops · FnExactResolve: loops.
  DERIVED. THE GIVEN ROWS OF THIS SEAT. 16 by the template 'for every input the law returns true; each argument reads behind the call as it read before'; 0 by the template 'total and deterministic' (their statements: YtkofpfcbjfkdpaaTotals.lean).
  GIVEN WITH THE SEED: the statements are not yours to turn. If you find one false, say at which input.
  Laid BY PROGRAM, IN A SANDBOX (cutbox-rows.mjs): the forced cells as the released guide's own fill.sh prints them over the translation 97f2204233955a6b… (all of the seat's roots in one cut). By AI agents, Wed Nov 11 2026. No macro, syntax, notation, axiom, sorry.
-/
import Derived.Test.YtkofpfcbjfkdpaaChecked
import GoSem.Claim
import GoSem.ClaimJoined
import GoSem.ClaimMapViews
import Derived.JoinedTies
import Derived.KernelRfl
namespace Go.Proofs.Ytkofpfcbjfkdpaa
/- THE CELL 'sum', in the pinned program and in every row, IS THE sha256 OF THE DUMP (.gsa) THAT YtkofpfcbjfkdpaaProg.lean LOADS. Nothing in Lean hashes anything: it is a label: what it is worth is what the hold of that sum in a sandbox is worth. -/
noncomputable def Try.pinned : Pinned := { name := "ytkofpfcbjfkdpaa", sum := "97f2204233955a6bae688866d1fd3e4daf45fcc99f13ccf0e19ab67deb90b95c", checked := Try.checked }
namespace Rows
def none {H : Type} : Left H := { results := [], args := [] }

/-- 'laws.FnExactEqualCaptures': WHATEVER THE INPUT: true; the input reads as it did. -/
def fnExactEqualCapturesSpec : ChangeSpec := { name := "fnExactEqualCaptures", fn := fun _ => fun
  | [d1, d2] => { results := [.lit (.bool true)], args := [d1, d2] }
  | _ => none }
def fnExactEqualCapturesRow : OpenClaim := { program := "ytkofpfcbjfkdpaa", sum := "97f2204233955a6bae688866d1fd3e4daf45fcc99f13ccf0e19ab67deb90b95c", func := "loop.example/g03220/laws.FnExactEqualCaptures", spec := "fnExactEqualCaptures", recurses := true, loops := true, apart := false }
def FnExactEqualCapturesSaid : Prop := fnExactEqualCapturesRow.holds Try.pinned (OpenSpec.ofChange fnExactEqualCapturesSpec)

/-- ITS FALSE NEIGHBOUR: 'it returns false'. Refute it at one input. -/
def fnExactEqualCapturesWrong : ChangeSpec := { name := "fnExactEqualCaptures", fn := fun _ => fun
  | [d1, d2] => { results := [.lit (.bool false)], args := [d1, d2] }
  | _ => none }
def FnExactEqualCapturesWrongFalsely : Prop := fnExactEqualCapturesRow.holds Try.pinned (OpenSpec.ofChange fnExactEqualCapturesWrong)

/-- 'laws.FnSwapTwice': WHATEVER THE INPUT: true; the input reads as it did. -/
def fnSwapTwiceSpec : ChangeSpec := { name := "fnSwapTwice", fn := fun _ => fun
  | [d] => { results := [.lit (.bool true)], args := [d] }
  | _ => none }
def fnSwapTwiceRow : OpenClaim := { program := "ytkofpfcbjfkdpaa", sum := "97f2204233955a6bae688866d1fd3e4daf45fcc99f13ccf0e19ab67deb90b95c", func := "loop.example/g03220/laws.FnSwapTwice", spec := "fnSwapTwice", recurses := true, apart := false }
def FnSwapTwiceSaid : Prop := fnSwapTwiceRow.holds Try.pinned (OpenSpec.ofChange fnSwapTwiceSpec)

/-- ITS FALSE NEIGHBOUR: 'it returns false'. Refute it at one input. -/
def fnSwapTwiceWrong : ChangeSpec := { name := "fnSwapTwice", fn := fun _ => fun
  | [d] => { results := [.lit (.bool false)], args := [d] }
  | _ => none }
def FnSwapTwiceWrongFalsely : Prop := fnSwapTwiceRow.holds Try.pinned (OpenSpec.ofChange fnSwapTwiceWrong)

/-- 'laws.FnBound': WHATEVER THE INPUT: true; the input reads as it did. -/
def fnBoundSpec : ChangeSpec := { name := "fnBound", fn := fun _ => fun
  | [d] => { results := [.lit (.bool true)], args := [d] }
  | _ => none }
def fnBoundRow : OpenClaim := { program := "ytkofpfcbjfkdpaa", sum := "97f2204233955a6bae688866d1fd3e4daf45fcc99f13ccf0e19ab67deb90b95c", func := "loop.example/g03220/laws.FnBound", spec := "fnBound", recurses := true, apart := false }
def FnBoundSaid : Prop := fnBoundRow.holds Try.pinned (OpenSpec.ofChange fnBoundSpec)

/-- ITS FALSE NEIGHBOUR: 'it returns false'. Refute it at one input. -/
def fnBoundWrong : ChangeSpec := { name := "fnBound", fn := fun _ => fun
  | [d] => { results := [.lit (.bool false)], args := [d] }
  | _ => none }
def FnBoundWrongFalsely : Prop := fnBoundRow.holds Try.pinned (OpenSpec.ofChange fnBoundWrong)

/-- 'laws.FnExactSwapSymbols': WHATEVER THE INPUT: true; the input reads as it did. -/
def fnExactSwapSymbolsSpec : ChangeSpec := { name := "fnExactSwapSymbols", fn := fun _ => fun
  | [d1, d2, d3] => { results := [.lit (.bool true)], args := [d1, d2, d3] }
  | _ => none }
def fnExactSwapSymbolsRow : OpenClaim := { program := "ytkofpfcbjfkdpaa", sum := "97f2204233955a6bae688866d1fd3e4daf45fcc99f13ccf0e19ab67deb90b95c", func := "loop.example/g03220/laws.FnExactSwapSymbols", spec := "fnExactSwapSymbols", recurses := true, loops := true, apart := false }
def FnExactSwapSymbolsSaid : Prop := fnExactSwapSymbolsRow.holds Try.pinned (OpenSpec.ofChange fnExactSwapSymbolsSpec)

/-- ITS FALSE NEIGHBOUR: 'it returns false'. Refute it at one input. -/
def fnExactSwapSymbolsWrong : ChangeSpec := { name := "fnExactSwapSymbols", fn := fun _ => fun
  | [d1, d2, d3] => { results := [.lit (.bool false)], args := [d1, d2, d3] }
  | _ => none }
def FnExactSwapSymbolsWrongFalsely : Prop := fnExactSwapSymbolsRow.holds Try.pinned (OpenSpec.ofChange fnExactSwapSymbolsWrong)

/-- 'laws.FnExactSyntaxOf': WHATEVER THE INPUT: true; the input reads as it did. -/
def fnExactSyntaxOfSpec : ChangeSpec := { name := "fnExactSyntaxOf", fn := fun _ => fun
  | [d] => { results := [.lit (.bool true)], args := [d] }
  | _ => none }
def fnExactSyntaxOfRow : OpenClaim := { program := "ytkofpfcbjfkdpaa", sum := "97f2204233955a6bae688866d1fd3e4daf45fcc99f13ccf0e19ab67deb90b95c", func := "loop.example/g03220/laws.FnExactSyntaxOf", spec := "fnExactSyntaxOf", recurses := true, loops := true, apart := false }
def FnExactSyntaxOfSaid : Prop := fnExactSyntaxOfRow.holds Try.pinned (OpenSpec.ofChange fnExactSyntaxOfSpec)

/-- ITS FALSE NEIGHBOUR: 'it returns false'. Refute it at one input. -/
def fnExactSyntaxOfWrong : ChangeSpec := { name := "fnExactSyntaxOf", fn := fun _ => fun
  | [d] => { results := [.lit (.bool false)], args := [d] }
  | _ => none }
def FnExactSyntaxOfWrongFalsely : Prop := fnExactSyntaxOfRow.holds Try.pinned (OpenSpec.ofChange fnExactSyntaxOfWrong)

/-- 'laws.FnExactAddBinding': WHATEVER THE INPUT: true; the input reads as it did. -/
def fnExactAddBindingSpec : ChangeSpec := { name := "fnExactAddBinding", fn := fun _ => fun
  | [d1, d2] => { results := [.lit (.bool true)], args := [d1, d2] }
  | _ => none }
def fnExactAddBindingRow : OpenClaim := { program := "ytkofpfcbjfkdpaa", sum := "97f2204233955a6bae688866d1fd3e4daf45fcc99f13ccf0e19ab67deb90b95c", func := "loop.example/g03220/laws.FnExactAddBinding", spec := "fnExactAddBinding", apart := false }
def FnExactAddBindingSaid : Prop := fnExactAddBindingRow.holds Try.pinned (OpenSpec.ofChange fnExactAddBindingSpec)

/-- ITS FALSE NEIGHBOUR: 'it returns false'. Refute it at one input. -/
def fnExactAddBindingWrong : ChangeSpec := { name := "fnExactAddBinding", fn := fun _ => fun
  | [d1, d2] => { results := [.lit (.bool false)], args := [d1, d2] }
  | _ => none }
def FnExactAddBindingWrongFalsely : Prop := fnExactAddBindingRow.holds Try.pinned (OpenSpec.ofChange fnExactAddBindingWrong)

/-- 'laws.FnExactDatumOf': WHATEVER THE INPUT: true; the input reads as it did. -/
def fnExactDatumOfSpec : ChangeSpec := { name := "fnExactDatumOf", fn := fun _ => fun
  | [d] => { results := [.lit (.bool true)], args := [d] }
  | _ => none }
def fnExactDatumOfRow : OpenClaim := { program := "ytkofpfcbjfkdpaa", sum := "97f2204233955a6bae688866d1fd3e4daf45fcc99f13ccf0e19ab67deb90b95c", func := "loop.example/g03220/laws.FnExactDatumOf", spec := "fnExactDatumOf", recurses := true, loops := true, apart := false }
def FnExactDatumOfSaid : Prop := fnExactDatumOfRow.holds Try.pinned (OpenSpec.ofChange fnExactDatumOfSpec)

/-- ITS FALSE NEIGHBOUR: 'it returns false'. Refute it at one input. -/
def fnExactDatumOfWrong : ChangeSpec := { name := "fnExactDatumOf", fn := fun _ => fun
  | [d] => { results := [.lit (.bool false)], args := [d] }
  | _ => none }
def FnExactDatumOfWrongFalsely : Prop := fnExactDatumOfRow.holds Try.pinned (OpenSpec.ofChange fnExactDatumOfWrong)

/-- 'laws.FnExactStripUses': WHATEVER THE INPUT: true; the input reads as it did. -/
def fnExactStripUsesSpec : ChangeSpec := { name := "fnExactStripUses", fn := fun _ => fun
  | [d] => { results := [.lit (.bool true)], args := [d] }
  | _ => none }
def fnExactStripUsesRow : OpenClaim := { program := "ytkofpfcbjfkdpaa", sum := "97f2204233955a6bae688866d1fd3e4daf45fcc99f13ccf0e19ab67deb90b95c", func := "loop.example/g03220/laws.FnExactStripUses", spec := "fnExactStripUses", unfollowed := true, recurses := true, loops := true, apart := false }
def FnExactStripUsesSaid : Prop := fnExactStripUsesRow.holds Try.pinned (OpenSpec.ofChange fnExactStripUsesSpec)

/-- ITS FALSE NEIGHBOUR: 'it returns false'. Refute it at one input. -/
def fnExactStripUsesWrong : ChangeSpec := { name := "fnExactStripUses", fn := fun _ => fun
  | [d] => { results := [.lit (.bool false)], args := [d] }
  | _ => none }
def FnExactStripUsesWrongFalsely : Prop := fnExactStripUsesRow.holds Try.pinned (OpenSpec.ofChange fnExactStripUsesWrong)

/-- 'laws.FnExactAddScope': WHATEVER THE INPUT: true; the input reads as it did. -/
def fnExactAddScopeSpec : ChangeSpec := { name := "fnExactAddScope", fn := fun _ => fun
  | [d1, d2] => { results := [.lit (.bool true)], args := [d1, d2] }
  | _ => none }
def fnExactAddScopeRow : OpenClaim := { program := "ytkofpfcbjfkdpaa", sum := "97f2204233955a6bae688866d1fd3e4daf45fcc99f13ccf0e19ab67deb90b95c", func := "loop.example/g03220/laws.FnExactAddScope", spec := "fnExactAddScope", unfollowed := true, recurses := true, loops := true, apart := false }
def FnExactAddScopeSaid : Prop := fnExactAddScopeRow.holds Try.pinned (OpenSpec.ofChange fnExactAddScopeSpec)

/-- ITS FALSE NEIGHBOUR: 'it returns false'. Refute it at one input. -/
def fnExactAddScopeWrong : ChangeSpec := { name := "fnExactAddScope", fn := fun _ => fun
  | [d1, d2] => { results := [.lit (.bool false)], args := [d1, d2] }
  | _ => none }
def FnExactAddScopeWrongFalsely : Prop := fnExactAddScopeRow.holds Try.pinned (OpenSpec.ofChange fnExactAddScopeWrong)

/-- 'laws.FnExactFlipScope': WHATEVER THE INPUT: true; the input reads as it did. -/
def fnExactFlipScopeSpec : ChangeSpec := { name := "fnExactFlipScope", fn := fun _ => fun
  | [d1, d2] => { results := [.lit (.bool true)], args := [d1, d2] }
  | _ => none }
def fnExactFlipScopeRow : OpenClaim := { program := "ytkofpfcbjfkdpaa", sum := "97f2204233955a6bae688866d1fd3e4daf45fcc99f13ccf0e19ab67deb90b95c", func := "loop.example/g03220/laws.FnExactFlipScope", spec := "fnExactFlipScope", unfollowed := true, recurses := true, loops := true, apart := false }
def FnExactFlipScopeSaid : Prop := fnExactFlipScopeRow.holds Try.pinned (OpenSpec.ofChange fnExactFlipScopeSpec)

/-- ITS FALSE NEIGHBOUR: 'it returns false'. Refute it at one input. -/
def fnExactFlipScopeWrong : ChangeSpec := { name := "fnExactFlipScope", fn := fun _ => fun
  | [d1, d2] => { results := [.lit (.bool false)], args := [d1, d2] }
  | _ => none }
def FnExactFlipScopeWrongFalsely : Prop := fnExactFlipScopeRow.holds Try.pinned (OpenSpec.ofChange fnExactFlipScopeWrong)

/-- 'laws.FnExactIdentifiersIn': WHATEVER THE INPUT: true; the input reads as it did. -/
def fnExactIdentifiersInSpec : ChangeSpec := { name := "fnExactIdentifiersIn", fn := fun _ => fun
  | [d] => { results := [.lit (.bool true)], args := [d] }
  | _ => none }
def fnExactIdentifiersInRow : OpenClaim := { program := "ytkofpfcbjfkdpaa", sum := "97f2204233955a6bae688866d1fd3e4daf45fcc99f13ccf0e19ab67deb90b95c", func := "loop.example/g03220/laws.FnExactIdentifiersIn", spec := "fnExactIdentifiersIn", unfollowed := true, recurses := true, loops := true, apart := false }
def FnExactIdentifiersInSaid : Prop := fnExactIdentifiersInRow.holds Try.pinned (OpenSpec.ofChange fnExactIdentifiersInSpec)

/-- ITS FALSE NEIGHBOUR: 'it returns false'. Refute it at one input. -/
def fnExactIdentifiersInWrong : ChangeSpec := { name := "fnExactIdentifiersIn", fn := fun _ => fun
  | [d] => { results := [.lit (.bool false)], args := [d] }
  | _ => none }
def FnExactIdentifiersInWrongFalsely : Prop := fnExactIdentifiersInRow.holds Try.pinned (OpenSpec.ofChange fnExactIdentifiersInWrong)

/-- 'laws.FnExactSameMeaning': WHATEVER THE INPUT: true; the input reads as it did. -/
def fnExactSameMeaningSpec : ChangeSpec := { name := "fnExactSameMeaning", fn := fun _ => fun
  | [d1, d2, d3] => { results := [.lit (.bool true)], args := [d1, d2, d3] }
  | _ => none }
def fnExactSameMeaningRow : OpenClaim := { program := "ytkofpfcbjfkdpaa", sum := "97f2204233955a6bae688866d1fd3e4daf45fcc99f13ccf0e19ab67deb90b95c", func := "loop.example/g03220/laws.FnExactSameMeaning", spec := "fnExactSameMeaning", recurses := true, loops := true, apart := false }
def FnExactSameMeaningSaid : Prop := fnExactSameMeaningRow.holds Try.pinned (OpenSpec.ofChange fnExactSameMeaningSpec)

/-- ITS FALSE NEIGHBOUR: 'it returns false'. Refute it at one input. -/
def fnExactSameMeaningWrong : ChangeSpec := { name := "fnExactSameMeaning", fn := fun _ => fun
  | [d1, d2, d3] => { results := [.lit (.bool false)], args := [d1, d2, d3] }
  | _ => none }
def FnExactSameMeaningWrongFalsely : Prop := fnExactSameMeaningRow.holds Try.pinned (OpenSpec.ofChange fnExactSameMeaningWrong)

/-- 'laws.FnScopes': WHATEVER THE INPUT: true; the input reads as it did. -/
def fnScopesSpec : ChangeSpec := { name := "fnScopes", fn := fun _ => fun
  | [d] => { results := [.lit (.bool true)], args := [d] }
  | _ => none }
def fnScopesRow : OpenClaim := { program := "ytkofpfcbjfkdpaa", sum := "97f2204233955a6bae688866d1fd3e4daf45fcc99f13ccf0e19ab67deb90b95c", func := "loop.example/g03220/laws.FnScopes", spec := "fnScopes", unfollowed := true, recurses := true, apart := false }
def FnScopesSaid : Prop := fnScopesRow.holds Try.pinned (OpenSpec.ofChange fnScopesSpec)

/-- ITS FALSE NEIGHBOUR: 'it returns false'. Refute it at one input. -/
def fnScopesWrong : ChangeSpec := { name := "fnScopes", fn := fun _ => fun
  | [d] => { results := [.lit (.bool false)], args := [d] }
  | _ => none }
def FnScopesWrongFalsely : Prop := fnScopesRow.holds Try.pinned (OpenSpec.ofChange fnScopesWrong)

/-- 'laws.FnExactCandidates': WHATEVER THE INPUT: true; the input reads as it did. -/
def fnExactCandidatesSpec : ChangeSpec := { name := "fnExactCandidates", fn := fun _ => fun
  | [d1, d2] => { results := [.lit (.bool true)], args := [d1, d2] }
  | _ => none }
def fnExactCandidatesRow : OpenClaim := { program := "ytkofpfcbjfkdpaa", sum := "97f2204233955a6bae688866d1fd3e4daf45fcc99f13ccf0e19ab67deb90b95c", func := "loop.example/g03220/laws.FnExactCandidates", spec := "fnExactCandidates", recurses := true, loops := true, apart := false }
def FnExactCandidatesSaid : Prop := fnExactCandidatesRow.holds Try.pinned (OpenSpec.ofChange fnExactCandidatesSpec)

/-- ITS FALSE NEIGHBOUR: 'it returns false'. Refute it at one input. -/
def fnExactCandidatesWrong : ChangeSpec := { name := "fnExactCandidates", fn := fun _ => fun
  | [d1, d2] => { results := [.lit (.bool false)], args := [d1, d2] }
  | _ => none }
def FnExactCandidatesWrongFalsely : Prop := fnExactCandidatesRow.holds Try.pinned (OpenSpec.ofChange fnExactCandidatesWrong)

/-- 'laws.FnResolved': WHATEVER THE INPUT: true; the input reads as it did. -/
def fnResolvedSpec : ChangeSpec := { name := "fnResolved", fn := fun _ => fun
  | [d] => { results := [.lit (.bool true)], args := [d] }
  | _ => none }
def fnResolvedRow : OpenClaim := { program := "ytkofpfcbjfkdpaa", sum := "97f2204233955a6bae688866d1fd3e4daf45fcc99f13ccf0e19ab67deb90b95c", func := "loop.example/g03220/laws.FnResolved", spec := "fnResolved", recurses := true, apart := false }
def FnResolvedSaid : Prop := fnResolvedRow.holds Try.pinned (OpenSpec.ofChange fnResolvedSpec)

/-- ITS FALSE NEIGHBOUR: 'it returns false'. Refute it at one input. -/
def fnResolvedWrong : ChangeSpec := { name := "fnResolved", fn := fun _ => fun
  | [d] => { results := [.lit (.bool false)], args := [d] }
  | _ => none }
def FnResolvedWrongFalsely : Prop := fnResolvedRow.holds Try.pinned (OpenSpec.ofChange fnResolvedWrong)

/-- 'laws.FnExactResolve': WHATEVER THE INPUT: true; the input reads as it did. -/
def fnExactResolveSpec : ChangeSpec := { name := "fnExactResolve", fn := fun _ => fun
  | [d1, d2] => { results := [.lit (.bool true)], args := [d1, d2] }
  | _ => none }
def fnExactResolveRow : OpenClaim := { program := "ytkofpfcbjfkdpaa", sum := "97f2204233955a6bae688866d1fd3e4daf45fcc99f13ccf0e19ab67deb90b95c", func := "loop.example/g03220/laws.FnExactResolve", spec := "fnExactResolve", recurses := true, loops := true, apart := false }
def FnExactResolveSaid : Prop := fnExactResolveRow.holds Try.pinned (OpenSpec.ofChange fnExactResolveSpec)

/-- ITS FALSE NEIGHBOUR: 'it returns false'. Refute it at one input. -/
def fnExactResolveWrong : ChangeSpec := { name := "fnExactResolve", fn := fun _ => fun
  | [d1, d2] => { results := [.lit (.bool false)], args := [d1, d2] }
  | _ => none }
def FnExactResolveWrongFalsely : Prop := fnExactResolveRow.holds Try.pinned (OpenSpec.ofChange fnExactResolveWrong)

/- THE SECOND FORM. 'bulk': how many values and letters a reading holds, each counted each time it is reached (what is shared counts as often as it is met; a slice's spare places count too). A statement '..UptoSaid' is the law's where the arguments, and the package variables that the reading takes, are together of bulk at most 1048576: NARROWER than '..Said'. Prove '..Said' where nothing that the law and all that it calls make is longer than what came in: it says more and counts as full. Else prove '..UptoSaid'. A law counts once. -/
mutual
def uptoBulk {H : Type} : DataW H → Nat
  | .lit (.string bytes) => bytes.length + 1
  | .lit _ => 1
  | .nil => 1
  | .ptr d => uptoBulk d + 1
  | .slice elems spare => uptoBulkAll elems + uptoBulkAll spare + 1
  | .agg parts => uptoBulkAll parts + 1
  | .iface _ d => uptoBulk d + 1
  | .map entries => uptoBulkEntries entries + 1
  | .held _ => 1
def uptoBulkAll {H : Type} : List (DataW H) → Nat
  | [] => 0
  | d :: r => uptoBulk d + uptoBulkAll r
def uptoBulkEntries {H : Type} : List (Lit × DataW H) → Nat
  | [] => 0
  | x :: r => uptoBulkEntry x + uptoBulkEntries r
def uptoBulkEntry {H : Type} : Lit × DataW H → Nat
  | (.string bytes, d) => bytes.length + uptoBulk d + 1
  | (_, d) => uptoBulk d + 1
 end
def uptoSmall : (H : Type) → List (DataW H) → Bool := fun _ ds => decide (uptoBulkAll ds ≤ 1048576)
def OpenSpec.upto (s : _root_.Go.ChangeSpec) : _root_.Go.OpenSpec := { _root_.Go.OpenSpec.ofChange s with cond := some uptoSmall }

/-- 'laws.FnExactEqualCaptures', WHERE WHAT IT READS IS OF BULK AT MOST 1048576: true; the input reads as it did. -/
def fnExactEqualCapturesUptoRow : OpenClaim := { program := "ytkofpfcbjfkdpaa", sum := "97f2204233955a6bae688866d1fd3e4daf45fcc99f13ccf0e19ab67deb90b95c", func := "loop.example/g03220/laws.FnExactEqualCaptures", spec := "fnExactEqualCaptures", recurses := true, loops := true, apart := false, narrowed := true }
def FnExactEqualCapturesUptoSaid : Prop := fnExactEqualCapturesUptoRow.holds Try.pinned (OpenSpec.upto fnExactEqualCapturesSpec)

/-- 'laws.FnSwapTwice', WHERE WHAT IT READS IS OF BULK AT MOST 1048576: true; the input reads as it did. -/
def fnSwapTwiceUptoRow : OpenClaim := { program := "ytkofpfcbjfkdpaa", sum := "97f2204233955a6bae688866d1fd3e4daf45fcc99f13ccf0e19ab67deb90b95c", func := "loop.example/g03220/laws.FnSwapTwice", spec := "fnSwapTwice", recurses := true, apart := false, narrowed := true }
def FnSwapTwiceUptoSaid : Prop := fnSwapTwiceUptoRow.holds Try.pinned (OpenSpec.upto fnSwapTwiceSpec)

/-- 'laws.FnBound', WHERE WHAT IT READS IS OF BULK AT MOST 1048576: true; the input reads as it did. -/
def fnBoundUptoRow : OpenClaim := { program := "ytkofpfcbjfkdpaa", sum := "97f2204233955a6bae688866d1fd3e4daf45fcc99f13ccf0e19ab67deb90b95c", func := "loop.example/g03220/laws.FnBound", spec := "fnBound", recurses := true, apart := false, narrowed := true }
def FnBoundUptoSaid : Prop := fnBoundUptoRow.holds Try.pinned (OpenSpec.upto fnBoundSpec)

/-- 'laws.FnExactSwapSymbols', WHERE WHAT IT READS IS OF BULK AT MOST 1048576: true; the input reads as it did. -/
def fnExactSwapSymbolsUptoRow : OpenClaim := { program := "ytkofpfcbjfkdpaa", sum := "97f2204233955a6bae688866d1fd3e4daf45fcc99f13ccf0e19ab67deb90b95c", func := "loop.example/g03220/laws.FnExactSwapSymbols", spec := "fnExactSwapSymbols", recurses := true, loops := true, apart := false, narrowed := true }
def FnExactSwapSymbolsUptoSaid : Prop := fnExactSwapSymbolsUptoRow.holds Try.pinned (OpenSpec.upto fnExactSwapSymbolsSpec)

/-- 'laws.FnExactSyntaxOf', WHERE WHAT IT READS IS OF BULK AT MOST 1048576: true; the input reads as it did. -/
def fnExactSyntaxOfUptoRow : OpenClaim := { program := "ytkofpfcbjfkdpaa", sum := "97f2204233955a6bae688866d1fd3e4daf45fcc99f13ccf0e19ab67deb90b95c", func := "loop.example/g03220/laws.FnExactSyntaxOf", spec := "fnExactSyntaxOf", recurses := true, loops := true, apart := false, narrowed := true }
def FnExactSyntaxOfUptoSaid : Prop := fnExactSyntaxOfUptoRow.holds Try.pinned (OpenSpec.upto fnExactSyntaxOfSpec)

/-- 'laws.FnExactAddBinding', WHERE WHAT IT READS IS OF BULK AT MOST 1048576: true; the input reads as it did. -/
def fnExactAddBindingUptoRow : OpenClaim := { program := "ytkofpfcbjfkdpaa", sum := "97f2204233955a6bae688866d1fd3e4daf45fcc99f13ccf0e19ab67deb90b95c", func := "loop.example/g03220/laws.FnExactAddBinding", spec := "fnExactAddBinding", apart := false, narrowed := true }
def FnExactAddBindingUptoSaid : Prop := fnExactAddBindingUptoRow.holds Try.pinned (OpenSpec.upto fnExactAddBindingSpec)

/-- 'laws.FnExactDatumOf', WHERE WHAT IT READS IS OF BULK AT MOST 1048576: true; the input reads as it did. -/
def fnExactDatumOfUptoRow : OpenClaim := { program := "ytkofpfcbjfkdpaa", sum := "97f2204233955a6bae688866d1fd3e4daf45fcc99f13ccf0e19ab67deb90b95c", func := "loop.example/g03220/laws.FnExactDatumOf", spec := "fnExactDatumOf", recurses := true, loops := true, apart := false, narrowed := true }
def FnExactDatumOfUptoSaid : Prop := fnExactDatumOfUptoRow.holds Try.pinned (OpenSpec.upto fnExactDatumOfSpec)

/-- 'laws.FnExactStripUses', WHERE WHAT IT READS IS OF BULK AT MOST 1048576: true; the input reads as it did. -/
def fnExactStripUsesUptoRow : OpenClaim := { program := "ytkofpfcbjfkdpaa", sum := "97f2204233955a6bae688866d1fd3e4daf45fcc99f13ccf0e19ab67deb90b95c", func := "loop.example/g03220/laws.FnExactStripUses", spec := "fnExactStripUses", unfollowed := true, recurses := true, loops := true, apart := false, narrowed := true }
def FnExactStripUsesUptoSaid : Prop := fnExactStripUsesUptoRow.holds Try.pinned (OpenSpec.upto fnExactStripUsesSpec)

/-- 'laws.FnExactAddScope', WHERE WHAT IT READS IS OF BULK AT MOST 1048576: true; the input reads as it did. -/
def fnExactAddScopeUptoRow : OpenClaim := { program := "ytkofpfcbjfkdpaa", sum := "97f2204233955a6bae688866d1fd3e4daf45fcc99f13ccf0e19ab67deb90b95c", func := "loop.example/g03220/laws.FnExactAddScope", spec := "fnExactAddScope", unfollowed := true, recurses := true, loops := true, apart := false, narrowed := true }
def FnExactAddScopeUptoSaid : Prop := fnExactAddScopeUptoRow.holds Try.pinned (OpenSpec.upto fnExactAddScopeSpec)

/-- 'laws.FnExactFlipScope', WHERE WHAT IT READS IS OF BULK AT MOST 1048576: true; the input reads as it did. -/
def fnExactFlipScopeUptoRow : OpenClaim := { program := "ytkofpfcbjfkdpaa", sum := "97f2204233955a6bae688866d1fd3e4daf45fcc99f13ccf0e19ab67deb90b95c", func := "loop.example/g03220/laws.FnExactFlipScope", spec := "fnExactFlipScope", unfollowed := true, recurses := true, loops := true, apart := false, narrowed := true }
def FnExactFlipScopeUptoSaid : Prop := fnExactFlipScopeUptoRow.holds Try.pinned (OpenSpec.upto fnExactFlipScopeSpec)

/-- 'laws.FnExactIdentifiersIn', WHERE WHAT IT READS IS OF BULK AT MOST 1048576: true; the input reads as it did. -/
def fnExactIdentifiersInUptoRow : OpenClaim := { program := "ytkofpfcbjfkdpaa", sum := "97f2204233955a6bae688866d1fd3e4daf45fcc99f13ccf0e19ab67deb90b95c", func := "loop.example/g03220/laws.FnExactIdentifiersIn", spec := "fnExactIdentifiersIn", unfollowed := true, recurses := true, loops := true, apart := false, narrowed := true }
def FnExactIdentifiersInUptoSaid : Prop := fnExactIdentifiersInUptoRow.holds Try.pinned (OpenSpec.upto fnExactIdentifiersInSpec)

/-- 'laws.FnExactSameMeaning', WHERE WHAT IT READS IS OF BULK AT MOST 1048576: true; the input reads as it did. -/
def fnExactSameMeaningUptoRow : OpenClaim := { program := "ytkofpfcbjfkdpaa", sum := "97f2204233955a6bae688866d1fd3e4daf45fcc99f13ccf0e19ab67deb90b95c", func := "loop.example/g03220/laws.FnExactSameMeaning", spec := "fnExactSameMeaning", recurses := true, loops := true, apart := false, narrowed := true }
def FnExactSameMeaningUptoSaid : Prop := fnExactSameMeaningUptoRow.holds Try.pinned (OpenSpec.upto fnExactSameMeaningSpec)

/-- 'laws.FnScopes', WHERE WHAT IT READS IS OF BULK AT MOST 1048576: true; the input reads as it did. -/
def fnScopesUptoRow : OpenClaim := { program := "ytkofpfcbjfkdpaa", sum := "97f2204233955a6bae688866d1fd3e4daf45fcc99f13ccf0e19ab67deb90b95c", func := "loop.example/g03220/laws.FnScopes", spec := "fnScopes", unfollowed := true, recurses := true, apart := false, narrowed := true }
def FnScopesUptoSaid : Prop := fnScopesUptoRow.holds Try.pinned (OpenSpec.upto fnScopesSpec)

/-- 'laws.FnExactCandidates', WHERE WHAT IT READS IS OF BULK AT MOST 1048576: true; the input reads as it did. -/
def fnExactCandidatesUptoRow : OpenClaim := { program := "ytkofpfcbjfkdpaa", sum := "97f2204233955a6bae688866d1fd3e4daf45fcc99f13ccf0e19ab67deb90b95c", func := "loop.example/g03220/laws.FnExactCandidates", spec := "fnExactCandidates", recurses := true, loops := true, apart := false, narrowed := true }
def FnExactCandidatesUptoSaid : Prop := fnExactCandidatesUptoRow.holds Try.pinned (OpenSpec.upto fnExactCandidatesSpec)

/-- 'laws.FnResolved', WHERE WHAT IT READS IS OF BULK AT MOST 1048576: true; the input reads as it did. -/
def fnResolvedUptoRow : OpenClaim := { program := "ytkofpfcbjfkdpaa", sum := "97f2204233955a6bae688866d1fd3e4daf45fcc99f13ccf0e19ab67deb90b95c", func := "loop.example/g03220/laws.FnResolved", spec := "fnResolved", recurses := true, apart := false, narrowed := true }
def FnResolvedUptoSaid : Prop := fnResolvedUptoRow.holds Try.pinned (OpenSpec.upto fnResolvedSpec)

/-- 'laws.FnExactResolve', WHERE WHAT IT READS IS OF BULK AT MOST 1048576: true; the input reads as it did. -/
def fnExactResolveUptoRow : OpenClaim := { program := "ytkofpfcbjfkdpaa", sum := "97f2204233955a6bae688866d1fd3e4daf45fcc99f13ccf0e19ab67deb90b95c", func := "loop.example/g03220/laws.FnExactResolve", spec := "fnExactResolve", recurses := true, loops := true, apart := false, narrowed := true }
def FnExactResolveUptoSaid : Prop := fnExactResolveUptoRow.holds Try.pinned (OpenSpec.upto fnExactResolveSpec)

end Rows
end Go.Proofs.Ytkofpfcbjfkdpaa
