/-
  NARROWER THAN 'FOR EVERY INPUT', by the rows' own cells (each row's printed sentence says how): FnExactEqualCaptures: loops · FnExactIdentifiersIn: loops.
  DERIVED. THE GIVEN ROWS OF THIS SEAT. 6 by the template 'for every input the law returns true; each argument reads behind the call as it read before'; 0 by the template 'total and deterministic' (their statements: YtoflfamfhpijcaaTotals.lean).
  GIVEN WITH THE SEED: the statements are not yours to turn. If you find one false, say at which input.
  Laid BY PROGRAM, IN A SANDBOX (cutbox-rows.mjs): the forced cells as the released guide's own fill.sh prints them over the translation 5b17f490173b3ac6… (all of the seat's roots in one cut). By AI agents, Wed Nov 11 2026. No macro, syntax, notation, axiom, sorry.
-/
import Derived.Test.YtoflfamfhpijcaaChecked
import GoSem.Claim
import GoSem.ClaimJoined
import GoSem.ClaimMapViews
import Derived.JoinedTies
import Derived.KernelRfl
namespace Go.Proofs.Ytoflfamfhpijcaa
/- THE CELL 'sum', in the pinned program and in every row, IS THE sha256 OF THE DUMP (.gsa) THAT YtoflfamfhpijcaaProg.lean LOADS. Nothing in Lean hashes anything: it is a label: what it is worth is what the hold of that sum in a sandbox is worth. -/
noncomputable def Try.pinned : Pinned := { name := "ytoflfamfhpijcaa", sum := "5b17f490173b3ac6092e0f77827ab8cd1254aa27f6b4efcc019deb11e7461d42", checked := Try.checked }
namespace Rows
def none {H : Type} : Left H := { results := [], args := [] }

/-- 'laws.FnExactEqualCaptures': WHATEVER THE INPUT: true; the input reads as it did. -/
def fnExactEqualCapturesSpec : ChangeSpec := { name := "fnExactEqualCaptures", fn := fun _ => fun
  | [d1, d2] => { results := [.lit (.bool true)], args := [d1, d2] }
  | _ => none }
def fnExactEqualCapturesRow : OpenClaim := { program := "ytoflfamfhpijcaa", sum := "5b17f490173b3ac6092e0f77827ab8cd1254aa27f6b4efcc019deb11e7461d42", func := "loop.example/g03220/laws.FnExactEqualCaptures", spec := "fnExactEqualCaptures", recurses := true, loops := true, apart := false }
def FnExactEqualCapturesSaid : Prop := fnExactEqualCapturesRow.holds Try.pinned (OpenSpec.ofChange fnExactEqualCapturesSpec)

/-- ITS FALSE NEIGHBOUR: 'it returns false'. Refute it at one input. -/
def fnExactEqualCapturesWrong : ChangeSpec := { name := "fnExactEqualCaptures", fn := fun _ => fun
  | [d1, d2] => { results := [.lit (.bool false)], args := [d1, d2] }
  | _ => none }
def FnExactEqualCapturesWrongFalsely : Prop := fnExactEqualCapturesRow.holds Try.pinned (OpenSpec.ofChange fnExactEqualCapturesWrong)

/-- 'laws.FnSwapTwice': WHATEVER THE INPUT: true; the input reads as it did. -/
def fnSwapTwiceSpec : ChangeSpec := { name := "fnSwapTwice", fn := fun _ => fun
  | [d] => { results := [.lit (.bool true)], args := [d] }
  | _ => none }
def fnSwapTwiceRow : OpenClaim := { program := "ytoflfamfhpijcaa", sum := "5b17f490173b3ac6092e0f77827ab8cd1254aa27f6b4efcc019deb11e7461d42", func := "loop.example/g03220/laws.FnSwapTwice", spec := "fnSwapTwice", recurses := true, apart := false }
def FnSwapTwiceSaid : Prop := fnSwapTwiceRow.holds Try.pinned (OpenSpec.ofChange fnSwapTwiceSpec)

/-- ITS FALSE NEIGHBOUR: 'it returns false'. Refute it at one input. -/
def fnSwapTwiceWrong : ChangeSpec := { name := "fnSwapTwice", fn := fun _ => fun
  | [d] => { results := [.lit (.bool false)], args := [d] }
  | _ => none }
def FnSwapTwiceWrongFalsely : Prop := fnSwapTwiceRow.holds Try.pinned (OpenSpec.ofChange fnSwapTwiceWrong)

/-- 'laws.FnBound': WHATEVER THE INPUT: true; the input reads as it did. -/
def fnBoundSpec : ChangeSpec := { name := "fnBound", fn := fun _ => fun
  | [d] => { results := [.lit (.bool true)], args := [d] }
  | _ => none }
def fnBoundRow : OpenClaim := { program := "ytoflfamfhpijcaa", sum := "5b17f490173b3ac6092e0f77827ab8cd1254aa27f6b4efcc019deb11e7461d42", func := "loop.example/g03220/laws.FnBound", spec := "fnBound", recurses := true, apart := false }
def FnBoundSaid : Prop := fnBoundRow.holds Try.pinned (OpenSpec.ofChange fnBoundSpec)

/-- ITS FALSE NEIGHBOUR: 'it returns false'. Refute it at one input. -/
def fnBoundWrong : ChangeSpec := { name := "fnBound", fn := fun _ => fun
  | [d] => { results := [.lit (.bool false)], args := [d] }
  | _ => none }
def FnBoundWrongFalsely : Prop := fnBoundRow.holds Try.pinned (OpenSpec.ofChange fnBoundWrong)

/-- 'laws.FnExactIdentifiersIn': WHATEVER THE INPUT: true; the input reads as it did. -/
def fnExactIdentifiersInSpec : ChangeSpec := { name := "fnExactIdentifiersIn", fn := fun _ => fun
  | [d] => { results := [.lit (.bool true)], args := [d] }
  | _ => none }
def fnExactIdentifiersInRow : OpenClaim := { program := "ytoflfamfhpijcaa", sum := "5b17f490173b3ac6092e0f77827ab8cd1254aa27f6b4efcc019deb11e7461d42", func := "loop.example/g03220/laws.FnExactIdentifiersIn", spec := "fnExactIdentifiersIn", unfollowed := true, recurses := true, loops := true, apart := false }
def FnExactIdentifiersInSaid : Prop := fnExactIdentifiersInRow.holds Try.pinned (OpenSpec.ofChange fnExactIdentifiersInSpec)

/-- ITS FALSE NEIGHBOUR: 'it returns false'. Refute it at one input. -/
def fnExactIdentifiersInWrong : ChangeSpec := { name := "fnExactIdentifiersIn", fn := fun _ => fun
  | [d] => { results := [.lit (.bool false)], args := [d] }
  | _ => none }
def FnExactIdentifiersInWrongFalsely : Prop := fnExactIdentifiersInRow.holds Try.pinned (OpenSpec.ofChange fnExactIdentifiersInWrong)

/-- 'laws.FnScopes': WHATEVER THE INPUT: true; the input reads as it did. -/
def fnScopesSpec : ChangeSpec := { name := "fnScopes", fn := fun _ => fun
  | [d] => { results := [.lit (.bool true)], args := [d] }
  | _ => none }
def fnScopesRow : OpenClaim := { program := "ytoflfamfhpijcaa", sum := "5b17f490173b3ac6092e0f77827ab8cd1254aa27f6b4efcc019deb11e7461d42", func := "loop.example/g03220/laws.FnScopes", spec := "fnScopes", unfollowed := true, recurses := true, apart := false }
def FnScopesSaid : Prop := fnScopesRow.holds Try.pinned (OpenSpec.ofChange fnScopesSpec)

/-- ITS FALSE NEIGHBOUR: 'it returns false'. Refute it at one input. -/
def fnScopesWrong : ChangeSpec := { name := "fnScopes", fn := fun _ => fun
  | [d] => { results := [.lit (.bool false)], args := [d] }
  | _ => none }
def FnScopesWrongFalsely : Prop := fnScopesRow.holds Try.pinned (OpenSpec.ofChange fnScopesWrong)

/-- 'laws.FnResolved': WHATEVER THE INPUT: true; the input reads as it did. -/
def fnResolvedSpec : ChangeSpec := { name := "fnResolved", fn := fun _ => fun
  | [d] => { results := [.lit (.bool true)], args := [d] }
  | _ => none }
def fnResolvedRow : OpenClaim := { program := "ytoflfamfhpijcaa", sum := "5b17f490173b3ac6092e0f77827ab8cd1254aa27f6b4efcc019deb11e7461d42", func := "loop.example/g03220/laws.FnResolved", spec := "fnResolved", recurses := true, apart := false }
def FnResolvedSaid : Prop := fnResolvedRow.holds Try.pinned (OpenSpec.ofChange fnResolvedSpec)

/-- ITS FALSE NEIGHBOUR: 'it returns false'. Refute it at one input. -/
def fnResolvedWrong : ChangeSpec := { name := "fnResolved", fn := fun _ => fun
  | [d] => { results := [.lit (.bool false)], args := [d] }
  | _ => none }
def FnResolvedWrongFalsely : Prop := fnResolvedRow.holds Try.pinned (OpenSpec.ofChange fnResolvedWrong)

/- THE SECOND FORM. 'bulk': how many values and letters a reading holds, each counted each time it is reached (what is shared counts as often as it is met; a slice's spare places count too). A statement '..UptoSaid' is the law's where the arguments, and the package variables that the reading takes, are together of bulk at most 1048576: NARROWER than '..Said'. Prove '..Said' where nothing that the law and all that it calls make is longer than what came in: it says more and counts as full. Else prove '..UptoSaid'. A law counts once. -/
mutual
def uptoBulk {H : Type} : DataW H → Nat
  | .lit (.string bytes) => bytes.length + 1
  | .lit _ => 1
  | .nil => 1
  | .ptr d => uptoBulk d + 1
  | .slice elems spare => uptoBulkAll elems + uptoBulkAll spare + 1
  | .agg parts => uptoBulkAll parts + 1
  | .iface _ d => uptoBulk d + 1
  | .map entries => uptoBulkEntries entries + 1
  | .held _ => 1
def uptoBulkAll {H : Type} : List (DataW H) → Nat
  | [] => 0
  | d :: r => uptoBulk d + uptoBulkAll r
def uptoBulkEntries {H : Type} : List (Lit × DataW H) → Nat
  | [] => 0
  | x :: r => uptoBulkEntry x + uptoBulkEntries r
def uptoBulkEntry {H : Type} : Lit × DataW H → Nat
  | (.string bytes, d) => bytes.length + uptoBulk d + 1
  | (_, d) => uptoBulk d + 1
 end
def uptoSmall : (H : Type) → List (DataW H) → Bool := fun _ ds => decide (uptoBulkAll ds ≤ 1048576)
def OpenSpec.upto (s : _root_.Go.ChangeSpec) : _root_.Go.OpenSpec := { _root_.Go.OpenSpec.ofChange s with cond := some uptoSmall }

/-- 'laws.FnExactEqualCaptures', WHERE WHAT IT READS IS OF BULK AT MOST 1048576: true; the input reads as it did. -/
def fnExactEqualCapturesUptoRow : OpenClaim := { program := "ytoflfamfhpijcaa", sum := "5b17f490173b3ac6092e0f77827ab8cd1254aa27f6b4efcc019deb11e7461d42", func := "loop.example/g03220/laws.FnExactEqualCaptures", spec := "fnExactEqualCaptures", recurses := true, loops := true, apart := false, narrowed := true }
def FnExactEqualCapturesUptoSaid : Prop := fnExactEqualCapturesUptoRow.holds Try.pinned (OpenSpec.upto fnExactEqualCapturesSpec)

/-- 'laws.FnSwapTwice', WHERE WHAT IT READS IS OF BULK AT MOST 1048576: true; the input reads as it did. -/
def fnSwapTwiceUptoRow : OpenClaim := { program := "ytoflfamfhpijcaa", sum := "5b17f490173b3ac6092e0f77827ab8cd1254aa27f6b4efcc019deb11e7461d42", func := "loop.example/g03220/laws.FnSwapTwice", spec := "fnSwapTwice", recurses := true, apart := false, narrowed := true }
def FnSwapTwiceUptoSaid : Prop := fnSwapTwiceUptoRow.holds Try.pinned (OpenSpec.upto fnSwapTwiceSpec)

/-- 'laws.FnBound', WHERE WHAT IT READS IS OF BULK AT MOST 1048576: true; the input reads as it did. -/
def fnBoundUptoRow : OpenClaim := { program := "ytoflfamfhpijcaa", sum := "5b17f490173b3ac6092e0f77827ab8cd1254aa27f6b4efcc019deb11e7461d42", func := "loop.example/g03220/laws.FnBound", spec := "fnBound", recurses := true, apart := false, narrowed := true }
def FnBoundUptoSaid : Prop := fnBoundUptoRow.holds Try.pinned (OpenSpec.upto fnBoundSpec)

/-- 'laws.FnExactIdentifiersIn', WHERE WHAT IT READS IS OF BULK AT MOST 1048576: true; the input reads as it did. -/
def fnExactIdentifiersInUptoRow : OpenClaim := { program := "ytoflfamfhpijcaa", sum := "5b17f490173b3ac6092e0f77827ab8cd1254aa27f6b4efcc019deb11e7461d42", func := "loop.example/g03220/laws.FnExactIdentifiersIn", spec := "fnExactIdentifiersIn", unfollowed := true, recurses := true, loops := true, apart := false, narrowed := true }
def FnExactIdentifiersInUptoSaid : Prop := fnExactIdentifiersInUptoRow.holds Try.pinned (OpenSpec.upto fnExactIdentifiersInSpec)

/-- 'laws.FnScopes', WHERE WHAT IT READS IS OF BULK AT MOST 1048576: true; the input reads as it did. -/
def fnScopesUptoRow : OpenClaim := { program := "ytoflfamfhpijcaa", sum := "5b17f490173b3ac6092e0f77827ab8cd1254aa27f6b4efcc019deb11e7461d42", func := "loop.example/g03220/laws.FnScopes", spec := "fnScopes", unfollowed := true, recurses := true, apart := false, narrowed := true }
def FnScopesUptoSaid : Prop := fnScopesUptoRow.holds Try.pinned (OpenSpec.upto fnScopesSpec)

/-- 'laws.FnResolved', WHERE WHAT IT READS IS OF BULK AT MOST 1048576: true; the input reads as it did. -/
def fnResolvedUptoRow : OpenClaim := { program := "ytoflfamfhpijcaa", sum := "5b17f490173b3ac6092e0f77827ab8cd1254aa27f6b4efcc019deb11e7461d42", func := "loop.example/g03220/laws.FnResolved", spec := "fnResolved", recurses := true, apart := false, narrowed := true }
def FnResolvedUptoSaid : Prop := fnResolvedUptoRow.holds Try.pinned (OpenSpec.upto fnResolvedSpec)

end Rows
end Go.Proofs.Ytoflfamfhpijcaa
