/-
  The identifiers of a piece of syntax, in plain terms. No condition.
-/
import Derived.Test.YtoflfamfhpijcaaSM1
import Derived.Test.YtoflfamfhpijcaaY10
set_option linter.unusedVariables false
set_option linter.unusedSimpArgs false
namespace Go.Proofs.Ytoflfamfhpijcaa
open Go.RowKit

/-- an identifier with this text and these scopes is in the list -/
def HasId (acc : List Syn) (s : ByteArray) (x : List Int) : Prop := ∃ y ∈ acc, y.s = s ∧ y.x = x
open Classical in
noncomputable def hasIdB (acc : List Syn) (s : ByteArray) (x : List Int) : Bool := decide (HasId acc s x)
theorem hasIdB_iff (acc : List Syn) (s : ByteArray) (x : List Int) : hasIdB acc s x = true ↔ HasId acc s x := by simp [hasIdB]
theorem hasIdB_not (acc : List Syn) (s : ByteArray) (x : List Int) : hasIdB acc s x = false ↔ ¬ HasId acc s x := by simp [hasIdB]
theorem noId_nil (s : ByteArray) (x : List Int) : ¬ HasId [] s x := by rintro ⟨y, hy, _⟩; cases hy
theorem noId_step {acc : List Syn} {j : Nat} {d : Syn} {s : ByteArray} {x : List Int} (h : ¬ HasId (acc.take j) s x) (hd : acc[j]? = some d) (hn : ¬ (d.s = s ∧ d.x = x)) : ¬ HasId (acc.take (j + 1)) s x := by
  rintro ⟨y, hy, h1⟩
  rw [take_snoc hd, List.mem_append] at hy
  rcases hy with hy | hy
  · exact h ⟨y, hy, h1⟩
  · simp at hy; subst hy; exact hn h1
open Classical in
/-- the identifiers so far, and this one if it is one and new -/
noncomputable def addI (k n : Int) (s : ByteArray) (x : List Int) (ds : List Syn) (acc : List Syn) : List Syn := if k = 1 ∧ ¬ HasId acc s x then acc ++ [.mk k n s x ds] else acc
mutual
noncomputable def idD : Syn → List Syn → List Syn
  | .mk k n s x ds, acc => idL ds (addI k n s x ds acc)
noncomputable def idL : List Syn → List Syn → List Syn
  | [], acc => acc
  | d :: r, acc => idL r (idD d acc)
end
theorem idL_append : ∀ (ds es acc : List Syn), idL (ds ++ es) acc = idL es (idL ds acc)
  | [], es, acc => by simp [idL]
  | d :: r, es, acc => by simp only [List.cons_append, idL]; rw [idL_append r es]
theorem idL_take {ds : List Syn} {j : Nat} {d : Syn} (h : ds[j]? = some d) (acc : List Syn) : idL (ds.take (j + 1)) acc = idD d (idL (ds.take j) acc) := by
  rw [take_snoc h, idL_append]; simp [idL]
theorem addI_yes {acc : List Syn} {s : ByteArray} {x : List Int} (h : ¬ HasId acc s x) (n : Int) (ds : List Syn) : addI 1 n s x ds acc = acc ++ [.mk 1 n s x ds] := by simp [addI, h]
theorem addI_has {acc : List Syn} {s : ByteArray} {x : List Int} (h : HasId acc s x) (k n : Int) (ds : List Syn) : addI k n s x ds acc = acc := by simp [addI, h]
theorem addI_other {k : Int} (h : ¬ k = 1) (n : Int) (s : ByteArray) (x : List Int) (ds acc : List Syn) : addI k n s x ds acc = acc := by simp [addI, h]
theorem addI_length (k n : Int) (s : ByteArray) (x : List Int) (ds acc : List Syn) : (addI k n s x ds acc).length ≤ acc.length + 1 := by
  unfold addI; split <;> simp
end Go.Proofs.Ytoflfamfhpijcaa
