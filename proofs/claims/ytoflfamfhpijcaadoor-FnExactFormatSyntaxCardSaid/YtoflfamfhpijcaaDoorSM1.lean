/-
  Walks: marking syntax. No condition.
-/
import Derived.Test.YtoflfamfhpijcaaDoorY4
import Derived.Test.YtoflfamfhpijcaaDoorW5
import Derived.Test.YtoflfamfhpijcaaDoorSet
set_option linter.unusedVariables false
set_option linter.unusedSimpArgs false
set_option maxRecDepth 100000
namespace Go.Proofs.YtoflfamfhpijcaaDoor
open Go.RowKit

mutual
/-- how many places of a piece of syntax are numbered -/
def Syn.places : Syn → Nat
  | .mk _ _ _ x es => 3 + x.length + Syn.placesL es
def Syn.placesL : List Syn → Nat
  | [] => 0
  | d :: r => d.places + Syn.placesL r
end
theorem Syn.placesL_append (xs ys : List Syn) : Syn.placesL (xs ++ ys) = Syn.placesL xs + Syn.placesL ys := by
  induction xs with
  | nil => simp [Syn.placesL]
  | cons x r ih => simp only [List.cons_append, Syn.placesL, ih]; omega
theorem Syn.placesL_le (ds : List Syn) (k : Nat) (d : Syn) (h : ds[k]? = some d) : Syn.placesL (ds.take (k+1)) = Syn.placesL (ds.take k) + d.places ∧ Syn.placesL (ds.take k) + d.places ≤ Syn.placesL ds := by
  have h1 : Syn.placesL (ds.take (k+1)) = Syn.placesL (ds.take k) + d.places := by rw [take_snoc h, Syn.placesL_append]; simp [Syn.placesL]
  refine ⟨h1, ?_⟩
  rw [← h1]
  conv => rhs; rw [← List.take_append_drop (k+1) ds, Syn.placesL_append]
  omega
theorem Syn.placesL_wt (ds : List Syn) : Syn.placesL ds ≤ 3 * (ds.length + Syn.wtX ds) := by
  refine Syn.inductL (P := fun ds => Syn.placesL ds ≤ 3 * (ds.length + Syn.wtX ds)) (fun ds ih => ?_) ds
  induction ds with
  | nil => simp [Syn.placesL]
  | cons d r ihr =>
    obtain ⟨k, n, s, x, es⟩ := d
    have h1 := ih k n s x es (List.mem_cons_self ..)
    have h2 := ihr fun k n s x es hm => ih k n s x es (List.mem_cons_of_mem _ hm)
    simp only [Syn.placesL, Syn.places, Syn.wtX, Syn.wt, List.length_cons] at *
    omega
mutual
/-- A piece of syntax whose places have been numbered from k on. -/
def Syn.mark (k : Int) : Syn → Syn
  | .mk _ _ _ x es => .mk k (k + 1) (mtx (k + 2)) (cnt (k + 3) x.length) (Syn.markL (k + 3 + (x.length : Int)) es)
def Syn.markL (k : Int) : List Syn → List Syn
  | [] => []
  | d :: r => d.mark k :: Syn.markL (k + (d.places : Int)) r
end
theorem Syn.markL_append (xs ys : List Syn) : ∀ k, Syn.markL k (xs ++ ys) = Syn.markL k xs ++ Syn.markL (k + (Syn.placesL xs : Int)) ys := by
  induction xs with
  | nil => intro k; simp [Syn.markL, Syn.placesL]
  | cons x r ih =>
    intro k
    simp only [List.cons_append, Syn.markL, Syn.placesL, ih]
    congr 3
    push_cast; omega
theorem Syn.markL_length (ds : List Syn) : ∀ k, (Syn.markL k ds).length = ds.length := by
  induction ds with
  | nil => intro k; rfl
  | cons x r ih => intro k; simp [Syn.markL, ih]
theorem Syn.markL_take {ds : List Syn} {j : Nat} {d : Syn} (h : ds[j]? = some d) (k : Int) : Syn.markL k (ds.take (j + 1)) = Syn.markL k (ds.take j) ++ [d.mark (k + (Syn.placesL (ds.take j) : Int))] := by
  rw [take_snoc h, Syn.markL_append]; rfl
theorem Syn.mark_set {ds : List Syn} {j : Nat} {d : Syn} (h : ds[j]? = some d) (k : Int) :
    (Syn.markL k (ds.take j) ++ ds.drop j).set j (d.mark (k + (Syn.placesL (ds.take j) : Int))) = Syn.markL k (ds.take (j + 1)) ++ ds.drop (j + 1) := by
  obtain ⟨hj, rfl⟩ := List.getElem?_eq_some_iff.1 h
  have hl : (Syn.markL k (ds.take j)).length = j := by rw [Syn.markL_length]; simp; omega
  rw [List.set_append, hl, if_neg (by omega), Nat.sub_self, List.drop_eq_getElem_cons hj, List.set_cons_zero, Syn.markL_take h k]
  simp
theorem Syn.mark_at {ds : List Syn} {j : Nat} (k : Int) (hj : j < ds.length) : (Syn.markL k (ds.take j) ++ ds.drop j)[j]? = ds[j]? := by
  have hl : (Syn.markL k (ds.take j)).length = j := by rw [Syn.markL_length]; simp; omega
  rw [List.getElem?_append_right (by omega), hl, Nat.sub_self, List.getElem?_drop]; simp
theorem Syn.markL_get {ds : List Syn} {j : Nat} {d : Syn} (h : ds[j]? = some d) (k : Int) : (Syn.markL k ds)[j]? = some (d.mark (k + (Syn.placesL (ds.take j) : Int))) := by
  obtain ⟨hj, rfl⟩ := List.getElem?_eq_some_iff.1 h
  conv => lhs; rw [← List.take_append_drop j ds, List.drop_eq_getElem_cons hj, Syn.markL_append]
  have hl : (Syn.markL k (ds.take j)).length = j := by rw [Syn.markL_length]; simp; omega
  rw [List.getElem?_append_right (by omega), hl, Nat.sub_self]; rfl

end Go.Proofs.YtoflfamfhpijcaaDoor
