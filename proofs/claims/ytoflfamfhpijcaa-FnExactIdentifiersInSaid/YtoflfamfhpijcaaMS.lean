/-
  Scopes mapped, in plain terms. No condition. (printed by wip/tools/mkms.py)
-/
import Derived.Test.YtoflfamfhpijcaaBox
import Derived.Test.YtoflfamfhpijcaaPush
import Derived.Test.YtoflfamfhpijcaaY9
import Derived.Test.YtoflfamfhpijcaaSM1
import Derived.Test.YtoflfamfhpijcaaI4
set_option linter.unusedVariables false
set_option linter.unusedSimpArgs false
set_option maxRecDepth 100000
namespace Go.Proofs.Ytoflfamfhpijcaa
open Go.RowKit

/-- Owned data whose blocks lie in lo..hi and are not g. -/
structure M.Free (m : M) (lo hi g : Nat) (w : World) : Prop where
  mine : m.Mine w lo
  lt : ∀ b ∈ m.blocks, b < hi ∧ b ≠ g
  hi : hi ≤ w.heap.size
theorem M.Free.keep {m : M} {lo hi g : Nat} {w w' : World} (h : m.Free lo hi g w) (hs : hi ≤ w'.heap.size) (hk : ∀ b, lo ≤ b → b < hi → b ≠ g → w'.heap[b]? = w.heap[b]?) : m.Free lo hi g w' :=
  ⟨⟨M.Own.frame m h.mine.own fun b hb => hk b (h.mine.lt b hb).1 (h.lt b hb).1 (h.lt b hb).2, h.mine.dup⟩, h.lt, hs⟩
def mapX (F : List Int → List Int) (k : Int) (x : List Int) : List Int := if k = 1 then F x else x
theorem mapX_one (F : List Int → List Int) (x : List Int) : mapX F 1 x = F x := by simp [mapX]
theorem mapX_other {k : Int} (h : ¬ k = 1) (F : List Int → List Int) (x : List Int) : mapX F k x = x := by simp [mapX, h]
mutual
def mapSyn (F : List Int → List Int) : Syn → Syn
  | .mk k n s x ds => .mk k n s (mapX F k x) (mapSynL F ds)
def mapSynL (F : List Int → List Int) : List Syn → List Syn
  | [] => []
  | d :: r => mapSyn F d :: mapSynL F r
end
theorem mapSynL_append (F : List Int → List Int) : ∀ (ds es : List Syn), mapSynL F (ds ++ es) = mapSynL F ds ++ mapSynL F es
  | [], es => by simp [mapSynL]
  | d :: r, es => by simp only [List.cons_append, mapSynL]; rw [mapSynL_append F r es]
theorem mapSynL_take {F : List Int → List Int} {ds : List Syn} {j : Nat} {k n : Int} {s : ByteArray} {x : List Int} {es : List Syn} (h : ds[j]? = some (.mk k n s x es)) : mapSynL F (ds.take (j + 1)) = mapSynL F (ds.take j) ++ [.mk k n s (mapX F k x) (mapSynL F es)] := by
  rw [take_snoc h, mapSynL_append]; simp [mapSynL, mapSyn]
theorem Syn.ok_items {k n : Int} {s : ByteArray} {x : List Int} {es : List Syn} (h : (Syn.mk k n s x es).ok) : Syn.okL es := h.2.2
theorem Syn.ok_set {k n : Int} {s : ByteArray} {x : List Int} {es : List Syn} (h : (Syn.mk k n s x es).ok) : ssB x = true := by
  have := h.2.1; simp only [scB, Bool.and_eq_true] at this; exact this.1
theorem mapX_length {F : List Int → List Int} (hF : ∀ x, (F x).length ≤ 2 * x.length + 1) (k : Int) (x : List Int) : (mapX F k x).length ≤ 2 * x.length + 1 := by
  unfold mapX; split
  · exact hF x
  · omega
theorem mapSynL_places {F : List Int → List Int} (hF : ∀ x, (F x).length ≤ 2 * x.length + 1) (ds : List Syn) : Syn.placesL (mapSynL F ds) ≤ 2 * Syn.placesL ds := by
  refine Syn.inductL (P := fun ds => Syn.placesL (mapSynL F ds) ≤ 2 * Syn.placesL ds) (fun ds ih => ?_) ds
  induction ds with
  | nil => simp [Syn.placesL, mapSynL]
  | cons d r ihr =>
    obtain ⟨k, n, s, x, es⟩ := d
    have h1 := ih k n s x es (List.mem_cons_self ..)
    have h2 := ihr fun k n s x es hm => ih k n s x es (List.mem_cons_of_mem _ hm)
    have h3 := mapX_length hF k x
    simp only [Syn.placesL, Syn.places, mapSynL, mapSyn] at *
    omega
theorem mapX_id (k : Int) (x : List Int) : mapX id k x = x := by simp [mapX]
theorem mapSynL_id (ds : List Syn) : mapSynL id ds = ds := by
  refine Syn.inductL (P := fun ds => mapSynL id ds = ds) (fun ds ih => ?_) ds
  induction ds with
  | nil => rfl
  | cons d r ihr =>
    obtain ⟨k, n, s, x, es⟩ := d
    have h1 := ih k n s x es (List.mem_cons_self ..)
    have h2 := ihr fun k n s x es hm => ih k n s x es (List.mem_cons_of_mem _ hm)
    simp only [mapSynL, mapSyn, mapX_id, h1, h2]
def flipTo (m : Int) (l : List Int) : List Int := flipL l m
def flipSo (m : Int) (l : List Int) : List Int := flipS l m
/-- two ways to map scopes that agree on sets of scopes agree on a right piece of syntax -/
theorem mapSynL_ok {F G : List Int → List Int} (hFG : ∀ x, ssB x = true → F x = G x) (ds : List Syn) (h : Syn.okL ds) : mapSynL F ds = mapSynL G ds := by
  revert h
  refine Syn.inductL (P := fun ds => Syn.okL ds → mapSynL F ds = mapSynL G ds) (fun ds ih => ?_) ds
  induction ds with
  | nil => intro _; rfl
  | cons d r ihr =>
    obtain ⟨k, n, s, x, es⟩ := d
    intro h
    have h1 := ih k n s x es (List.mem_cons_self ..) (Syn.ok_items h.1)
    have h2 := ihr (fun k n s x es hm => ih k n s x es (List.mem_cons_of_mem _ hm)) h.2
    have h3 := hFG x (Syn.ok_set h.1)
    simp only [mapSynL, mapSyn, mapX, h1, h2, h3]
/-- what changing the scopes of all identifiers hands back, if it may -/
noncomputable def mapGx (b : Bool) (F : List Int → List Int) (k : Int) (x : List Int) : List Int := if b = true then mapX F k x else x
noncomputable def mapGd (b : Bool) (F : List Int → List Int) (ds : List Syn) : List Syn := if b = true then mapSynL F ds else ds
theorem mapGx_yes (F : List Int → List Int) (k : Int) (x : List Int) : mapGx true F k x = mapX F k x := rfl
theorem mapGx_no (F : List Int → List Int) (k : Int) (x : List Int) : mapGx false F k x = x := rfl
theorem mapGd_yes (F : List Int → List Int) (ds : List Syn) : mapGd true F ds = mapSynL F ds := rfl
theorem mapGd_no (F : List Int → List Int) (ds : List Syn) : mapGd false F ds = ds := rfl
theorem mapG_places {F : List Int → List Int} (hF : ∀ x, (F x).length ≤ 2 * x.length + 1) (b : Bool) (k : Int) (x : List Int) (ds : List Syn) : (mapGx b F k x).length + Syn.placesL (mapGd b F ds) ≤ 2 * x.length + 1 + 2 * Syn.placesL ds := by
  cases b with
  | false => rw [mapGx_no, mapGd_no]; omega
  | true => rw [mapGx_yes, mapGd_yes]; have := mapX_length hF k x; have := mapSynL_places hF ds; omega
end Go.Proofs.Ytoflfamfhpijcaa
