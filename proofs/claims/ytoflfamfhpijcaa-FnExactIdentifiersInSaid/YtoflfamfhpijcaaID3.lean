/-
  The identifiers of a piece of syntax: how many, of which kind, how great. No condition.
-/
import Derived.Test.YtoflfamfhpijcaaID1
import Derived.Test.YtoflfamfhpijcaaY9
set_option linter.unusedVariables false
set_option linter.unusedSimpArgs false
namespace Go.Proofs.Ytoflfamfhpijcaa
open Go.RowKit

theorem idD_mk (k n : Int) (s : ByteArray) (x : List Int) (ds acc : List Syn) : idD (.mk k n s x ds) acc = idL ds (addI k n s x ds acc) := by rw [idD]
theorem idL_nil (acc : List Syn) : idL [] acc = acc := by rw [idL]
theorem idL_ind {P : List Syn → List Syn → List Syn → Prop} (h0 : ∀ acc, P [] acc acc) (hs : ∀ (ds : List Syn) (k n : Int) (s : ByteArray) (x : List Int) (es acc cur out : List Syn), P ds acc cur → P es (addI k n s x es cur) out → P (ds ++ [.mk k n s x es]) acc out) : ∀ ds acc, P ds acc (idL ds acc) := by
  refine Syn.inductL fun ds ih => ?_
  intro acc
  have key : ∀ j, j ≤ ds.length → P (ds.take j) acc (idL (ds.take j) acc) := by
    intro j
    induction j with
    | zero => intro _; simpa [idL_nil] using h0 acc
    | succ j ihj =>
      intro hj
      have hd : ds[j]? = some ds[j] := List.getElem?_eq_getElem (by omega)
      have h1 := ihj (by omega)
      rw [idL_take hd, take_snoc hd]
      cases hx : ds[j] with
      | mk k1 n1 s1 x1 ds1 =>
        have h3 := ih k1 n1 s1 x1 ds1 (by rw [← hx]; exact List.getElem_mem _) (addI k1 n1 s1 x1 ds1 (idL (ds.take j) acc))
        rw [idD_mk]
        exact hs _ _ _ _ _ _ _ _ _ h1 h3
  have := key ds.length (Nat.le_refl _)
  rwa [List.take_length] at this
theorem countL_snoc (ds : List Syn) (d : Syn) : Syn.countL (ds ++ [d]) = Syn.countL ds + d.count := by
  induction ds with
  | nil => simp [Syn.countL]
  | cons e r ih => simp only [List.cons_append, Syn.countL, ih]; omega
theorem idL_length (ds acc : List Syn) : (idL ds acc).length ≤ acc.length + Syn.countL ds := by
  refine idL_ind (P := fun ds acc out => out.length ≤ acc.length + Syn.countL ds) (fun acc => by simp [Syn.countL]) (fun ds k n s x es acc cur out h1 h2 => ?_) ds acc
  have h4 := addI_length k n s x es cur
  rw [countL_snoc]; simp only [Syn.count]; omega
theorem addI_one {k n : Int} {s : ByteArray} {x : List Int} {ds acc : List Syn} (h : ∀ y ∈ acc, y.k = 1) : ∀ y ∈ addI k n s x ds acc, y.k = 1 := by
  unfold addI; split
  · rename_i hk
    intro y hy
    rcases List.mem_append.1 hy with hy | hy
    · exact h y hy
    · simp at hy; subst hy; exact hk.1
  · exact h
theorem idL_one {ds acc : List Syn} (h : ∀ y ∈ acc, y.k = 1) : ∀ y ∈ idL ds acc, y.k = 1 :=
  idL_ind (P := fun ds acc out => (∀ y ∈ acc, y.k = 1) → ∀ y ∈ out, y.k = 1) (fun acc h => h) (fun ds k n s x es acc cur out h1 h2 h => h2 (addI_one (h1 h))) ds acc h
theorem sym_items {n : Int} {s : ByteArray} {x : List Int} {ds : List Syn} (h : (Syn.mk 1 n s x ds).ok) : ds = [] := by
  have h1 := (Syn.ok_mk.1 h).1
  rw [nodeB, if_neg (by decide), if_pos rfl] at h1
  simp only [Bool.and_eq_true, decide_eq_true_eq] at h1
  have h2 := h1.2.2
  exact List.length_eq_zero_iff.1 (by omega)
theorem addI_places {k n : Int} {s : ByteArray} {x : List Int} {ds acc : List Syn} (h : (Syn.mk k n s x ds).ok) : Syn.placesL (addI k n s x ds acc) ≤ Syn.placesL acc + (3 + x.length) := by
  unfold addI; split
  · rename_i hk
    obtain ⟨rfl, _⟩ := hk
    have := sym_items h
    subst this
    rw [Syn.placesL_append]; simp [Syn.placesL, Syn.places]
  · omega
theorem idL_places {ds acc : List Syn} (h : ∀ d ∈ ds, d.ok) : Syn.placesL (idL ds acc) ≤ Syn.placesL acc + Syn.placesL ds := by
  refine idL_ind (P := fun ds acc out => (∀ d ∈ ds, d.ok) → Syn.placesL out ≤ Syn.placesL acc + Syn.placesL ds) (fun acc _ => by simp [Syn.placesL]) (fun ds k n s x es acc cur out h1 h2 h => ?_) ds acc h
  have hok := h (.mk k n s x es) (by simp)
  have h3 := h1 fun d hd => h d (by simp [hd])
  have h4 := h2 (Syn.ok_mk.1 hok).2.2
  have h5 := addI_places (acc := cur) hok
  rw [Syn.placesL_append]; simp only [Syn.placesL, Syn.places]; omega
noncomputable def idsOf (k n : Int) (s : ByteArray) (x : List Int) (ds : List Syn) : List Syn := if isSynB k n s x ds = true then idL ds (addI k n s x ds []) else []
theorem isSynB_ok' {k n : Int} {s : ByteArray} {x : List Int} {ds : List Syn} (h : isSynB k n s x ds = true) : (Syn.mk k n s x ds).ok := by classical (have h2 : IsSynP k n s x ds := by unfold isSynB at h; simpa using h); exact h2.2.2
theorem idsOf_places (k n : Int) (s : ByteArray) (x : List Int) (ds : List Syn) : Syn.placesL (idsOf k n s x ds) ≤ 3 + x.length + Syn.placesL ds := by
  unfold idsOf; split
  · rename_i hv
    have hok := isSynB_ok' hv
    have h1 := idL_places (acc := addI k n s x ds []) (Syn.ok_mk.1 hok).2.2
    have h2 := addI_places (acc := []) hok
    simp only [Syn.placesL] at h2
    omega
  · simp [Syn.placesL]
end Go.Proofs.Ytoflfamfhpijcaa
