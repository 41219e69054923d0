/-
  What the map of AreBindings holds: the places of each text. No condition.
-/
import Derived.Test.YtkofpfcbjfkdpaaH1
import Derived.Test.YtkofpfcbjfkdpaaStep
import Derived.Maps.GroupsBeside
set_option linter.unusedVariables false
set_option linter.unusedSimpArgs false
set_option maxRecDepth 100000
namespace Go.Proofs.Ytkofpfcbjfkdpaa
open Go.RowKit Go.ChangeShapes

theorem lawStr : Go.Maps.Keyed Try.prog 9 := Go.Maps.string_keyed Try.underlying9
theorem zeroInts (w : World) : (zeroValue 40).run Try.prog w = .ok (.slice none 0 0) w := by kernel_rfl
def klS (s : ByteArray) : Lit := .string s.data.toList
theorem klS_inj {s t : ByteArray} (h : klS s = klS t) : s = t := by
  simp only [klS, Lit.string.injEq] at h
  exact ByteArray.ext (Array.toList_inj.mp h)
open Classical in
/-- the places of the bindings with a text -/
noncomputable def idxB : List Bnd → Nat → ByteArray → List Int
  | [], _, _ => []
  | d :: r, n, s => (if d.s = s then [(n : Int)] else []) ++ idxB r (n + 1) s
theorem idxB_append (l r : List Bnd) (s : ByteArray) : ∀ n, idxB (l ++ r) n s = idxB l n s ++ idxB r (n + l.length) s := by
  induction l with
  | nil => intro n; simp [idxB]
  | cons d t ih => intro n; simp only [List.cons_append, idxB, ih, List.append_assoc, List.length_cons]; rw [show n + 1 + t.length = n + (t.length + 1) by omega]
theorem idxB_take_same {ds : List Bnd} {j : Nat} {d : Bnd} (h : ds[j]? = some d) : idxB (ds.take (j + 1)) 0 d.s = idxB (ds.take j) 0 d.s ++ [(j : Int)] := by
  have hj := (List.getElem?_eq_some_iff.1 h).1
  rw [take_snoc h, idxB_append]
  simp [idxB, Nat.min_eq_left (Nat.le_of_lt hj)]
theorem idxB_take_other {ds : List Bnd} {j : Nat} {d : Bnd} {s : ByteArray} (h : ds[j]? = some d) (hs : ¬ d.s = s) : idxB (ds.take (j + 1)) 0 s = idxB (ds.take j) 0 s := by
  rw [take_snoc h, idxB_append]
  simp [idxB, hs]
theorem idxB_mem : ∀ {l : List Bnd} {n : Nat} {s : ByteArray} {z : Int}, z ∈ idxB l n s → ∃ (i : Nat) (d : Bnd), z = ((n + i : Nat) : Int) ∧ l[i]? = some d ∧ d.s = s
  | [], _, _, _, h => by simp [idxB] at h
  | d :: r, n, s, z, h => by
    simp only [idxB, List.mem_append] at h
    rcases h with h | h
    · split at h
      · rename_i hs
        simp at h
        exact ⟨0, d, by simpa using h, rfl, hs⟩
      · cases h
    · obtain ⟨i, e, h1, h2, h3⟩ := idxB_mem h
      exact ⟨i + 1, e, by rw [h1]; omega, by simpa using h2, h3⟩
theorem idxB_of : ∀ {l : List Bnd} {n i : Nat} {d : Bnd}, l[i]? = some d → ((n + i : Nat) : Int) ∈ idxB l n d.s
  | [], n, i, d, h => by simp at h
  | e :: r, n, 0, d, h => by
    simp at h; subst h
    simp [idxB]
  | e :: r, n, i + 1, d, h => by
    have := idxB_of (l := r) (n := n + 1) (i := i) (d := d) (by simpa using h)
    simp only [idxB, List.mem_append]
    exact .inr (by rw [show n + (i + 1) = n + 1 + i by omega]; exact this)
/-- the map as it reads, behind j bindings -/
noncomputable def Gd (ds : List Bnd) : Nat → DataW Unit
  | 0 => .map []
  | j + 1 => match ds[j]? with
    | none => Gd ds j
    | some d => (Gd ds j).put (klS d.s) (.slice (lits .i64 (idxB (ds.take (j + 1)) 0 d.s)) [])
theorem Gd_isMap (ds : List Bnd) : ∀ j, Go.Maps.IsMap (Gd ds j)
  | 0 => Go.Maps.isMap_empty
  | j + 1 => by
    unfold Gd
    split
    · exact Gd_isMap ds j
    · exact (Gd_isMap ds j).put _ _
theorem Gd_step {ds : List Bnd} {j : Nat} {d : Bnd} (h : ds[j]? = some d) : Gd ds (j + 1) = (Gd ds j).put (klS d.s) (.slice (lits .i64 (idxB (ds.take j) 0 d.s ++ [(j : Int)])) []) := by
  rw [← idxB_take_same h]
  conv => lhs; unfold Gd
  rw [h]
theorem Gd_at (ds : List Bnd) (s : ByteArray) : ∀ j, j ≤ ds.length → ((Gd ds j).atKey (klS s) .nil = .nil ∧ idxB (ds.take j) 0 s = []) ∨ ((Gd ds j).atKey (klS s) .nil = .slice (lits .i64 (idxB (ds.take j) 0 s)) [])
  | 0, _ => .inl ⟨rfl, by simp [idxB]⟩
  | j + 1, hj => by
    have hd : ds[j]? = some ds[j] := List.getElem?_eq_getElem (by omega)
    generalize ds[j] = d at hd
    rw [Gd_step hd]
    by_cases hs : d.s = s
    · subst hs
      right
      rw [Go.Maps.atKey_put_same (Gd_isMap ds j) (by simp [klS, WideAt.IsKeyLit]), idxB_take_same hd]
    · rw [Go.Maps.atKey_put_other (fun e => hs (klS_inj e).symm), idxB_take_other hd hs]
      exact Gd_at ds s j (by omega)
theorem lits_inj {a b : List Int} (h : (lits .i64 a : List (DataW Unit)) = lits .i64 b) : a = b := by
  unfold lits at h
  exact (List.map_inj_right (fun x y hxy => by simpa using hxy)).1 h
theorem zs_of {w : World} {base : Nat} {e : TypeId} {v : Value} {zs : List Int} {ds : List Bnd} {j : Nat} {s : ByteArray} (hj : j ≤ ds.length) (hat : (Gd ds j).atKey (klS s) .nil = rowDatum .i64 v zs) (ho : w.ownsInts base e .i64 v zs) : zs = idxB (ds.take j) 0 s := by
  rcases Gd_at ds s j hj with ⟨h1, h2⟩ | h1 <;> rw [h1] at hat <;> rcases ho.datum (H := Unit) with ⟨h3, h4⟩ | h3 <;> rw [h3] at hat
  · rw [h2, h4]
  · cases hat
  · cases hat
  · simp only [DataW.slice.injEq, and_true] at hat
    exact (lits_inj hat).symm
theorem row_slice {w : World} {base : Nat} {e : TypeId} {v : Value} {n : Nat} {cs : List Value} (h : w.ownsRow base e 1 v n cs) : ∃ a cap, v = .slice a n cap := by
  rcases h.2 with ⟨hv, hn⟩ | ⟨g, cap, cur, hv, _⟩
  · exact ⟨none, 0, by rw [hv, hn]⟩
  · exact ⟨_, _, hv⟩
theorem row_ints {w : World} {base : Nat} {e : TypeId} {a : Option Addr} {cap : Nat} {zs : List Int} (h : w.ownsRow base e 1 (.slice a zs.length cap) zs.length (zs.map (Value.int .i64))) : (M.sl a cap 1 e (intM zs)).In w := by
  have hh := ownsRow_hdr h (by decide)
  rw [← intM_cells] at hh
  refine ⟨⟨by rw [intM_length]; exact hh, ?_⟩, M.InL_of ?_⟩
  · intro x hx; simp [intM] at hx; obtain ⟨n, _, rfl⟩ := hx; rfl
  · intro x hx; simp [intM] at hx; obtain ⟨n, _, rfl⟩ := hx; trivial
theorem below_grown {B : Nat} {w w' : World} {row : Option Nat} (hg : w.grownBy w' row) (hB : B ≤ w.heap.size) (hr : ∀ j, row = some j → B ≤ j) : Below B w w' :=
  ⟨hg.os, hg.tape, hg.output, hg.size, fun k hk => hg.block k (by omega) fun he => by have := hr k he.symm; omega⟩
theorem grown_below' {w w' : World} (h : Below w.heap.size w w') : w.grownBy w' none := ⟨h.os, h.tape, h.output, h.size, fun k hk _ => h.block k hk⟩
theorem em_none (v : Value) : v.ownBlock = none ∨ v.ownBlock ≠ none := by cases v.ownBlock <;> simp

/-- What the look-up of a text finds in a world, and the way back to the map of one binding more. -/
structure Look (ds : List Bnd) (j : Nat) (s : ByteArray) (B WB : Nat) (W : World) (a : Option Addr) (cap : Nat) : Prop where
  run : (Instr.lookup 151 (.map (some B)) (.string s) false).run Try.prog W = .ok (.slice a (idxB (ds.take j) 0 s).length cap) W
  own : W.ownsRow (B + 1) 3 1 (.slice a (idxB (ds.take j) 0 s).length cap) (idxB (ds.take j) 0 s).length ((idxB (ds.take j) 0 s).map (Value.int .i64))
  off : ∀ g ∈ addrBlocks a, g ≠ WB
  len : (idxB (ds.take j) 0 s).length ≤ j
  back : ∀ (w3 : World) (a3 : Option Addr) (c3 : Nat), W.grownBy w3 (Value.ownBlock (.slice a (idxB (ds.take j) 0 s).length cap)) →
    w3.ownsRow (B + 1) 3 1 (.slice a3 ((idxB (ds.take j) 0 s).length + 1) c3) ((idxB (ds.take j) 0 s).length + 1) ((idxB (ds.take j) 0 s).map (Value.int .i64) ++ [.int .i64 j]) →
    (∀ g ∈ addrBlocks a3, g ∈ addrBlocks a ∨ W.heap.size ≤ g) →
    ∃ w4, (Instr.mapUpdate 151 (.map (some B)) (.string s) (.slice a3 ((idxB (ds.take j) 0 s).length + 1) c3)).run Try.prog w3 = .ok () w4 ∧ w4.ownsGroups Try.prog 9 (B + 1) 3 .i64 B (j + 1) (Gd ds (j + 1)) ∧ w3.grownBy w4 (some B)
theorem look {ds : List Bnd} {j : Nat} {d : Bnd} {B WB : Nat} {W : World} (hown : W.ownsGroups Try.prog 9 (B + 1) 3 .i64 B j (Gd ds j)) (hsh : W.Shuns B (fun g => g = WB)) (hd : ds[j]? = some d) (hs : d.s.size ≤ maxLen) (hj : j < 1000000000) :
    ∃ a cap, Look ds j d.s B WB W a cap := by
  have hjl := (List.getElem?_eq_some_iff.1 hd).1
  have hkey := Go.WideMaps.keyOf_string_mk (P := Try.prog) Try.underlying9 hs
  obtain ⟨v, zs, hrun, hat, hoi, hzl, hback⟩ := hown.at lawStr Try.underlying151 (zeroInts _) (by unfold maxLen; omega) hkey
  have hsn : ∀ g, v.ownBlock = some g → ¬ g = WB := by
    obtain ⟨es, clock, hb, F, _⟩ := hown
    rcases Go.Maps.fit_look false lawStr Try.underlying151 (zeroInts _) hb F hkey with ⟨hrun', _, _⟩ | ⟨e0, y, hm0, _, hrun', _, _, _⟩
    · rw [hrun] at hrun'
      obtain rfl : v = .slice none 0 0 := by simpa using hrun'
      intro g hg'
      cases hg'
    · rw [hrun] at hrun'
      obtain rfl : v = e0.val := by simpa using hrun'
      exact fun g hg' => hsh es clock hb e0 hm0 g hg'
  obtain rfl := zs_of (Nat.le_of_lt hjl) hat hoi
  obtain ⟨a, cap, rfl⟩ := row_slice hoi.1
  refine ⟨a, cap, hrun, hoi.1, fun g hg => hsn g (addrBlocks_own.2 hg), hzl, fun w3 a3 c3 hg3 hr3 hl3 => ?_⟩
  have hwf : (Lit.int .i64 (j : Int)).wf = true := WalkArith.wf_i64 (by omega)
  have hap := hoi.appended hr3 hwf
  obtain ⟨w4, h1, h2, h3⟩ := hback w3 (.slice a3 ((idxB (ds.take j) 0 d.s).length + 1) c3) _ hg3 hap (by simp; omega) (by
    rcases hr3.2 with ⟨_, hn⟩ | ⟨g, cap', cur, hv, _⟩
    · omega
    · simp only [Value.slice.injEq] at hv
      obtain ⟨rfl, _⟩ := hv
      rcases hl3 g (by simp [addrBlocks]) with h | h
      · exact .inl ((addrBlocks_own.2 (by simp [addrBlocks])).trans (addrBlocks_own.2 h).symm)
      · exact .inr ⟨g, addrBlocks_own.2 (by simp [addrBlocks]), h⟩)
  refine ⟨w4, h1, ?_, h3⟩
  rw [Gd_step hd, ← hap.datum_pos (by simp)]
  exact h2
end Go.Proofs.Ytkofpfcbjfkdpaa
