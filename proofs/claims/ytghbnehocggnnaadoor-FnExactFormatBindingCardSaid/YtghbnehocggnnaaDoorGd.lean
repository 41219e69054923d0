/-
  Texts set together by wip/tools/merge.py: FB4, FB5. No condition beyond those told with each.
-/
import Derived.Test.YtghbnehocggnnaaDoorGc
import Derived.Deep.RegionHeld3
/-
  Walks: the text of a binding. Condition: the library's table of powers of ten reads as laid. (printed by wip/tools/mkfb4.py)
-/
set_option linter.unusedVariables false
set_option linter.unusedSimpArgs false
set_option maxRecDepth 100000
namespace Go.Proofs.YtghbnehocggnnaaDoor
open Go.RowKit

/-- the word of a kind of binding -/
def kindW (k : Int) : List UInt8 := if k = 1 then [102, 111, 114, 109] else if k = 2 then [112, 114, 105, 109, 105, 116, 105, 118, 101] else if k = 3 then [118, 97, 114, 105, 97, 98, 108, 101] else [109, 97, 99, 114, 111]
/-- the text of a binding -/
noncomputable def fmtB (s : ByteArray) (x : List Int) (k n : Int) : List UInt8 := if bndOk s x k n = true then (((s.data.toList ++ scT x) ++ [32]) ++ kindW k) ++ [32] ++ Lib.itoa n else []
theorem fmtB_no {s : ByteArray} {x : List Int} {k n : Int} (h : bndOk s x k n = false) : fmtB s x k n = [] := by simp [fmtB, h]
theorem fmtB_yes {s : ByteArray} {x : List Int} {k n : Int} (h : bndOk s x k n = true) : fmtB s x k n = (((s.data.toList ++ scT x) ++ [32]) ++ kindW k) ++ [32] ++ Lib.itoa n := by simp only [fmtB, h, if_true]
theorem bndOk_out {s : ByteArray} {x : List Int} {k n : Int} (h : bndOk s x k n = true) : (k = 1 ∨ k = 2 ∨ k = 3 ∨ k = 4) ∧ s.size ≤ 16 ∧ Asc x ∧ 0 ≤ n ∧ n ≤ 99999 := by
  unfold bndOk at h
  obtain ⟨h1, h2⟩ := Bool.and_eq_true_iff.1 h
  obtain ⟨h3, h4⟩ := Bool.and_eq_true_iff.1 h2
  have h5 : (s.size : Int) ≤ 16 := by
    unfold isSymB at h1
    have := (Bool.and_eq_true_iff.1 h1).1
    simp [inB] at this
    omega
  simp only [inB, Bool.and_eq_true, decide_eq_true_eq] at h4
  refine ⟨?_, by omega, (ssB_iff _).1 h3, h4.1, ?_⟩
  · by_cases h6 : k = 1 ∨ k = 2 ∨ k = 3 ∨ k = 4
    · exact h6
    · have := mostOf_other (k := k) (by omega); omega
  · have : mostOf k ≤ 99999 := by unfold mostOf; split <;> (try split) <;> (try split) <;> (try split) <;> omega
    omega
theorem asc_short {x : List Int} (h : Asc x) : x.length ≤ 99999 := by
  have h1 : ∀ (l : List Int) (m : Int), l.Pairwise (· < ·) → (∀ z ∈ l, m ≤ z ∧ z ≤ 99999) → (l.length : Int) ≤ max 0 (100000 - m) := by
    intro l
    induction l with
    | nil => intro m _ _; simp; omega
    | cons y r ih =>
      intro m hp hz
      rw [List.pairwise_cons] at hp
      have h2 := ih (y + 1) hp.2 fun z hz2 => ⟨by have := hp.1 z hz2; omega, (hz z (List.mem_cons_of_mem _ hz2)).2⟩
      have h3 := hz y (List.mem_cons_self ..)
      simp only [List.length_cons]
      omega
  have := h1 x 1 h.2 h.1
  omega
theorem litCell (W : World) (cs : Array Value) (e : TypeId) (i : Nat) (v : Value) (h : cs[i]? = some v) : (W.alloc (.cells cs e)).cell? ⟨W.heap.size, i, none⟩ = some v := by rw [World.cell?_alloc_new]; exact h
/-- more may be asked of the worlds behind each operation -/
theorem anyH_strong {P : Program} {md : Region.Mode} {ops : Array Oper} {Q : Exit → Act → World → Prop} {S S' : World → Prop} (hS : ∀ w, S' w → S w) : ∀ {fuel : Nat} {listed : Array Bool} {a : Act} {w : World}, wpAnyH P md ops Q S' fuel listed a w → wpAnyH P md ops Q S fuel listed a w
  | 0, _, _, _, h => h
  | fuel + 1, _, _, _, h => ⟨h.1, fun i hi => wpOp_mono (fun a' w' h' => ⟨hS _ h'.1, anyH_strong hS h'.2⟩) (h.2 i hi)⟩
theorem fmt_bytes {s T1 T2 : ByteArray} {x : List Int} {n : Int} {W1 : List UInt8} (h1 : T1 = ⟨(scT x).toArray⟩) (h2 : T2 = ⟨(Lib.itoa n).toArray⟩) :
    s ++ T1 ++ ⟨#[32]⟩ ++ ⟨W1.toArray⟩ ++ ⟨#[32]⟩ ++ T2 = (⟨((((s.data.toList ++ scT x) ++ [32]) ++ W1) ++ [32] ++ Lib.itoa n).toArray⟩ : ByteArray) := by
  subst h1 h2
  apply ByteArray.ext
  simp only [ByteArray.data_append]
  apply Array.ext'
  simp
set_option maxHeartbeats 8000000 in
theorem sFormatBinding_calls (s : ByteArray) (x : List Int) (k n : Int) (xa : Option Addr) (xc : Nat) (w : World) (hs9 : s.size ≤ 9223372036854775807) (hx : (M.sl xa xc 1 3 (intM x)).In w) :
    Calls Tryd.prog 6 #[.agg #[.string s, .slice xa x.length xc, .int .i64 k, .int .i64 n]] w (Ret (.string ⟨(fmtB s x k n).toArray⟩) w) := by
  have hxl := Ints.len hx
  have HX := Lib.hid hx; clear hx
  go_enter Tryd.func6, Tryd.ntmps6
  go_wp2_with fail
  refine (sIsBinding_calls s x k n xa xc _ hs9 (HX.out.below (by (repeat (first | with_reducible assumption | with_reducible exact Below.refl _ _ | with_reducible refine Below.drew ?_ | with_reducible refine belowDrewN ?_ _ | ((with_reducible refine Below.setCell ?_ ?_ _); rotate_left; focus (first | omega | (simp; done) | (simp; omega))) | ((with_reducible refine Below.alloc ?_ ?_ _); rotate_left; focus (first | omega | (simp; done) | (simp; omega)))))))).mono ?_
  rintro e w1 ⟨rfl, hb1⟩
  have hz1 := hb1.size
  simp only [World.size_alloc] at hz1
  have hq1 : BBox w.heap.size s (.slice xa x.length xc) k n w1 := (BBox.new s (.slice xa x.length xc) k n w).below hb1 (by simp)
  cases hok : bndOk s x k n with
  | false =>
    have hno := fmtB_no hok
    have HNO := Lib.hid hno; clear hno; have HOK := Lib.hid hok; clear hok
    go_wp2_with fail
    go_ret
    exact ⟨by rw [HNO.out]; rfl, by (repeat (first | with_reducible assumption | with_reducible exact Below.refl _ _ | with_reducible refine Below.drew ?_ | with_reducible refine belowDrewN ?_ _ | ((with_reducible refine Below.setCell ?_ ?_ _); rotate_left; focus (first | omega | (simp; done) | (simp; omega))) | ((with_reducible refine Below.alloc ?_ ?_ _); rotate_left; focus (first | omega | (simp; done) | (simp; omega))) | ((with_reducible refine Below.trans ?_ (Below.mono hb1 ?_)); rotate_left; focus (first | omega | (simp; done) | (simp; omega)))))⟩
  | true =>
    obtain ⟨hk, hs16, hasc, hn0, hn9⟩ := bndOk_out hok
    have hx9 := asc_short hasc
    have hxI : ∀ z ∈ x, I64 z := fun z hz => by have := hasc.1 z hz; unfold I64; omega
    have hscl := scT_length hxI
    have hlen := Lib.itoa_length_le n (by omega) (by omega)
    have hxw := HX.out.below (w' := w1) (by (repeat (first | with_reducible assumption | with_reducible exact Below.refl _ _ | with_reducible refine Below.drew ?_ | with_reducible refine belowDrewN ?_ _ | ((with_reducible refine Below.setCell ?_ ?_ _); rotate_left; focus (first | omega | (simp; done) | (simp; omega))) | ((with_reducible refine Below.alloc ?_ ?_ _); rotate_left; focus (first | omega | (simp; done) | (simp; omega))) | ((with_reducible refine Below.trans ?_ (Below.mono hb1 ?_)); rotate_left; focus (first | omega | (simp; done) | (simp; omega))))))
    have hw1 : Below w.heap.size w w1 := by (repeat (first | with_reducible assumption | with_reducible exact Below.refl _ _ | with_reducible refine Below.drew ?_ | with_reducible refine belowDrewN ?_ _ | ((with_reducible refine Below.setCell ?_ ?_ _); rotate_left; focus (first | omega | (simp; done) | (simp; omega))) | ((with_reducible refine Below.alloc ?_ ?_ _); rotate_left; focus (first | omega | (simp; done) | (simp; omega))) | ((with_reducible refine Below.trans ?_ (Below.mono hb1 ?_)); rotate_left; focus (first | omega | (simp; done) | (simp; omega)))))
    have hnI : I64 n := by unfold I64; omega
    have hs0 : (w1.cell? ⟨w.heap.size, 0, none⟩ = some (.string s) ∧ w1.cell? ⟨w.heap.size, 1, none⟩ = some (.slice xa x.length xc) ∧ w1.cell? ⟨w.heap.size, 2, none⟩ = some (.int .i64 k) ∧ w1.cell? ⟨w.heap.size, 3, none⟩ = some (.int .i64 n)) := ⟨hq1.c0, hq1.c1, hq1.c2, hq1.c3⟩
    have hp1 : w.heap.size < w1.heap.size := by omega
    obtain ⟨T1, hT1⟩ : ∃ T, T = (⟨(scT x).toArray⟩ : ByteArray) := ⟨_, rfl⟩
    obtain ⟨T2, hT2⟩ : ∃ T, T = (⟨(Lib.itoa n).toArray⟩ : ByteArray) := ⟨_, rfl⟩
    have h1s : T1.size ≤ 22 * x.length + 2 := by rw [hT1]; simpa [ByteArray.size] using hscl
    have h2s : T2.size ≤ 21 := by rw [hT2]; simpa [ByteArray.size] using hlen
    have cSC : ∀ W, (M.sl xa xc 1 3 (intM x)).In W → Calls Tryd.prog 18 #[.slice xa x.length xc] W (Ret (.string T1) W) := fun W h => by rw [hT1]; exact l2Scopes_calls xa xc x W (by omega) hxI h
    have cNM : ∀ W, Calls Tryd.prog 19 #[.int .i64 n] W (Ret (.string T2) W) := fun W => by rw [hT2]; exact sFormatNumber_calls n W hnI
    have HASC := Lib.hid hasc; clear hasc; have HXI := Lib.hid hxI; clear hxI; have HXW := Lib.hid hxw; clear hxw; have HW1 := Lib.hid hw1; clear hw1; have HNI := Lib.hid hnI; clear hnI; have CSC := Lib.hid cSC; clear cSC; have CNM := Lib.hid cNM; clear cNM; have HT1 := Lib.hid hT1; clear hT1; have HT2 := Lib.hid hT2; clear hT2
    clear hb1
    rcases hk with rfl | rfl | rfl | rfl
    · have hkk : kindW 1 = [102, 111, 114, 109] := by simp [kindW]
      have hkw : (⟨(fmtB s x 1 n).toArray⟩ : ByteArray) = (((((s ++ T1) ++ ⟨#[32]⟩) ++ ⟨#[102, 111, 114, 109]⟩) ++ ⟨#[32]⟩) ++ T2) := by rw [fmtB_yes hok, hkk]; exact (fmt_bytes HT1.out HT2.out).symm
      have hS : ∀ W, Below w1.heap.size w1 W → (W.cell? ⟨w.heap.size, 0, none⟩ = some (.string s) ∧ W.cell? ⟨w.heap.size, 1, none⟩ = some (.slice xa x.length xc) ∧ W.cell? ⟨w.heap.size, 2, none⟩ = some (.int .i64 1) ∧ W.cell? ⟨w.heap.size, 3, none⟩ = some (.int .i64 n)) := fun W hW => by
        have h := hq1.below hW hp1
        exact ⟨h.c0, h.c1, h.c2, h.c3⟩
      have n1 : ¬ (9223372036854775807 < s.size + T1.size) := by omega
      have n2 : ¬ (9223372036854775807 < s.size + T1.size + 1) := by omega
      have n3 : ¬ (9223372036854775807 < s.size + T1.size + 1 + 4) := by omega
      have n4 : ¬ (9223372036854775807 < s.size + T1.size + 1 + 4 + 1) := by omega
      have n5 : ¬ (9223372036854775807 < s.size + T1.size + 1 + 4 + 1 + T2.size) := by omega
      have hwk : IntKind.i64.wrap 0 = 0 := by rw [IntKind.wrap_i64]; rfl
      have HOK := Lib.hid hok; clear hok; have HKW := Lib.hid hkw; clear hkw; have HQ1 := Lib.hid hq1; clear hq1; have HS := Lib.hid hS; clear hS; have HS0 := Lib.hid hs0; clear hs0
      go_wp2_with fail
      refine wp_region_noPanic ?_
      refine wp_region_held_drew (S := (fun w' => w'.cell? ⟨w.heap.size, 0, none⟩ = some (.string s) ∧ w'.cell? ⟨w.heap.size, 1, none⟩ = some (.slice xa x.length xc) ∧ w'.cell? ⟨w.heap.size, 2, none⟩ = some (.int .i64 1) ∧ w'.cell? ⟨w.heap.size, 3, none⟩ = some (.int .i64 n))) (by kernel_rfl) (by simp only [World.cell?_drew]; exact HS0.out) (fun hHeld => ?_)
      refine wpAnyH_take (i := 0) (v := (.pointer (some ⟨w.heap.size, 0, none⟩))) rfl (by kernel_rfl) (by kernel_rfl) (by kernel_rfl) (fun _ _ _ h => h) (Or.inl ⟨by rfl, fun W hW => ?_⟩) (by assumption) ?_
      · (try dsimp only at hW); go_simp
      change wpAnyH _ _ _ _ _ _ _ (Act.put _ (some 6) _) _
      (try simp only [Act.put, List.setIfInBounds_toArray, List.set_cons_zero, List.set_cons_succ])
      refine wpAnyH_take (i := 1) (v := (.string s)) rfl (by kernel_rfl) (by kernel_rfl) (by kernel_rfl) (fun _ _ _ h => h) (Or.inl ⟨by rfl, fun W hW => ?_⟩) (by assumption) ?_
      · (try dsimp only at hW); go_simp
      change wpAnyH _ _ _ _ _ _ _ (Act.put _ (some 7) _) _
      (try simp only [Act.put, List.setIfInBounds_toArray, List.set_cons_zero, List.set_cons_succ])
      refine wpAnyH_take (i := 2) (v := (.pointer (some ⟨w.heap.size, 1, none⟩))) rfl (by kernel_rfl) (by kernel_rfl) (by kernel_rfl) (fun _ _ _ h => h) (Or.inl ⟨by rfl, fun W hW => ?_⟩) (by assumption) ?_
      · (try dsimp only at hW); go_simp
      change wpAnyH _ _ _ _ _ _ _ (Act.put _ (some 8) _) _
      (try simp only [Act.put, List.setIfInBounds_toArray, List.set_cons_zero, List.set_cons_succ])
      refine wpAnyH_take (i := 3) (v := (.slice xa x.length xc)) rfl (by kernel_rfl) (by kernel_rfl) (by kernel_rfl) (fun _ _ _ h => h) (Or.inl ⟨by rfl, fun W hW => ?_⟩) (by assumption) ?_
      · (try dsimp only at hW); go_simp
      change wpAnyH _ _ _ _ _ _ _ (Act.put _ (some 9) _) _
      (try simp only [Act.put, List.setIfInBounds_toArray, List.set_cons_zero, List.set_cons_succ])
      refine wpAnyH_take (i := 8) (v := (.pointer (some ⟨w.heap.size, 2, none⟩))) rfl (by kernel_rfl) (by kernel_rfl) (by kernel_rfl) (fun _ _ _ h => h) (Or.inl ⟨by rfl, fun W hW => ?_⟩) (by assumption) ?_
      · (try dsimp only at hW); go_simp
      change wpAnyH _ _ _ _ _ _ _ (Act.put _ (some 14) _) _
      (try simp only [Act.put, List.setIfInBounds_toArray, List.set_cons_zero, List.set_cons_succ])
      refine wpAnyH_take (i := 9) (v := (.int .i64 1)) rfl (by kernel_rfl) (by kernel_rfl) (by kernel_rfl) (fun _ _ _ h => h) (Or.inl ⟨by rfl, fun W hW => ?_⟩) (by assumption) ?_
      · (try dsimp only at hW); go_simp
      change wpAnyH _ _ _ _ _ _ _ (Act.put _ (some 15) _) _
      (try simp only [Act.put, List.setIfInBounds_toArray, List.set_cons_zero, List.set_cons_succ])
      refine wpAnyH_take (i := 10) (v := (.int .i64 0)) rfl (by kernel_rfl) (by kernel_rfl) (by kernel_rfl) (fun _ _ _ h => h) (Or.inl ⟨by rfl, fun W hW => ?_⟩) (by assumption) ?_
      · (try dsimp only at hW); go_simp
      change wpAnyH _ _ _ _ _ _ _ (Act.put _ (some 16) _) _
      (try simp only [Act.put, List.setIfInBounds_toArray, List.set_cons_zero, List.set_cons_succ])
      refine wpAnyH_take (i := 15) (v := (.pointer (some ⟨w.heap.size, 3, none⟩))) rfl (by kernel_rfl) (by kernel_rfl) (by kernel_rfl) (fun _ _ _ h => h) (Or.inl ⟨by rfl, fun W hW => ?_⟩) (by assumption) ?_
      · (try dsimp only at hW); go_simp
      change wpAnyH _ _ _ _ _ _ _ (Act.put _ (some 21) _) _
      (try simp only [Act.put, List.setIfInBounds_toArray, List.set_cons_zero, List.set_cons_succ])
      refine wpAnyH_take (i := 16) (v := (.int .i64 n)) rfl (by kernel_rfl) (by kernel_rfl) (by kernel_rfl) (fun _ _ _ h => h) (Or.inl ⟨by rfl, fun W hW => ?_⟩) (by assumption) ?_
      · (try dsimp only at hW); go_simp
      change wpAnyH _ _ _ _ _ _ _ (Act.put _ (some 22) _) _
      (try simp only [Act.put, List.setIfInBounds_toArray, List.set_cons_zero, List.set_cons_succ])
      refine wpAnyH_ready (rs := [4, 7]) (by kernel_rfl) (by simp) (AllReadyH.cons rfl (fun K hK => ?_) (AllReadyH.cons rfl (fun K hK => ?_) AllReadyH.nil))
      · skip
        go_simp
        go_at_call 18
        refine (CSC.out _ (HXW.out.below (by (repeat (first | with_reducible assumption | with_reducible exact Below.refl _ _ | with_reducible refine Below.drew ?_ | with_reducible refine belowDrewN ?_ _ | ((with_reducible refine Below.setCell ?_ ?_ _); rotate_left; focus (first | omega | (simp; done) | (simp; omega))) | ((with_reducible refine Below.alloc ?_ ?_ _); rotate_left; focus (first | omega | (simp; done) | (simp; omega)))))))).mono ?_
        rintro e w5 ⟨rfl, hb5⟩
        have hB5 : Below w1.heap.size w1 w5 := by (repeat (first | with_reducible assumption | with_reducible exact Below.refl _ _ | with_reducible refine Below.drew ?_ | with_reducible refine belowDrewN ?_ _ | ((with_reducible refine Below.setCell ?_ ?_ _); rotate_left; focus (first | omega | (simp; done) | (simp; omega))) | ((with_reducible refine Below.alloc ?_ ?_ _); rotate_left; focus (first | omega | (simp; done) | (simp; omega))) | ((with_reducible refine Below.trans ?_ (Below.mono hb5 ?_)); rotate_left; focus (first | omega | (simp; done) | (simp; omega)))))
        have hz5 := hB5.size
        go_wp2_with fail
        refine hK.out _ _ (HS.out w5 hB5) (fun hHeld5 => ?_)
        clear hK K
        (try simp only [Act.put, List.setIfInBounds_toArray, List.set_cons_zero, List.set_cons_succ])
        refine wpAnyH_take (i := 5) (v := (.string (s ++ T1))) rfl (by kernel_rfl) (by kernel_rfl) (by kernel_rfl) (fun _ _ _ h => h) (Or.inl ⟨by rfl, fun W hW => ?_⟩) (by assumption) ?_
        · (try dsimp only at hW); go_simp
        change wpAnyH _ _ _ _ _ _ _ (Act.put _ (some 11) _) _
        (try simp only [Act.put, List.setIfInBounds_toArray, List.set_cons_zero, List.set_cons_succ])
        refine wpAnyH_take (i := 6) (v := (.string ((s ++ T1) ++ ⟨#[32]⟩))) rfl (by kernel_rfl) (by kernel_rfl) (by kernel_rfl) (fun _ _ _ h => h) (Or.inl ⟨by rfl, fun W hW => ?_⟩) (by assumption) ?_
        · (try dsimp only at hW); go_simp
        change wpAnyH _ _ _ _ _ _ _ (Act.put _ (some 12) _) _
        (try simp only [Act.put, List.setIfInBounds_toArray, List.set_cons_zero, List.set_cons_succ])
        refine wpAnyH_ready (rs := [7, 17]) (by kernel_rfl) (by simp) (AllReadyH.cons rfl (fun K hK => ?_) (AllReadyH.cons rfl (fun K hK => ?_) AllReadyH.nil))
        · skip
          go_simp
          refine hK.out _ _ (HS.out _ (by (repeat (first | with_reducible assumption | with_reducible exact Below.refl _ _ | with_reducible refine Below.drew ?_ | with_reducible refine belowDrewN ?_ _ | ((with_reducible refine Below.setCell ?_ ?_ _); rotate_left; focus (first | omega | (simp; done) | (simp; omega))) | ((with_reducible refine Below.alloc ?_ ?_ _); rotate_left; focus (first | omega | (simp; done) | (simp; omega))) | ((with_reducible refine Below.trans ?_ (Below.mono hB5 ?_)); rotate_left; focus (first | omega | (simp; done) | (simp; omega))))))) (fun hH7_ => ?_)
          clear hK K
          (try simp only [Act.put, List.setIfInBounds_toArray, List.set_cons_zero, List.set_cons_succ])
          refine anyH_strong (S' := fun w' => (w'.cell? ⟨w.heap.size, 0, none⟩ = some (.string s) ∧ w'.cell? ⟨w.heap.size, 1, none⟩ = some (.slice xa x.length xc) ∧ w'.cell? ⟨w.heap.size, 2, none⟩ = some (.int .i64 1) ∧ w'.cell? ⟨w.heap.size, 3, none⟩ = some (.int .i64 n)) ∧ w'.cell? ⟨w5.heap.size, 0, none⟩ = some (.string ⟨#[102, 111, 114, 109]⟩)) (fun _ h => h.1) ?_
          have hH7 := And.intro hH7_ (litCell w5 #[.string ⟨#[102, 111, 114, 109]⟩, .string ⟨#[112, 114, 105, 109, 105, 116, 105, 118, 101]⟩, .string ⟨#[118, 97, 114, 105, 97, 98, 108, 101]⟩, .string ⟨#[109, 97, 99, 114, 111]⟩] 9 0 (.string ⟨#[102, 111, 114, 109]⟩) rfl)
          refine wpAnyH_take (i := 11) (v := (.pointer (some ⟨w5.heap.size, 0, none⟩))) rfl (by kernel_rfl) (by kernel_rfl) (by kernel_rfl) (fun _ _ _ h => h) (Or.inl ⟨by rfl, fun W hW => ?_⟩) (by assumption) ?_
          · (try dsimp only at hW); go_simp
          change wpAnyH _ _ _ _ _ _ _ (Act.put _ (some 17) _) _
          (try simp only [Act.put, List.setIfInBounds_toArray, List.set_cons_zero, List.set_cons_succ])
          refine wpAnyH_take (i := 12) (v := (.string ⟨#[102, 111, 114, 109]⟩)) rfl (by kernel_rfl) (by kernel_rfl) (by kernel_rfl) (fun _ _ _ h => h) (Or.inl ⟨by rfl, fun W hW => ?_⟩) (by assumption) ?_
          · (try dsimp only at hW); go_simp
          change wpAnyH _ _ _ _ _ _ _ (Act.put _ (some 18) _) _
          (try simp only [Act.put, List.setIfInBounds_toArray, List.set_cons_zero, List.set_cons_succ])
          refine wpAnyH_take (i := 13) (v := (.string (((s ++ T1) ++ ⟨#[32]⟩) ++ ⟨#[102, 111, 114, 109]⟩))) rfl (by kernel_rfl) (by kernel_rfl) (by kernel_rfl) (fun _ _ _ h => h) (Or.inl ⟨by rfl, fun W hW => ?_⟩) (by assumption) ?_
          · (try dsimp only at hW); go_simp
          change wpAnyH _ _ _ _ _ _ _ (Act.put _ (some 19) _) _
          (try simp only [Act.put, List.setIfInBounds_toArray, List.set_cons_zero, List.set_cons_succ])
          refine wpAnyH_take (i := 14) (v := (.string ((((s ++ T1) ++ ⟨#[32]⟩) ++ ⟨#[102, 111, 114, 109]⟩) ++ ⟨#[32]⟩))) rfl (by kernel_rfl) (by kernel_rfl) (by kernel_rfl) (fun _ _ _ h => h) (Or.inl ⟨by rfl, fun W hW => ?_⟩) (by assumption) ?_
          · (try dsimp only at hW); go_simp
          change wpAnyH _ _ _ _ _ _ _ (Act.put _ (some 20) _) _
          (try simp only [Act.put, List.setIfInBounds_toArray, List.set_cons_zero, List.set_cons_succ])
          refine wpAnyH_ready (rs := [17]) (by kernel_rfl) (by simp) (AllReadyH.cons rfl (fun K hK => ?_) AllReadyH.nil)
          go_simp
          go_at_call 19
          refine (CNM.out _).mono ?_
          rintro e w6 ⟨rfl, hb6⟩
          have hB6 : Below w1.heap.size w1 w6 := by (repeat (first | with_reducible assumption | with_reducible exact Below.refl _ _ | with_reducible refine Below.drew ?_ | with_reducible refine belowDrewN ?_ _ | ((with_reducible refine Below.setCell ?_ ?_ _); rotate_left; focus (first | omega | (simp; done) | (simp; omega))) | ((with_reducible refine Below.alloc ?_ ?_ _); rotate_left; focus (first | omega | (simp; done) | (simp; omega))) | ((with_reducible refine Below.trans ?_ (Below.mono hB5 ?_)); rotate_left; focus (first | omega | (simp; done) | (simp; omega))) | ((with_reducible refine Below.trans ?_ (Below.mono hb6 ?_)); rotate_left; focus (first | omega | (simp; done) | (simp; omega)))))
          have hz6 := hB6.size
          go_wp2_with fail
          refine hK.out _ _ ⟨HS.out w6 hB6, (hb6.cell (p := ⟨w5.heap.size, 0, none⟩) (World.block_lt_of_cell? _ _ hH7.2)).trans hH7.2⟩ (fun hHeld6 => ?_)
          clear hK K
          (try simp only [Act.put, List.setIfInBounds_toArray, List.set_cons_zero, List.set_cons_succ])
          refine wpAnyH_take (i := 18) (v := (.string (((((s ++ T1) ++ ⟨#[32]⟩) ++ ⟨#[102, 111, 114, 109]⟩) ++ ⟨#[32]⟩) ++ T2))) rfl (by kernel_rfl) (by kernel_rfl) (by kernel_rfl) (fun _ _ _ h => h) (Or.inl ⟨by rfl, fun W hW => ?_⟩) (by assumption) ?_
          · (try dsimp only at hW); go_simp
          change wpAnyH _ _ _ _ _ _ _ (Act.put _ (some 24) _) _
          (try simp only [Act.put, List.setIfInBounds_toArray, List.set_cons_zero, List.set_cons_succ])
          refine wpAnyH_take (i := 19) (v := (.string (((((s ++ T1) ++ ⟨#[32]⟩) ++ ⟨#[102, 111, 114, 109]⟩) ++ ⟨#[32]⟩) ++ T2))) rfl (by kernel_rfl) (by kernel_rfl) (by kernel_rfl) (fun _ _ _ h => h) (Or.inl ⟨by rfl, fun W hW => ?_⟩) (by assumption) ?_
          · (try dsimp only at hW); go_simp
          change wpAnyH _ _ _ _ _ _ _ (Act.put _ (some 2) _) _
          (try simp only [Act.put, List.setIfInBounds_toArray, List.set_cons_zero, List.set_cons_succ])
          refine wpAnyH_done (by kernel_rfl) ?_ _
          refine NoPanic.normal ?_
          go_wp2_with fail
          go_ret
          exact ⟨by rw [HKW.out]; rfl, by (repeat (first | with_reducible assumption | with_reducible exact Below.refl _ _ | with_reducible refine Below.drew ?_ | with_reducible refine belowDrewN ?_ _ | ((with_reducible refine Below.setCell ?_ ?_ _); rotate_left; focus (first | omega | (simp; done) | (simp; omega))) | ((with_reducible refine Below.alloc ?_ ?_ _); rotate_left; focus (first | omega | (simp; done) | (simp; omega))) | ((with_reducible refine Below.trans ?_ (Below.mono HW1.out ?_)); rotate_left; focus (first | omega | (simp; done) | (simp; omega))) | ((with_reducible refine Below.trans ?_ (Below.mono hB6 ?_)); rotate_left; focus (first | omega | (simp; done) | (simp; omega)))))⟩
        · skip
          go_simp
          go_at_call 19
          refine (CNM.out _).mono ?_
          rintro e w6 ⟨rfl, hb6⟩
          have hB6 : Below w1.heap.size w1 w6 := by (repeat (first | with_reducible assumption | with_reducible exact Below.refl _ _ | with_reducible refine Below.drew ?_ | with_reducible refine belowDrewN ?_ _ | ((with_reducible refine Below.setCell ?_ ?_ _); rotate_left; focus (first | omega | (simp; done) | (simp; omega))) | ((with_reducible refine Below.alloc ?_ ?_ _); rotate_left; focus (first | omega | (simp; done) | (simp; omega))) | ((with_reducible refine Below.trans ?_ (Below.mono hB5 ?_)); rotate_left; focus (first | omega | (simp; done) | (simp; omega))) | ((with_reducible refine Below.trans ?_ (Below.mono hb6 ?_)); rotate_left; focus (first | omega | (simp; done) | (simp; omega)))))
          have hz6 := hB6.size
          go_wp2_with fail
          refine hK.out _ _ (HS.out w6 hB6) (fun hHeld6 => ?_)
          clear hK K
          (try simp only [Act.put, List.setIfInBounds_toArray, List.set_cons_zero, List.set_cons_succ])
          refine wpAnyH_ready (rs := [7]) (by kernel_rfl) (by simp) (AllReadyH.cons rfl (fun K hK => ?_) AllReadyH.nil)
          go_simp
          refine hK.out _ _ (HS.out _ (by (repeat (first | with_reducible assumption | with_reducible exact Below.refl _ _ | with_reducible refine Below.drew ?_ | with_reducible refine belowDrewN ?_ _ | ((with_reducible refine Below.setCell ?_ ?_ _); rotate_left; focus (first | omega | (simp; done) | (simp; omega))) | ((with_reducible refine Below.alloc ?_ ?_ _); rotate_left; focus (first | omega | (simp; done) | (simp; omega))) | ((with_reducible refine Below.trans ?_ (Below.mono hB6 ?_)); rotate_left; focus (first | omega | (simp; done) | (simp; omega))))))) (fun hH7_ => ?_)
          clear hK K
          (try simp only [Act.put, List.setIfInBounds_toArray, List.set_cons_zero, List.set_cons_succ])
          refine anyH_strong (S' := fun w' => (w'.cell? ⟨w.heap.size, 0, none⟩ = some (.string s) ∧ w'.cell? ⟨w.heap.size, 1, none⟩ = some (.slice xa x.length xc) ∧ w'.cell? ⟨w.heap.size, 2, none⟩ = some (.int .i64 1) ∧ w'.cell? ⟨w.heap.size, 3, none⟩ = some (.int .i64 n)) ∧ w'.cell? ⟨w6.heap.size, 0, none⟩ = some (.string ⟨#[102, 111, 114, 109]⟩)) (fun _ h => h.1) ?_
          have hH7 := And.intro hH7_ (litCell w6 #[.string ⟨#[102, 111, 114, 109]⟩, .string ⟨#[112, 114, 105, 109, 105, 116, 105, 118, 101]⟩, .string ⟨#[118, 97, 114, 105, 97, 98, 108, 101]⟩, .string ⟨#[109, 97, 99, 114, 111]⟩] 9 0 (.string ⟨#[102, 111, 114, 109]⟩) rfl)
          refine wpAnyH_take (i := 11) (v := (.pointer (some ⟨w6.heap.size, 0, none⟩))) rfl (by kernel_rfl) (by kernel_rfl) (by kernel_rfl) (fun _ _ _ h => h) (Or.inl ⟨by rfl, fun W hW => ?_⟩) (by assumption) ?_
          · (try dsimp only at hW); go_simp
          change wpAnyH _ _ _ _ _ _ _ (Act.put _ (some 17) _) _
          (try simp only [Act.put, List.setIfInBounds_toArray, List.set_cons_zero, List.set_cons_succ])
          refine wpAnyH_take (i := 12) (v := (.string ⟨#[102, 111, 114, 109]⟩)) rfl (by kernel_rfl) (by kernel_rfl) (by kernel_rfl) (fun _ _ _ h => h) (Or.inl ⟨by rfl, fun W hW => ?_⟩) (by assumption) ?_
          · (try dsimp only at hW); go_simp
          change wpAnyH _ _ _ _ _ _ _ (Act.put _ (some 18) _) _
          (try simp only [Act.put, List.setIfInBounds_toArray, List.set_cons_zero, List.set_cons_succ])
          refine wpAnyH_take (i := 13) (v := (.string (((s ++ T1) ++ ⟨#[32]⟩) ++ ⟨#[102, 111, 114, 109]⟩))) rfl (by kernel_rfl) (by kernel_rfl) (by kernel_rfl) (fun _ _ _ h => h) (Or.inl ⟨by rfl, fun W hW => ?_⟩) (by assumption) ?_
          · (try dsimp only at hW); go_simp
          change wpAnyH _ _ _ _ _ _ _ (Act.put _ (some 19) _) _
          (try simp only [Act.put, List.setIfInBounds_toArray, List.set_cons_zero, List.set_cons_succ])
          refine wpAnyH_take (i := 14) (v := (.string ((((s ++ T1) ++ ⟨#[32]⟩) ++ ⟨#[102, 111, 114, 109]⟩) ++ ⟨#[32]⟩))) rfl (by kernel_rfl) (by kernel_rfl) (by kernel_rfl) (fun _ _ _ h => h) (Or.inl ⟨by rfl, fun W hW => ?_⟩) (by assumption) ?_
          · (try dsimp only at hW); go_simp
          change wpAnyH _ _ _ _ _ _ _ (Act.put _ (some 20) _) _
          (try simp only [Act.put, List.setIfInBounds_toArray, List.set_cons_zero, List.set_cons_succ])
          refine wpAnyH_take (i := 18) (v := (.string (((((s ++ T1) ++ ⟨#[32]⟩) ++ ⟨#[102, 111, 114, 109]⟩) ++ ⟨#[32]⟩) ++ T2))) rfl (by kernel_rfl) (by kernel_rfl) (by kernel_rfl) (fun _ _ _ h => h) (Or.inl ⟨by rfl, fun W hW => ?_⟩) (by assumption) ?_
          · (try dsimp only at hW); go_simp
          change wpAnyH _ _ _ _ _ _ _ (Act.put _ (some 24) _) _
          (try simp only [Act.put, List.setIfInBounds_toArray, List.set_cons_zero, List.set_cons_succ])
          refine wpAnyH_take (i := 19) (v := (.string (((((s ++ T1) ++ ⟨#[32]⟩) ++ ⟨#[102, 111, 114, 109]⟩) ++ ⟨#[32]⟩) ++ T2))) rfl (by kernel_rfl) (by kernel_rfl) (by kernel_rfl) (fun _ _ _ h => h) (Or.inl ⟨by rfl, fun W hW => ?_⟩) (by assumption) ?_
          · (try dsimp only at hW); go_simp
          change wpAnyH _ _ _ _ _ _ _ (Act.put _ (some 2) _) _
          (try simp only [Act.put, List.setIfInBounds_toArray, List.set_cons_zero, List.set_cons_succ])
          refine wpAnyH_done (by kernel_rfl) ?_ _
          refine NoPanic.normal ?_
          go_wp2_with fail
          go_ret
          exact ⟨by rw [HKW.out]; rfl, by (repeat (first | with_reducible assumption | with_reducible exact Below.refl _ _ | with_reducible refine Below.drew ?_ | with_reducible refine belowDrewN ?_ _ | ((with_reducible refine Below.setCell ?_ ?_ _); rotate_left; focus (first | omega | (simp; done) | (simp; omega))) | ((with_reducible refine Below.alloc ?_ ?_ _); rotate_left; focus (first | omega | (simp; done) | (simp; omega))) | ((with_reducible refine Below.trans ?_ (Below.mono HW1.out ?_)); rotate_left; focus (first | omega | (simp; done) | (simp; omega))) | ((with_reducible refine Below.trans ?_ (Below.mono hB6 ?_)); rotate_left; focus (first | omega | (simp; done) | (simp; omega)))))⟩
      · skip
        go_simp
        refine hK.out _ _ (HS.out _ (by (repeat (first | with_reducible assumption | with_reducible exact Below.refl _ _ | with_reducible refine Below.drew ?_ | with_reducible refine belowDrewN ?_ _ | ((with_reducible refine Below.setCell ?_ ?_ _); rotate_left; focus (first | omega | (simp; done) | (simp; omega))) | ((with_reducible refine Below.alloc ?_ ?_ _); rotate_left; focus (first | omega | (simp; done) | (simp; omega))))))) (fun hH7_ => ?_)
        clear hK K
        (try simp only [Act.put, List.setIfInBounds_toArray, List.set_cons_zero, List.set_cons_succ])
        refine anyH_strong (S' := fun w' => (w'.cell? ⟨w.heap.size, 0, none⟩ = some (.string s) ∧ w'.cell? ⟨w.heap.size, 1, none⟩ = some (.slice xa x.length xc) ∧ w'.cell? ⟨w.heap.size, 2, none⟩ = some (.int .i64 1) ∧ w'.cell? ⟨w.heap.size, 3, none⟩ = some (.int .i64 n)) ∧ w'.cell? ⟨w1.heap.size, 0, none⟩ = some (.string ⟨#[102, 111, 114, 109]⟩)) (fun _ h => h.1) ?_
        have hH7 := And.intro hH7_ (litCell w1.drew #[.string ⟨#[102, 111, 114, 109]⟩, .string ⟨#[112, 114, 105, 109, 105, 116, 105, 118, 101]⟩, .string ⟨#[118, 97, 114, 105, 97, 98, 108, 101]⟩, .string ⟨#[109, 97, 99, 114, 111]⟩] 9 0 (.string ⟨#[102, 111, 114, 109]⟩) rfl)
        refine wpAnyH_take (i := 11) (v := (.pointer (some ⟨w1.heap.size, 0, none⟩))) rfl (by kernel_rfl) (by kernel_rfl) (by kernel_rfl) (fun _ _ _ h => h) (Or.inl ⟨by rfl, fun W hW => ?_⟩) (by assumption) ?_
        · (try dsimp only at hW); go_simp
        change wpAnyH _ _ _ _ _ _ _ (Act.put _ (some 17) _) _
        (try simp only [Act.put, List.setIfInBounds_toArray, List.set_cons_zero, List.set_cons_succ])
        refine wpAnyH_take (i := 12) (v := (.string ⟨#[102, 111, 114, 109]⟩)) rfl (by kernel_rfl) (by kernel_rfl) (by kernel_rfl) (fun _ _ _ h => h) (Or.inl ⟨by rfl, fun W hW => ?_⟩) (by assumption) ?_
        · (try dsimp only at hW); go_simp
        change wpAnyH _ _ _ _ _ _ _ (Act.put _ (some 18) _) _
        (try simp only [Act.put, List.setIfInBounds_toArray, List.set_cons_zero, List.set_cons_succ])
        refine wpAnyH_ready (rs := [4]) (by kernel_rfl) (by simp) (AllReadyH.cons rfl (fun K hK => ?_) AllReadyH.nil)
        go_simp
        go_at_call 18
        refine (CSC.out _ (HXW.out.below (by (repeat (first | with_reducible assumption | with_reducible exact Below.refl _ _ | with_reducible refine Below.drew ?_ | with_reducible refine belowDrewN ?_ _ | ((with_reducible refine Below.setCell ?_ ?_ _); rotate_left; focus (first | omega | (simp; done) | (simp; omega))) | ((with_reducible refine Below.alloc ?_ ?_ _); rotate_left; focus (first | omega | (simp; done) | (simp; omega)))))))).mono ?_
        rintro e w5 ⟨rfl, hb5⟩
        have hB5 : Below w1.heap.size w1 w5 := by (repeat (first | with_reducible assumption | with_reducible exact Below.refl _ _ | with_reducible refine Below.drew ?_ | with_reducible refine belowDrewN ?_ _ | ((with_reducible refine Below.setCell ?_ ?_ _); rotate_left; focus (first | omega | (simp; done) | (simp; omega))) | ((with_reducible refine Below.alloc ?_ ?_ _); rotate_left; focus (first | omega | (simp; done) | (simp; omega))) | ((with_reducible refine Below.trans ?_ (Below.mono hb5 ?_)); rotate_left; focus (first | omega | (simp; done) | (simp; omega)))))
        have hz5 := hB5.size
        go_wp2_with fail
        refine hK.out _ _ ⟨HS.out w5 hB5, (hb5.cell (p := ⟨w1.heap.size, 0, none⟩) (World.block_lt_of_cell? _ _ hH7.2)).trans hH7.2⟩ (fun hHeld5 => ?_)
        clear hK K
        (try simp only [Act.put, List.setIfInBounds_toArray, List.set_cons_zero, List.set_cons_succ])
        refine wpAnyH_take (i := 5) (v := (.string (s ++ T1))) rfl (by kernel_rfl) (by kernel_rfl) (by kernel_rfl) (fun _ _ _ h => h) (Or.inl ⟨by rfl, fun W hW => ?_⟩) (by assumption) ?_
        · (try dsimp only at hW); go_simp
        change wpAnyH _ _ _ _ _ _ _ (Act.put _ (some 11) _) _
        (try simp only [Act.put, List.setIfInBounds_toArray, List.set_cons_zero, List.set_cons_succ])
        refine wpAnyH_take (i := 6) (v := (.string ((s ++ T1) ++ ⟨#[32]⟩))) rfl (by kernel_rfl) (by kernel_rfl) (by kernel_rfl) (fun _ _ _ h => h) (Or.inl ⟨by rfl, fun W hW => ?_⟩) (by assumption) ?_
        · (try dsimp only at hW); go_simp
        change wpAnyH _ _ _ _ _ _ _ (Act.put _ (some 12) _) _
        (try simp only [Act.put, List.setIfInBounds_toArray, List.set_cons_zero, List.set_cons_succ])
        refine wpAnyH_take (i := 13) (v := (.string (((s ++ T1) ++ ⟨#[32]⟩) ++ ⟨#[102, 111, 114, 109]⟩))) rfl (by kernel_rfl) (by kernel_rfl) (by kernel_rfl) (fun _ _ _ h => h) (Or.inl ⟨by rfl, fun W hW => ?_⟩) (by assumption) ?_
        · (try dsimp only at hW); go_simp
        change wpAnyH _ _ _ _ _ _ _ (Act.put _ (some 19) _) _
        (try simp only [Act.put, List.setIfInBounds_toArray, List.set_cons_zero, List.set_cons_succ])
        refine wpAnyH_take (i := 14) (v := (.string ((((s ++ T1) ++ ⟨#[32]⟩) ++ ⟨#[102, 111, 114, 109]⟩) ++ ⟨#[32]⟩))) rfl (by kernel_rfl) (by kernel_rfl) (by kernel_rfl) (fun _ _ _ h => h) (Or.inl ⟨by rfl, fun W hW => ?_⟩) (by assumption) ?_
        · (try dsimp only at hW); go_simp
        change wpAnyH _ _ _ _ _ _ _ (Act.put _ (some 20) _) _
        (try simp only [Act.put, List.setIfInBounds_toArray, List.set_cons_zero, List.set_cons_succ])
        refine wpAnyH_ready (rs := [17]) (by kernel_rfl) (by simp) (AllReadyH.cons rfl (fun K hK => ?_) AllReadyH.nil)
        go_simp
        go_at_call 19
        refine (CNM.out _).mono ?_
        rintro e w6 ⟨rfl, hb6⟩
        have hB6 : Below w1.heap.size w1 w6 := by (repeat (first | with_reducible assumption | with_reducible exact Below.refl _ _ | with_reducible refine Below.drew ?_ | with_reducible refine belowDrewN ?_ _ | ((with_reducible refine Below.setCell ?_ ?_ _); rotate_left; focus (first | omega | (simp; done) | (simp; omega))) | ((with_reducible refine Below.alloc ?_ ?_ _); rotate_left; focus (first | omega | (simp; done) | (simp; omega))) | ((with_reducible refine Below.trans ?_ (Below.mono hB5 ?_)); rotate_left; focus (first | omega | (simp; done) | (simp; omega))) | ((with_reducible refine Below.trans ?_ (Below.mono hb6 ?_)); rotate_left; focus (first | omega | (simp; done) | (simp; omega)))))
        have hz6 := hB6.size
        go_wp2_with fail
        refine hK.out _ _ ⟨HS.out w6 hB6, (hb6.cell (p := ⟨w1.heap.size, 0, none⟩) (World.block_lt_of_cell? _ _ hHeld5.2)).trans hHeld5.2⟩ (fun hHeld6 => ?_)
        clear hK K
        (try simp only [Act.put, List.setIfInBounds_toArray, List.set_cons_zero, List.set_cons_succ])
        refine wpAnyH_take (i := 18) (v := (.string (((((s ++ T1) ++ ⟨#[32]⟩) ++ ⟨#[102, 111, 114, 109]⟩) ++ ⟨#[32]⟩) ++ T2))) rfl (by kernel_rfl) (by kernel_rfl) (by kernel_rfl) (fun _ _ _ h => h) (Or.inl ⟨by rfl, fun W hW => ?_⟩) (by assumption) ?_
        · (try dsimp only at hW); go_simp
        change wpAnyH _ _ _ _ _ _ _ (Act.put _ (some 24) _) _
        (try simp only [Act.put, List.setIfInBounds_toArray, List.set_cons_zero, List.set_cons_succ])
        refine wpAnyH_take (i := 19) (v := (.string (((((s ++ T1) ++ ⟨#[32]⟩) ++ ⟨#[102, 111, 114, 109]⟩) ++ ⟨#[32]⟩) ++ T2))) rfl (by kernel_rfl) (by kernel_rfl) (by kernel_rfl) (fun _ _ _ h => h) (Or.inl ⟨by rfl, fun W hW => ?_⟩) (by assumption) ?_
        · (try dsimp only at hW); go_simp
        change wpAnyH _ _ _ _ _ _ _ (Act.put _ (some 2) _) _
        (try simp only [Act.put, List.setIfInBounds_toArray, List.set_cons_zero, List.set_cons_succ])
        refine wpAnyH_done (by kernel_rfl) ?_ _
        refine NoPanic.normal ?_
        go_wp2_with fail
        go_ret
        exact ⟨by rw [HKW.out]; rfl, by (repeat (first | with_reducible assumption | with_reducible exact Below.refl _ _ | with_reducible refine Below.drew ?_ | with_reducible refine belowDrewN ?_ _ | ((with_reducible refine Below.setCell ?_ ?_ _); rotate_left; focus (first | omega | (simp; done) | (simp; omega))) | ((with_reducible refine Below.alloc ?_ ?_ _); rotate_left; focus (first | omega | (simp; done) | (simp; omega))) | ((with_reducible refine Below.trans ?_ (Below.mono HW1.out ?_)); rotate_left; focus (first | omega | (simp; done) | (simp; omega))) | ((with_reducible refine Below.trans ?_ (Below.mono hB6 ?_)); rotate_left; focus (first | omega | (simp; done) | (simp; omega)))))⟩
    · have hkk : kindW 2 = [112, 114, 105, 109, 105, 116, 105, 118, 101] := by simp [kindW]
      have hkw : (⟨(fmtB s x 2 n).toArray⟩ : ByteArray) = (((((s ++ T1) ++ ⟨#[32]⟩) ++ ⟨#[112, 114, 105, 109, 105, 116, 105, 118, 101]⟩) ++ ⟨#[32]⟩) ++ T2) := by rw [fmtB_yes hok, hkk]; exact (fmt_bytes HT1.out HT2.out).symm
      have hS : ∀ W, Below w1.heap.size w1 W → (W.cell? ⟨w.heap.size, 0, none⟩ = some (.string s) ∧ W.cell? ⟨w.heap.size, 1, none⟩ = some (.slice xa x.length xc) ∧ W.cell? ⟨w.heap.size, 2, none⟩ = some (.int .i64 2) ∧ W.cell? ⟨w.heap.size, 3, none⟩ = some (.int .i64 n)) := fun W hW => by
        have h := hq1.below hW hp1
        exact ⟨h.c0, h.c1, h.c2, h.c3⟩
      have n1 : ¬ (9223372036854775807 < s.size + T1.size) := by omega
      have n2 : ¬ (9223372036854775807 < s.size + T1.size + 1) := by omega
      have n3 : ¬ (9223372036854775807 < s.size + T1.size + 1 + 9) := by omega
      have n4 : ¬ (9223372036854775807 < s.size + T1.size + 1 + 9 + 1) := by omega
      have n5 : ¬ (9223372036854775807 < s.size + T1.size + 1 + 9 + 1 + T2.size) := by omega
      have hwk : IntKind.i64.wrap 1 = 1 := by rw [IntKind.wrap_i64]; rfl
      have HOK := Lib.hid hok; clear hok; have HKW := Lib.hid hkw; clear hkw; have HQ1 := Lib.hid hq1; clear hq1; have HS := Lib.hid hS; clear hS; have HS0 := Lib.hid hs0; clear hs0
      go_wp2_with fail
      refine wp_region_noPanic ?_
      refine wp_region_held_drew (S := (fun w' => w'.cell? ⟨w.heap.size, 0, none⟩ = some (.string s) ∧ w'.cell? ⟨w.heap.size, 1, none⟩ = some (.slice xa x.length xc) ∧ w'.cell? ⟨w.heap.size, 2, none⟩ = some (.int .i64 2) ∧ w'.cell? ⟨w.heap.size, 3, none⟩ = some (.int .i64 n))) (by kernel_rfl) (by simp only [World.cell?_drew]; exact HS0.out) (fun hHeld => ?_)
      refine wpAnyH_take (i := 0) (v := (.pointer (some ⟨w.heap.size, 0, none⟩))) rfl (by kernel_rfl) (by kernel_rfl) (by kernel_rfl) (fun _ _ _ h => h) (Or.inl ⟨by rfl, fun W hW => ?_⟩) (by assumption) ?_
      · (try dsimp only at hW); go_simp
      change wpAnyH _ _ _ _ _ _ _ (Act.put _ (some 6) _) _
      (try simp only [Act.put, List.setIfInBounds_toArray, List.set_cons_zero, List.set_cons_succ])
      refine wpAnyH_take (i := 1) (v := (.string s)) rfl (by kernel_rfl) (by kernel_rfl) (by kernel_rfl) (fun _ _ _ h => h) (Or.inl ⟨by rfl, fun W hW => ?_⟩) (by assumption) ?_
      · (try dsimp only at hW); go_simp
      change wpAnyH _ _ _ _ _ _ _ (Act.put _ (some 7) _) _
      (try simp only [Act.put, List.setIfInBounds_toArray, List.set_cons_zero, List.set_cons_succ])
      refine wpAnyH_take (i := 2) (v := (.pointer (some ⟨w.heap.size, 1, none⟩))) rfl (by kernel_rfl) (by kernel_rfl) (by kernel_rfl) (fun _ _ _ h => h) (Or.inl ⟨by rfl, fun W hW => ?_⟩) (by assumption) ?_
      · (try dsimp only at hW); go_simp
      change wpAnyH _ _ _ _ _ _ _ (Act.put _ (some 8) _) _
      (try simp only [Act.put, List.setIfInBounds_toArray, List.set_cons_zero, List.set_cons_succ])
      refine wpAnyH_take (i := 3) (v := (.slice xa x.length xc)) rfl (by kernel_rfl) (by kernel_rfl) (by kernel_rfl) (fun _ _ _ h => h) (Or.inl ⟨by rfl, fun W hW => ?_⟩) (by assumption) ?_
      · (try dsimp only at hW); go_simp
      change wpAnyH _ _ _ _ _ _ _ (Act.put _ (some 9) _) _
      (try simp only [Act.put, List.setIfInBounds_toArray, List.set_cons_zero, List.set_cons_succ])
      refine wpAnyH_take (i := 8) (v := (.pointer (some ⟨w.heap.size, 2, none⟩))) rfl (by kernel_rfl) (by kernel_rfl) (by kernel_rfl) (fun _ _ _ h => h) (Or.inl ⟨by rfl, fun W hW => ?_⟩) (by assumption) ?_
      · (try dsimp only at hW); go_simp
      change wpAnyH _ _ _ _ _ _ _ (Act.put _ (some 14) _) _
      (try simp only [Act.put, List.setIfInBounds_toArray, List.set_cons_zero, List.set_cons_succ])
      refine wpAnyH_take (i := 9) (v := (.int .i64 2)) rfl (by kernel_rfl) (by kernel_rfl) (by kernel_rfl) (fun _ _ _ h => h) (Or.inl ⟨by rfl, fun W hW => ?_⟩) (by assumption) ?_
      · (try dsimp only at hW); go_simp
      change wpAnyH _ _ _ _ _ _ _ (Act.put _ (some 15) _) _
      (try simp only [Act.put, List.setIfInBounds_toArray, List.set_cons_zero, List.set_cons_succ])
      refine wpAnyH_take (i := 10) (v := (.int .i64 1)) rfl (by kernel_rfl) (by kernel_rfl) (by kernel_rfl) (fun _ _ _ h => h) (Or.inl ⟨by rfl, fun W hW => ?_⟩) (by assumption) ?_
      · (try dsimp only at hW); go_simp
      change wpAnyH _ _ _ _ _ _ _ (Act.put _ (some 16) _) _
      (try simp only [Act.put, List.setIfInBounds_toArray, List.set_cons_zero, List.set_cons_succ])
      refine wpAnyH_take (i := 15) (v := (.pointer (some ⟨w.heap.size, 3, none⟩))) rfl (by kernel_rfl) (by kernel_rfl) (by kernel_rfl) (fun _ _ _ h => h) (Or.inl ⟨by rfl, fun W hW => ?_⟩) (by assumption) ?_
      · (try dsimp only at hW); go_simp
      change wpAnyH _ _ _ _ _ _ _ (Act.put _ (some 21) _) _
      (try simp only [Act.put, List.setIfInBounds_toArray, List.set_cons_zero, List.set_cons_succ])
      refine wpAnyH_take (i := 16) (v := (.int .i64 n)) rfl (by kernel_rfl) (by kernel_rfl) (by kernel_rfl) (fun _ _ _ h => h) (Or.inl ⟨by rfl, fun W hW => ?_⟩) (by assumption) ?_
      · (try dsimp only at hW); go_simp
      change wpAnyH _ _ _ _ _ _ _ (Act.put _ (some 22) _) _
      (try simp only [Act.put, List.setIfInBounds_toArray, List.set_cons_zero, List.set_cons_succ])
      refine wpAnyH_ready (rs := [4, 7]) (by kernel_rfl) (by simp) (AllReadyH.cons rfl (fun K hK => ?_) (AllReadyH.cons rfl (fun K hK => ?_) AllReadyH.nil))
      · skip
        go_simp
        go_at_call 18
        refine (CSC.out _ (HXW.out.below (by (repeat (first | with_reducible assumption | with_reducible exact Below.refl _ _ | with_reducible refine Below.drew ?_ | with_reducible refine belowDrewN ?_ _ | ((with_reducible refine Below.setCell ?_ ?_ _); rotate_left; focus (first | omega | (simp; done) | (simp; omega))) | ((with_reducible refine Below.alloc ?_ ?_ _); rotate_left; focus (first | omega | (simp; done) | (simp; omega)))))))).mono ?_
        rintro e w5 ⟨rfl, hb5⟩
        have hB5 : Below w1.heap.size w1 w5 := by (repeat (first | with_reducible assumption | with_reducible exact Below.refl _ _ | with_reducible refine Below.drew ?_ | with_reducible refine belowDrewN ?_ _ | ((with_reducible refine Below.setCell ?_ ?_ _); rotate_left; focus (first | omega | (simp; done) | (simp; omega))) | ((with_reducible refine Below.alloc ?_ ?_ _); rotate_left; focus (first | omega | (simp; done) | (simp; omega))) | ((with_reducible refine Below.trans ?_ (Below.mono hb5 ?_)); rotate_left; focus (first | omega | (simp; done) | (simp; omega)))))
        have hz5 := hB5.size
        go_wp2_with fail
        refine hK.out _ _ (HS.out w5 hB5) (fun hHeld5 => ?_)
        clear hK K
        (try simp only [Act.put, List.setIfInBounds_toArray, List.set_cons_zero, List.set_cons_succ])
        refine wpAnyH_take (i := 5) (v := (.string (s ++ T1))) rfl (by kernel_rfl) (by kernel_rfl) (by kernel_rfl) (fun _ _ _ h => h) (Or.inl ⟨by rfl, fun W hW => ?_⟩) (by assumption) ?_
        · (try dsimp only at hW); go_simp
        change wpAnyH _ _ _ _ _ _ _ (Act.put _ (some 11) _) _
        (try simp only [Act.put, List.setIfInBounds_toArray, List.set_cons_zero, List.set_cons_succ])
        refine wpAnyH_take (i := 6) (v := (.string ((s ++ T1) ++ ⟨#[32]⟩))) rfl (by kernel_rfl) (by kernel_rfl) (by kernel_rfl) (fun _ _ _ h => h) (Or.inl ⟨by rfl, fun W hW => ?_⟩) (by assumption) ?_
        · (try dsimp only at hW); go_simp
        change wpAnyH _ _ _ _ _ _ _ (Act.put _ (some 12) _) _
        (try simp only [Act.put, List.setIfInBounds_toArray, List.set_cons_zero, List.set_cons_succ])
        refine wpAnyH_ready (rs := [7, 17]) (by kernel_rfl) (by simp) (AllReadyH.cons rfl (fun K hK => ?_) (AllReadyH.cons rfl (fun K hK => ?_) AllReadyH.nil))
        · skip
          go_simp
          refine hK.out _ _ (HS.out _ (by (repeat (first | with_reducible assumption | with_reducible exact Below.refl _ _ | with_reducible refine Below.drew ?_ | with_reducible refine belowDrewN ?_ _ | ((with_reducible refine Below.setCell ?_ ?_ _); rotate_left; focus (first | omega | (simp; done) | (simp; omega))) | ((with_reducible refine Below.alloc ?_ ?_ _); rotate_left; focus (first | omega | (simp; done) | (simp; omega))) | ((with_reducible refine Below.trans ?_ (Below.mono hB5 ?_)); rotate_left; focus (first | omega | (simp; done) | (simp; omega))))))) (fun hH7_ => ?_)
          clear hK K
          (try simp only [Act.put, List.setIfInBounds_toArray, List.set_cons_zero, List.set_cons_succ])
          refine anyH_strong (S' := fun w' => (w'.cell? ⟨w.heap.size, 0, none⟩ = some (.string s) ∧ w'.cell? ⟨w.heap.size, 1, none⟩ = some (.slice xa x.length xc) ∧ w'.cell? ⟨w.heap.size, 2, none⟩ = some (.int .i64 2) ∧ w'.cell? ⟨w.heap.size, 3, none⟩ = some (.int .i64 n)) ∧ w'.cell? ⟨w5.heap.size, 1, none⟩ = some (.string ⟨#[112, 114, 105, 109, 105, 116, 105, 118, 101]⟩)) (fun _ h => h.1) ?_
          have hH7 := And.intro hH7_ (litCell w5 #[.string ⟨#[102, 111, 114, 109]⟩, .string ⟨#[112, 114, 105, 109, 105, 116, 105, 118, 101]⟩, .string ⟨#[118, 97, 114, 105, 97, 98, 108, 101]⟩, .string ⟨#[109, 97, 99, 114, 111]⟩] 9 1 (.string ⟨#[112, 114, 105, 109, 105, 116, 105, 118, 101]⟩) rfl)
          refine wpAnyH_take (i := 11) (v := (.pointer (some ⟨w5.heap.size, 1, none⟩))) rfl (by kernel_rfl) (by kernel_rfl) (by kernel_rfl) (fun _ _ _ h => h) (Or.inl ⟨by rfl, fun W hW => ?_⟩) (by assumption) ?_
          · (try dsimp only at hW); go_simp
          change wpAnyH _ _ _ _ _ _ _ (Act.put _ (some 17) _) _
          (try simp only [Act.put, List.setIfInBounds_toArray, List.set_cons_zero, List.set_cons_succ])
          refine wpAnyH_take (i := 12) (v := (.string ⟨#[112, 114, 105, 109, 105, 116, 105, 118, 101]⟩)) rfl (by kernel_rfl) (by kernel_rfl) (by kernel_rfl) (fun _ _ _ h => h) (Or.inl ⟨by rfl, fun W hW => ?_⟩) (by assumption) ?_
          · (try dsimp only at hW); go_simp
          change wpAnyH _ _ _ _ _ _ _ (Act.put _ (some 18) _) _
          (try simp only [Act.put, List.setIfInBounds_toArray, List.set_cons_zero, List.set_cons_succ])
          refine wpAnyH_take (i := 13) (v := (.string (((s ++ T1) ++ ⟨#[32]⟩) ++ ⟨#[112, 114, 105, 109, 105, 116, 105, 118, 101]⟩))) rfl (by kernel_rfl) (by kernel_rfl) (by kernel_rfl) (fun _ _ _ h => h) (Or.inl ⟨by rfl, fun W hW => ?_⟩) (by assumption) ?_
          · (try dsimp only at hW); go_simp
          change wpAnyH _ _ _ _ _ _ _ (Act.put _ (some 19) _) _
          (try simp only [Act.put, List.setIfInBounds_toArray, List.set_cons_zero, List.set_cons_succ])
          refine wpAnyH_take (i := 14) (v := (.string ((((s ++ T1) ++ ⟨#[32]⟩) ++ ⟨#[112, 114, 105, 109, 105, 116, 105, 118, 101]⟩) ++ ⟨#[32]⟩))) rfl (by kernel_rfl) (by kernel_rfl) (by kernel_rfl) (fun _ _ _ h => h) (Or.inl ⟨by rfl, fun W hW => ?_⟩) (by assumption) ?_
          · (try dsimp only at hW); go_simp
          change wpAnyH _ _ _ _ _ _ _ (Act.put _ (some 20) _) _
          (try simp only [Act.put, List.setIfInBounds_toArray, List.set_cons_zero, List.set_cons_succ])
          refine wpAnyH_ready (rs := [17]) (by kernel_rfl) (by simp) (AllReadyH.cons rfl (fun K hK => ?_) AllReadyH.nil)
          go_simp
          go_at_call 19
          refine (CNM.out _).mono ?_
          rintro e w6 ⟨rfl, hb6⟩
          have hB6 : Below w1.heap.size w1 w6 := by (repeat (first | with_reducible assumption | with_reducible exact Below.refl _ _ | with_reducible refine Below.drew ?_ | with_reducible refine belowDrewN ?_ _ | ((with_reducible refine Below.setCell ?_ ?_ _); rotate_left; focus (first | omega | (simp; done) | (simp; omega))) | ((with_reducible refine Below.alloc ?_ ?_ _); rotate_left; focus (first | omega | (simp; done) | (simp; omega))) | ((with_reducible refine Below.trans ?_ (Below.mono hB5 ?_)); rotate_left; focus (first | omega | (simp; done) | (simp; omega))) | ((with_reducible refine Below.trans ?_ (Below.mono hb6 ?_)); rotate_left; focus (first | omega | (simp; done) | (simp; omega)))))
          have hz6 := hB6.size
          go_wp2_with fail
          refine hK.out _ _ ⟨HS.out w6 hB6, (hb6.cell (p := ⟨w5.heap.size, 1, none⟩) (World.block_lt_of_cell? _ _ hH7.2)).trans hH7.2⟩ (fun hHeld6 => ?_)
          clear hK K
          (try simp only [Act.put, List.setIfInBounds_toArray, List.set_cons_zero, List.set_cons_succ])
          refine wpAnyH_take (i := 18) (v := (.string (((((s ++ T1) ++ ⟨#[32]⟩) ++ ⟨#[112, 114, 105, 109, 105, 116, 105, 118, 101]⟩) ++ ⟨#[32]⟩) ++ T2))) rfl (by kernel_rfl) (by kernel_rfl) (by kernel_rfl) (fun _ _ _ h => h) (Or.inl ⟨by rfl, fun W hW => ?_⟩) (by assumption) ?_
          · (try dsimp only at hW); go_simp
          change wpAnyH _ _ _ _ _ _ _ (Act.put _ (some 24) _) _
          (try simp only [Act.put, List.setIfInBounds_toArray, List.set_cons_zero, List.set_cons_succ])
          refine wpAnyH_take (i := 19) (v := (.string (((((s ++ T1) ++ ⟨#[32]⟩) ++ ⟨#[112, 114, 105, 109, 105, 116, 105, 118, 101]⟩) ++ ⟨#[32]⟩) ++ T2))) rfl (by kernel_rfl) (by kernel_rfl) (by kernel_rfl) (fun _ _ _ h => h) (Or.inl ⟨by rfl, fun W hW => ?_⟩) (by assumption) ?_
          · (try dsimp only at hW); go_simp
          change wpAnyH _ _ _ _ _ _ _ (Act.put _ (some 2) _) _
          (try simp only [Act.put, List.setIfInBounds_toArray, List.set_cons_zero, List.set_cons_succ])
          refine wpAnyH_done (by kernel_rfl) ?_ _
          refine NoPanic.normal ?_
          go_wp2_with fail
          go_ret
          exact ⟨by rw [HKW.out]; rfl, by (repeat (first | with_reducible assumption | with_reducible exact Below.refl _ _ | with_reducible refine Below.drew ?_ | with_reducible refine belowDrewN ?_ _ | ((with_reducible refine Below.setCell ?_ ?_ _); rotate_left; focus (first | omega | (simp; done) | (simp; omega))) | ((with_reducible refine Below.alloc ?_ ?_ _); rotate_left; focus (first | omega | (simp; done) | (simp; omega))) | ((with_reducible refine Below.trans ?_ (Below.mono HW1.out ?_)); rotate_left; focus (first | omega | (simp; done) | (simp; omega))) | ((with_reducible refine Below.trans ?_ (Below.mono hB6 ?_)); rotate_left; focus (first | omega | (simp; done) | (simp; omega)))))⟩
        · skip
          go_simp
          go_at_call 19
          refine (CNM.out _).mono ?_
          rintro e w6 ⟨rfl, hb6⟩
          have hB6 : Below w1.heap.size w1 w6 := by (repeat (first | with_reducible assumption | with_reducible exact Below.refl _ _ | with_reducible refine Below.drew ?_ | with_reducible refine belowDrewN ?_ _ | ((with_reducible refine Below.setCell ?_ ?_ _); rotate_left; focus (first | omega | (simp; done) | (simp; omega))) | ((with_reducible refine Below.alloc ?_ ?_ _); rotate_left; focus (first | omega | (simp; done) | (simp; omega))) | ((with_reducible refine Below.trans ?_ (Below.mono hB5 ?_)); rotate_left; focus (first | omega | (simp; done) | (simp; omega))) | ((with_reducible refine Below.trans ?_ (Below.mono hb6 ?_)); rotate_left; focus (first | omega | (simp; done) | (simp; omega)))))
          have hz6 := hB6.size
          go_wp2_with fail
          refine hK.out _ _ (HS.out w6 hB6) (fun hHeld6 => ?_)
          clear hK K
          (try simp only [Act.put, List.setIfInBounds_toArray, List.set_cons_zero, List.set_cons_succ])
          refine wpAnyH_ready (rs := [7]) (by kernel_rfl) (by simp) (AllReadyH.cons rfl (fun K hK => ?_) AllReadyH.nil)
          go_simp
          refine hK.out _ _ (HS.out _ (by (repeat (first | with_reducible assumption | with_reducible exact Below.refl _ _ | with_reducible refine Below.drew ?_ | with_reducible refine belowDrewN ?_ _ | ((with_reducible refine Below.setCell ?_ ?_ _); rotate_left; focus (first | omega | (simp; done) | (simp; omega))) | ((with_reducible refine Below.alloc ?_ ?_ _); rotate_left; focus (first | omega | (simp; done) | (simp; omega))) | ((with_reducible refine Below.trans ?_ (Below.mono hB6 ?_)); rotate_left; focus (first | omega | (simp; done) | (simp; omega))))))) (fun hH7_ => ?_)
          clear hK K
          (try simp only [Act.put, List.setIfInBounds_toArray, List.set_cons_zero, List.set_cons_succ])
          refine anyH_strong (S' := fun w' => (w'.cell? ⟨w.heap.size, 0, none⟩ = some (.string s) ∧ w'.cell? ⟨w.heap.size, 1, none⟩ = some (.slice xa x.length xc) ∧ w'.cell? ⟨w.heap.size, 2, none⟩ = some (.int .i64 2) ∧ w'.cell? ⟨w.heap.size, 3, none⟩ = some (.int .i64 n)) ∧ w'.cell? ⟨w6.heap.size, 1, none⟩ = some (.string ⟨#[112, 114, 105, 109, 105, 116, 105, 118, 101]⟩)) (fun _ h => h.1) ?_
          have hH7 := And.intro hH7_ (litCell w6 #[.string ⟨#[102, 111, 114, 109]⟩, .string ⟨#[112, 114, 105, 109, 105, 116, 105, 118, 101]⟩, .string ⟨#[118, 97, 114, 105, 97, 98, 108, 101]⟩, .string ⟨#[109, 97, 99, 114, 111]⟩] 9 1 (.string ⟨#[112, 114, 105, 109, 105, 116, 105, 118, 101]⟩) rfl)
          refine wpAnyH_take (i := 11) (v := (.pointer (some ⟨w6.heap.size, 1, none⟩))) rfl (by kernel_rfl) (by kernel_rfl) (by kernel_rfl) (fun _ _ _ h => h) (Or.inl ⟨by rfl, fun W hW => ?_⟩) (by assumption) ?_
          · (try dsimp only at hW); go_simp
          change wpAnyH _ _ _ _ _ _ _ (Act.put _ (some 17) _) _
          (try simp only [Act.put, List.setIfInBounds_toArray, List.set_cons_zero, List.set_cons_succ])
          refine wpAnyH_take (i := 12) (v := (.string ⟨#[112, 114, 105, 109, 105, 116, 105, 118, 101]⟩)) rfl (by kernel_rfl) (by kernel_rfl) (by kernel_rfl) (fun _ _ _ h => h) (Or.inl ⟨by rfl, fun W hW => ?_⟩) (by assumption) ?_
          · (try dsimp only at hW); go_simp
          change wpAnyH _ _ _ _ _ _ _ (Act.put _ (some 18) _) _
          (try simp only [Act.put, List.setIfInBounds_toArray, List.set_cons_zero, List.set_cons_succ])
          refine wpAnyH_take (i := 13) (v := (.string (((s ++ T1) ++ ⟨#[32]⟩) ++ ⟨#[112, 114, 105, 109, 105, 116, 105, 118, 101]⟩))) rfl (by kernel_rfl) (by kernel_rfl) (by kernel_rfl) (fun _ _ _ h => h) (Or.inl ⟨by rfl, fun W hW => ?_⟩) (by assumption) ?_
          · (try dsimp only at hW); go_simp
          change wpAnyH _ _ _ _ _ _ _ (Act.put _ (some 19) _) _
          (try simp only [Act.put, List.setIfInBounds_toArray, List.set_cons_zero, List.set_cons_succ])
          refine wpAnyH_take (i := 14) (v := (.string ((((s ++ T1) ++ ⟨#[32]⟩) ++ ⟨#[112, 114, 105, 109, 105, 116, 105, 118, 101]⟩) ++ ⟨#[32]⟩))) rfl (by kernel_rfl) (by kernel_rfl) (by kernel_rfl) (fun _ _ _ h => h) (Or.inl ⟨by rfl, fun W hW => ?_⟩) (by assumption) ?_
          · (try dsimp only at hW); go_simp
          change wpAnyH _ _ _ _ _ _ _ (Act.put _ (some 20) _) _
          (try simp only [Act.put, List.setIfInBounds_toArray, List.set_cons_zero, List.set_cons_succ])
          refine wpAnyH_take (i := 18) (v := (.string (((((s ++ T1) ++ ⟨#[32]⟩) ++ ⟨#[112, 114, 105, 109, 105, 116, 105, 118, 101]⟩) ++ ⟨#[32]⟩) ++ T2))) rfl (by kernel_rfl) (by kernel_rfl) (by kernel_rfl) (fun _ _ _ h => h) (Or.inl ⟨by rfl, fun W hW => ?_⟩) (by assumption) ?_
          · (try dsimp only at hW); go_simp
          change wpAnyH _ _ _ _ _ _ _ (Act.put _ (some 24) _) _
          (try simp only [Act.put, List.setIfInBounds_toArray, List.set_cons_zero, List.set_cons_succ])
          refine wpAnyH_take (i := 19) (v := (.string (((((s ++ T1) ++ ⟨#[32]⟩) ++ ⟨#[112, 114, 105, 109, 105, 116, 105, 118, 101]⟩) ++ ⟨#[32]⟩) ++ T2))) rfl (by kernel_rfl) (by kernel_rfl) (by kernel_rfl) (fun _ _ _ h => h) (Or.inl ⟨by rfl, fun W hW => ?_⟩) (by assumption) ?_
          · (try dsimp only at hW); go_simp
          change wpAnyH _ _ _ _ _ _ _ (Act.put _ (some 2) _) _
          (try simp only [Act.put, List.setIfInBounds_toArray, List.set_cons_zero, List.set_cons_succ])
          refine wpAnyH_done (by kernel_rfl) ?_ _
          refine NoPanic.normal ?_
          go_wp2_with fail
          go_ret
          exact ⟨by rw [HKW.out]; rfl, by (repeat (first | with_reducible assumption | with_reducible exact Below.refl _ _ | with_reducible refine Below.drew ?_ | with_reducible refine belowDrewN ?_ _ | ((with_reducible refine Below.setCell ?_ ?_ _); rotate_left; focus (first | omega | (simp; done) | (simp; omega))) | ((with_reducible refine Below.alloc ?_ ?_ _); rotate_left; focus (first | omega | (simp; done) | (simp; omega))) | ((with_reducible refine Below.trans ?_ (Below.mono HW1.out ?_)); rotate_left; focus (first | omega | (simp; done) | (simp; omega))) | ((with_reducible refine Below.trans ?_ (Below.mono hB6 ?_)); rotate_left; focus (first | omega | (simp; done) | (simp; omega)))))⟩
      · skip
        go_simp
        refine hK.out _ _ (HS.out _ (by (repeat (first | with_reducible assumption | with_reducible exact Below.refl _ _ | with_reducible refine Below.drew ?_ | with_reducible refine belowDrewN ?_ _ | ((with_reducible refine Below.setCell ?_ ?_ _); rotate_left; focus (first | omega | (simp; done) | (simp; omega))) | ((with_reducible refine Below.alloc ?_ ?_ _); rotate_left; focus (first | omega | (simp; done) | (simp; omega))))))) (fun hH7_ => ?_)
        clear hK K
        (try simp only [Act.put, List.setIfInBounds_toArray, List.set_cons_zero, List.set_cons_succ])
        refine anyH_strong (S' := fun w' => (w'.cell? ⟨w.heap.size, 0, none⟩ = some (.string s) ∧ w'.cell? ⟨w.heap.size, 1, none⟩ = some (.slice xa x.length xc) ∧ w'.cell? ⟨w.heap.size, 2, none⟩ = some (.int .i64 2) ∧ w'.cell? ⟨w.heap.size, 3, none⟩ = some (.int .i64 n)) ∧ w'.cell? ⟨w1.heap.size, 1, none⟩ = some (.string ⟨#[112, 114, 105, 109, 105, 116, 105, 118, 101]⟩)) (fun _ h => h.1) ?_
        have hH7 := And.intro hH7_ (litCell w1.drew #[.string ⟨#[102, 111, 114, 109]⟩, .string ⟨#[112, 114, 105, 109, 105, 116, 105, 118, 101]⟩, .string ⟨#[118, 97, 114, 105, 97, 98, 108, 101]⟩, .string ⟨#[109, 97, 99, 114, 111]⟩] 9 1 (.string ⟨#[112, 114, 105, 109, 105, 116, 105, 118, 101]⟩) rfl)
        refine wpAnyH_take (i := 11) (v := (.pointer (some ⟨w1.heap.size, 1, none⟩))) rfl (by kernel_rfl) (by kernel_rfl) (by kernel_rfl) (fun _ _ _ h => h) (Or.inl ⟨by rfl, fun W hW => ?_⟩) (by assumption) ?_
        · (try dsimp only at hW); go_simp
        change wpAnyH _ _ _ _ _ _ _ (Act.put _ (some 17) _) _
        (try simp only [Act.put, List.setIfInBounds_toArray, List.set_cons_zero, List.set_cons_succ])
        refine wpAnyH_take (i := 12) (v := (.string ⟨#[112, 114, 105, 109, 105, 116, 105, 118, 101]⟩)) rfl (by kernel_rfl) (by kernel_rfl) (by kernel_rfl) (fun _ _ _ h => h) (Or.inl ⟨by rfl, fun W hW => ?_⟩) (by assumption) ?_
        · (try dsimp only at hW); go_simp
        change wpAnyH _ _ _ _ _ _ _ (Act.put _ (some 18) _) _
        (try simp only [Act.put, List.setIfInBounds_toArray, List.set_cons_zero, List.set_cons_succ])
        refine wpAnyH_ready (rs := [4]) (by kernel_rfl) (by simp) (AllReadyH.cons rfl (fun K hK => ?_) AllReadyH.nil)
        go_simp
        go_at_call 18
        refine (CSC.out _ (HXW.out.below (by (repeat (first | with_reducible assumption | with_reducible exact Below.refl _ _ | with_reducible refine Below.drew ?_ | with_reducible refine belowDrewN ?_ _ | ((with_reducible refine Below.setCell ?_ ?_ _); rotate_left; focus (first | omega | (simp; done) | (simp; omega))) | ((with_reducible refine Below.alloc ?_ ?_ _); rotate_left; focus (first | omega | (simp; done) | (simp; omega)))))))).mono ?_
        rintro e w5 ⟨rfl, hb5⟩
        have hB5 : Below w1.heap.size w1 w5 := by (repeat (first | with_reducible assumption | with_reducible exact Below.refl _ _ | with_reducible refine Below.drew ?_ | with_reducible refine belowDrewN ?_ _ | ((with_reducible refine Below.setCell ?_ ?_ _); rotate_left; focus (first | omega | (simp; done) | (simp; omega))) | ((with_reducible refine Below.alloc ?_ ?_ _); rotate_left; focus (first | omega | (simp; done) | (simp; omega))) | ((with_reducible refine Below.trans ?_ (Below.mono hb5 ?_)); rotate_left; focus (first | omega | (simp; done) | (simp; omega)))))
        have hz5 := hB5.size
        go_wp2_with fail
        refine hK.out _ _ ⟨HS.out w5 hB5, (hb5.cell (p := ⟨w1.heap.size, 1, none⟩) (World.block_lt_of_cell? _ _ hH7.2)).trans hH7.2⟩ (fun hHeld5 => ?_)
        clear hK K
        (try simp only [Act.put, List.setIfInBounds_toArray, List.set_cons_zero, List.set_cons_succ])
        refine wpAnyH_take (i := 5) (v := (.string (s ++ T1))) rfl (by kernel_rfl) (by kernel_rfl) (by kernel_rfl) (fun _ _ _ h => h) (Or.inl ⟨by rfl, fun W hW => ?_⟩) (by assumption) ?_
        · (try dsimp only at hW); go_simp
        change wpAnyH _ _ _ _ _ _ _ (Act.put _ (some 11) _) _
        (try simp only [Act.put, List.setIfInBounds_toArray, List.set_cons_zero, List.set_cons_succ])
        refine wpAnyH_take (i := 6) (v := (.string ((s ++ T1) ++ ⟨#[32]⟩))) rfl (by kernel_rfl) (by kernel_rfl) (by kernel_rfl) (fun _ _ _ h => h) (Or.inl ⟨by rfl, fun W hW => ?_⟩) (by assumption) ?_
        · (try dsimp only at hW); go_simp
        change wpAnyH _ _ _ _ _ _ _ (Act.put _ (some 12) _) _
        (try simp only [Act.put, List.setIfInBounds_toArray, List.set_cons_zero, List.set_cons_succ])
        refine wpAnyH_take (i := 13) (v := (.string (((s ++ T1) ++ ⟨#[32]⟩) ++ ⟨#[112, 114, 105, 109, 105, 116, 105, 118, 101]⟩))) rfl (by kernel_rfl) (by kernel_rfl) (by kernel_rfl) (fun _ _ _ h => h) (Or.inl ⟨by rfl, fun W hW => ?_⟩) (by assumption) ?_
        · (try dsimp only at hW); go_simp
        change wpAnyH _ _ _ _ _ _ _ (Act.put _ (some 19) _) _
        (try simp only [Act.put, List.setIfInBounds_toArray, List.set_cons_zero, List.set_cons_succ])
        refine wpAnyH_take (i := 14) (v := (.string ((((s ++ T1) ++ ⟨#[32]⟩) ++ ⟨#[112, 114, 105, 109, 105, 116, 105, 118, 101]⟩) ++ ⟨#[32]⟩))) rfl (by kernel_rfl) (by kernel_rfl) (by kernel_rfl) (fun _ _ _ h => h) (Or.inl ⟨by rfl, fun W hW => ?_⟩) (by assumption) ?_
        · (try dsimp only at hW); go_simp
        change wpAnyH _ _ _ _ _ _ _ (Act.put _ (some 20) _) _
        (try simp only [Act.put, List.setIfInBounds_toArray, List.set_cons_zero, List.set_cons_succ])
        refine wpAnyH_ready (rs := [17]) (by kernel_rfl) (by simp) (AllReadyH.cons rfl (fun K hK => ?_) AllReadyH.nil)
        go_simp
        go_at_call 19
        refine (CNM.out _).mono ?_
        rintro e w6 ⟨rfl, hb6⟩
        have hB6 : Below w1.heap.size w1 w6 := by (repeat (first | with_reducible assumption | with_reducible exact Below.refl _ _ | with_reducible refine Below.drew ?_ | with_reducible refine belowDrewN ?_ _ | ((with_reducible refine Below.setCell ?_ ?_ _); rotate_left; focus (first | omega | (simp; done) | (simp; omega))) | ((with_reducible refine Below.alloc ?_ ?_ _); rotate_left; focus (first | omega | (simp; done) | (simp; omega))) | ((with_reducible refine Below.trans ?_ (Below.mono hB5 ?_)); rotate_left; focus (first | omega | (simp; done) | (simp; omega))) | ((with_reducible refine Below.trans ?_ (Below.mono hb6 ?_)); rotate_left; focus (first | omega | (simp; done) | (simp; omega)))))
        have hz6 := hB6.size
        go_wp2_with fail
        refine hK.out _ _ ⟨HS.out w6 hB6, (hb6.cell (p := ⟨w1.heap.size, 1, none⟩) (World.block_lt_of_cell? _ _ hHeld5.2)).trans hHeld5.2⟩ (fun hHeld6 => ?_)
        clear hK K
        (try simp only [Act.put, List.setIfInBounds_toArray, List.set_cons_zero, List.set_cons_succ])
        refine wpAnyH_take (i := 18) (v := (.string (((((s ++ T1) ++ ⟨#[32]⟩) ++ ⟨#[112, 114, 105, 109, 105, 116, 105, 118, 101]⟩) ++ ⟨#[32]⟩) ++ T2))) rfl (by kernel_rfl) (by kernel_rfl) (by kernel_rfl) (fun _ _ _ h => h) (Or.inl ⟨by rfl, fun W hW => ?_⟩) (by assumption) ?_
        · (try dsimp only at hW); go_simp
        change wpAnyH _ _ _ _ _ _ _ (Act.put _ (some 24) _) _
        (try simp only [Act.put, List.setIfInBounds_toArray, List.set_cons_zero, List.set_cons_succ])
        refine wpAnyH_take (i := 19) (v := (.string (((((s ++ T1) ++ ⟨#[32]⟩) ++ ⟨#[112, 114, 105, 109, 105, 116, 105, 118, 101]⟩) ++ ⟨#[32]⟩) ++ T2))) rfl (by kernel_rfl) (by kernel_rfl) (by kernel_rfl) (fun _ _ _ h => h) (Or.inl ⟨by rfl, fun W hW => ?_⟩) (by assumption) ?_
        · (try dsimp only at hW); go_simp
        change wpAnyH _ _ _ _ _ _ _ (Act.put _ (some 2) _) _
        (try simp only [Act.put, List.setIfInBounds_toArray, List.set_cons_zero, List.set_cons_succ])
        refine wpAnyH_done (by kernel_rfl) ?_ _
        refine NoPanic.normal ?_
        go_wp2_with fail
        go_ret
        exact ⟨by rw [HKW.out]; rfl, by (repeat (first | with_reducible assumption | with_reducible exact Below.refl _ _ | with_reducible refine Below.drew ?_ | with_reducible refine belowDrewN ?_ _ | ((with_reducible refine Below.setCell ?_ ?_ _); rotate_left; focus (first | omega | (simp; done) | (simp; omega))) | ((with_reducible refine Below.alloc ?_ ?_ _); rotate_left; focus (first | omega | (simp; done) | (simp; omega))) | ((with_reducible refine Below.trans ?_ (Below.mono HW1.out ?_)); rotate_left; focus (first | omega | (simp; done) | (simp; omega))) | ((with_reducible refine Below.trans ?_ (Below.mono hB6 ?_)); rotate_left; focus (first | omega | (simp; done) | (simp; omega)))))⟩
    · have hkk : kindW 3 = [118, 97, 114, 105, 97, 98, 108, 101] := by simp [kindW]
      have hkw : (⟨(fmtB s x 3 n).toArray⟩ : ByteArray) = (((((s ++ T1) ++ ⟨#[32]⟩) ++ ⟨#[118, 97, 114, 105, 97, 98, 108, 101]⟩) ++ ⟨#[32]⟩) ++ T2) := by rw [fmtB_yes hok, hkk]; exact (fmt_bytes HT1.out HT2.out).symm
      have hS : ∀ W, Below w1.heap.size w1 W → (W.cell? ⟨w.heap.size, 0, none⟩ = some (.string s) ∧ W.cell? ⟨w.heap.size, 1, none⟩ = some (.slice xa x.length xc) ∧ W.cell? ⟨w.heap.size, 2, none⟩ = some (.int .i64 3) ∧ W.cell? ⟨w.heap.size, 3, none⟩ = some (.int .i64 n)) := fun W hW => by
        have h := hq1.below hW hp1
        exact ⟨h.c0, h.c1, h.c2, h.c3⟩
      have n1 : ¬ (9223372036854775807 < s.size + T1.size) := by omega
      have n2 : ¬ (9223372036854775807 < s.size + T1.size + 1) := by omega
      have n3 : ¬ (9223372036854775807 < s.size + T1.size + 1 + 8) := by omega
      have n4 : ¬ (9223372036854775807 < s.size + T1.size + 1 + 8 + 1) := by omega
      have n5 : ¬ (9223372036854775807 < s.size + T1.size + 1 + 8 + 1 + T2.size) := by omega
      have hwk : IntKind.i64.wrap 2 = 2 := by rw [IntKind.wrap_i64]; rfl
      have HOK := Lib.hid hok; clear hok; have HKW := Lib.hid hkw; clear hkw; have HQ1 := Lib.hid hq1; clear hq1; have HS := Lib.hid hS; clear hS; have HS0 := Lib.hid hs0; clear hs0
      go_wp2_with fail
      refine wp_region_noPanic ?_
      refine wp_region_held_drew (S := (fun w' => w'.cell? ⟨w.heap.size, 0, none⟩ = some (.string s) ∧ w'.cell? ⟨w.heap.size, 1, none⟩ = some (.slice xa x.length xc) ∧ w'.cell? ⟨w.heap.size, 2, none⟩ = some (.int .i64 3) ∧ w'.cell? ⟨w.heap.size, 3, none⟩ = some (.int .i64 n))) (by kernel_rfl) (by simp only [World.cell?_drew]; exact HS0.out) (fun hHeld => ?_)
      refine wpAnyH_take (i := 0) (v := (.pointer (some ⟨w.heap.size, 0, none⟩))) rfl (by kernel_rfl) (by kernel_rfl) (by kernel_rfl) (fun _ _ _ h => h) (Or.inl ⟨by rfl, fun W hW => ?_⟩) (by assumption) ?_
      · (try dsimp only at hW); go_simp
      change wpAnyH _ _ _ _ _ _ _ (Act.put _ (some 6) _) _
      (try simp only [Act.put, List.setIfInBounds_toArray, List.set_cons_zero, List.set_cons_succ])
      refine wpAnyH_take (i := 1) (v := (.string s)) rfl (by kernel_rfl) (by kernel_rfl) (by kernel_rfl) (fun _ _ _ h => h) (Or.inl ⟨by rfl, fun W hW => ?_⟩) (by assumption) ?_
      · (try dsimp only at hW); go_simp
      change wpAnyH _ _ _ _ _ _ _ (Act.put _ (some 7) _) _
      (try simp only [Act.put, List.setIfInBounds_toArray, List.set_cons_zero, List.set_cons_succ])
      refine wpAnyH_take (i := 2) (v := (.pointer (some ⟨w.heap.size, 1, none⟩))) rfl (by kernel_rfl) (by kernel_rfl) (by kernel_rfl) (fun _ _ _ h => h) (Or.inl ⟨by rfl, fun W hW => ?_⟩) (by assumption) ?_
      · (try dsimp only at hW); go_simp
      change wpAnyH _ _ _ _ _ _ _ (Act.put _ (some 8) _) _
      (try simp only [Act.put, List.setIfInBounds_toArray, List.set_cons_zero, List.set_cons_succ])
      refine wpAnyH_take (i := 3) (v := (.slice xa x.length xc)) rfl (by kernel_rfl) (by kernel_rfl) (by kernel_rfl) (fun _ _ _ h => h) (Or.inl ⟨by rfl, fun W hW => ?_⟩) (by assumption) ?_
      · (try dsimp only at hW); go_simp
      change wpAnyH _ _ _ _ _ _ _ (Act.put _ (some 9) _) _
      (try simp only [Act.put, List.setIfInBounds_toArray, List.set_cons_zero, List.set_cons_succ])
      refine wpAnyH_take (i := 8) (v := (.pointer (some ⟨w.heap.size, 2, none⟩))) rfl (by kernel_rfl) (by kernel_rfl) (by kernel_rfl) (fun _ _ _ h => h) (Or.inl ⟨by rfl, fun W hW => ?_⟩) (by assumption) ?_
      · (try dsimp only at hW); go_simp
      change wpAnyH _ _ _ _ _ _ _ (Act.put _ (some 14) _) _
      (try simp only [Act.put, List.setIfInBounds_toArray, List.set_cons_zero, List.set_cons_succ])
      refine wpAnyH_take (i := 9) (v := (.int .i64 3)) rfl (by kernel_rfl) (by kernel_rfl) (by kernel_rfl) (fun _ _ _ h => h) (Or.inl ⟨by rfl, fun W hW => ?_⟩) (by assumption) ?_
      · (try dsimp only at hW); go_simp
      change wpAnyH _ _ _ _ _ _ _ (Act.put _ (some 15) _) _
      (try simp only [Act.put, List.setIfInBounds_toArray, List.set_cons_zero, List.set_cons_succ])
      refine wpAnyH_take (i := 10) (v := (.int .i64 2)) rfl (by kernel_rfl) (by kernel_rfl) (by kernel_rfl) (fun _ _ _ h => h) (Or.inl ⟨by rfl, fun W hW => ?_⟩) (by assumption) ?_
      · (try dsimp only at hW); go_simp
      change wpAnyH _ _ _ _ _ _ _ (Act.put _ (some 16) _) _
      (try simp only [Act.put, List.setIfInBounds_toArray, List.set_cons_zero, List.set_cons_succ])
      refine wpAnyH_take (i := 15) (v := (.pointer (some ⟨w.heap.size, 3, none⟩))) rfl (by kernel_rfl) (by kernel_rfl) (by kernel_rfl) (fun _ _ _ h => h) (Or.inl ⟨by rfl, fun W hW => ?_⟩) (by assumption) ?_
      · (try dsimp only at hW); go_simp
      change wpAnyH _ _ _ _ _ _ _ (Act.put _ (some 21) _) _
      (try simp only [Act.put, List.setIfInBounds_toArray, List.set_cons_zero, List.set_cons_succ])
      refine wpAnyH_take (i := 16) (v := (.int .i64 n)) rfl (by kernel_rfl) (by kernel_rfl) (by kernel_rfl) (fun _ _ _ h => h) (Or.inl ⟨by rfl, fun W hW => ?_⟩) (by assumption) ?_
      · (try dsimp only at hW); go_simp
      change wpAnyH _ _ _ _ _ _ _ (Act.put _ (some 22) _) _
      (try simp only [Act.put, List.setIfInBounds_toArray, List.set_cons_zero, List.set_cons_succ])
      refine wpAnyH_ready (rs := [4, 7]) (by kernel_rfl) (by simp) (AllReadyH.cons rfl (fun K hK => ?_) (AllReadyH.cons rfl (fun K hK => ?_) AllReadyH.nil))
      · skip
        go_simp
        go_at_call 18
        refine (CSC.out _ (HXW.out.below (by (repeat (first | with_reducible assumption | with_reducible exact Below.refl _ _ | with_reducible refine Below.drew ?_ | with_reducible refine belowDrewN ?_ _ | ((with_reducible refine Below.setCell ?_ ?_ _); rotate_left; focus (first | omega | (simp; done) | (simp; omega))) | ((with_reducible refine Below.alloc ?_ ?_ _); rotate_left; focus (first | omega | (simp; done) | (simp; omega)))))))).mono ?_
        rintro e w5 ⟨rfl, hb5⟩
        have hB5 : Below w1.heap.size w1 w5 := by (repeat (first | with_reducible assumption | with_reducible exact Below.refl _ _ | with_reducible refine Below.drew ?_ | with_reducible refine belowDrewN ?_ _ | ((with_reducible refine Below.setCell ?_ ?_ _); rotate_left; focus (first | omega | (simp; done) | (simp; omega))) | ((with_reducible refine Below.alloc ?_ ?_ _); rotate_left; focus (first | omega | (simp; done) | (simp; omega))) | ((with_reducible refine Below.trans ?_ (Below.mono hb5 ?_)); rotate_left; focus (first | omega | (simp; done) | (simp; omega)))))
        have hz5 := hB5.size
        go_wp2_with fail
        refine hK.out _ _ (HS.out w5 hB5) (fun hHeld5 => ?_)
        clear hK K
        (try simp only [Act.put, List.setIfInBounds_toArray, List.set_cons_zero, List.set_cons_succ])
        refine wpAnyH_take (i := 5) (v := (.string (s ++ T1))) rfl (by kernel_rfl) (by kernel_rfl) (by kernel_rfl) (fun _ _ _ h => h) (Or.inl ⟨by rfl, fun W hW => ?_⟩) (by assumption) ?_
        · (try dsimp only at hW); go_simp
        change wpAnyH _ _ _ _ _ _ _ (Act.put _ (some 11) _) _
        (try simp only [Act.put, List.setIfInBounds_toArray, List.set_cons_zero, List.set_cons_succ])
        refine wpAnyH_take (i := 6) (v := (.string ((s ++ T1) ++ ⟨#[32]⟩))) rfl (by kernel_rfl) (by kernel_rfl) (by kernel_rfl) (fun _ _ _ h => h) (Or.inl ⟨by rfl, fun W hW => ?_⟩) (by assumption) ?_
        · (try dsimp only at hW); go_simp
        change wpAnyH _ _ _ _ _ _ _ (Act.put _ (some 12) _) _
        (try simp only [Act.put, List.setIfInBounds_toArray, List.set_cons_zero, List.set_cons_succ])
        refine wpAnyH_ready (rs := [7, 17]) (by kernel_rfl) (by simp) (AllReadyH.cons rfl (fun K hK => ?_) (AllReadyH.cons rfl (fun K hK => ?_) AllReadyH.nil))
        · skip
          go_simp
          refine hK.out _ _ (HS.out _ (by (repeat (first | with_reducible assumption | with_reducible exact Below.refl _ _ | with_reducible refine Below.drew ?_ | with_reducible refine belowDrewN ?_ _ | ((with_reducible refine Below.setCell ?_ ?_ _); rotate_left; focus (first | omega | (simp; done) | (simp; omega))) | ((with_reducible refine Below.alloc ?_ ?_ _); rotate_left; focus (first | omega | (simp; done) | (simp; omega))) | ((with_reducible refine Below.trans ?_ (Below.mono hB5 ?_)); rotate_left; focus (first | omega | (simp; done) | (simp; omega))))))) (fun hH7_ => ?_)
          clear hK K
          (try simp only [Act.put, List.setIfInBounds_toArray, List.set_cons_zero, List.set_cons_succ])
          refine anyH_strong (S' := fun w' => (w'.cell? ⟨w.heap.size, 0, none⟩ = some (.string s) ∧ w'.cell? ⟨w.heap.size, 1, none⟩ = some (.slice xa x.length xc) ∧ w'.cell? ⟨w.heap.size, 2, none⟩ = some (.int .i64 3) ∧ w'.cell? ⟨w.heap.size, 3, none⟩ = some (.int .i64 n)) ∧ w'.cell? ⟨w5.heap.size, 2, none⟩ = some (.string ⟨#[118, 97, 114, 105, 97, 98, 108, 101]⟩)) (fun _ h => h.1) ?_
          have hH7 := And.intro hH7_ (litCell w5 #[.string ⟨#[102, 111, 114, 109]⟩, .string ⟨#[112, 114, 105, 109, 105, 116, 105, 118, 101]⟩, .string ⟨#[118, 97, 114, 105, 97, 98, 108, 101]⟩, .string ⟨#[109, 97, 99, 114, 111]⟩] 9 2 (.string ⟨#[118, 97, 114, 105, 97, 98, 108, 101]⟩) rfl)
          refine wpAnyH_take (i := 11) (v := (.pointer (some ⟨w5.heap.size, 2, none⟩))) rfl (by kernel_rfl) (by kernel_rfl) (by kernel_rfl) (fun _ _ _ h => h) (Or.inl ⟨by rfl, fun W hW => ?_⟩) (by assumption) ?_
          · (try dsimp only at hW); go_simp
          change wpAnyH _ _ _ _ _ _ _ (Act.put _ (some 17) _) _
          (try simp only [Act.put, List.setIfInBounds_toArray, List.set_cons_zero, List.set_cons_succ])
          refine wpAnyH_take (i := 12) (v := (.string ⟨#[118, 97, 114, 105, 97, 98, 108, 101]⟩)) rfl (by kernel_rfl) (by kernel_rfl) (by kernel_rfl) (fun _ _ _ h => h) (Or.inl ⟨by rfl, fun W hW => ?_⟩) (by assumption) ?_
          · (try dsimp only at hW); go_simp
          change wpAnyH _ _ _ _ _ _ _ (Act.put _ (some 18) _) _
          (try simp only [Act.put, List.setIfInBounds_toArray, List.set_cons_zero, List.set_cons_succ])
          refine wpAnyH_take (i := 13) (v := (.string (((s ++ T1) ++ ⟨#[32]⟩) ++ ⟨#[118, 97, 114, 105, 97, 98, 108, 101]⟩))) rfl (by kernel_rfl) (by kernel_rfl) (by kernel_rfl) (fun _ _ _ h => h) (Or.inl ⟨by rfl, fun W hW => ?_⟩) (by assumption) ?_
          · (try dsimp only at hW); go_simp
          change wpAnyH _ _ _ _ _ _ _ (Act.put _ (some 19) _) _
          (try simp only [Act.put, List.setIfInBounds_toArray, List.set_cons_zero, List.set_cons_succ])
          refine wpAnyH_take (i := 14) (v := (.string ((((s ++ T1) ++ ⟨#[32]⟩) ++ ⟨#[118, 97, 114, 105, 97, 98, 108, 101]⟩) ++ ⟨#[32]⟩))) rfl (by kernel_rfl) (by kernel_rfl) (by kernel_rfl) (fun _ _ _ h => h) (Or.inl ⟨by rfl, fun W hW => ?_⟩) (by assumption) ?_
          · (try dsimp only at hW); go_simp
          change wpAnyH _ _ _ _ _ _ _ (Act.put _ (some 20) _) _
          (try simp only [Act.put, List.setIfInBounds_toArray, List.set_cons_zero, List.set_cons_succ])
          refine wpAnyH_ready (rs := [17]) (by kernel_rfl) (by simp) (AllReadyH.cons rfl (fun K hK => ?_) AllReadyH.nil)
          go_simp
          go_at_call 19
          refine (CNM.out _).mono ?_
          rintro e w6 ⟨rfl, hb6⟩
          have hB6 : Below w1.heap.size w1 w6 := by (repeat (first | with_reducible assumption | with_reducible exact Below.refl _ _ | with_reducible refine Below.drew ?_ | with_reducible refine belowDrewN ?_ _ | ((with_reducible refine Below.setCell ?_ ?_ _); rotate_left; focus (first | omega | (simp; done) | (simp; omega))) | ((with_reducible refine Below.alloc ?_ ?_ _); rotate_left; focus (first | omega | (simp; done) | (simp; omega))) | ((with_reducible refine Below.trans ?_ (Below.mono hB5 ?_)); rotate_left; focus (first | omega | (simp; done) | (simp; omega))) | ((with_reducible refine Below.trans ?_ (Below.mono hb6 ?_)); rotate_left; focus (first | omega | (simp; done) | (simp; omega)))))
          have hz6 := hB6.size
          go_wp2_with fail
          refine hK.out _ _ ⟨HS.out w6 hB6, (hb6.cell (p := ⟨w5.heap.size, 2, none⟩) (World.block_lt_of_cell? _ _ hH7.2)).trans hH7.2⟩ (fun hHeld6 => ?_)
          clear hK K
          (try simp only [Act.put, List.setIfInBounds_toArray, List.set_cons_zero, List.set_cons_succ])
          refine wpAnyH_take (i := 18) (v := (.string (((((s ++ T1) ++ ⟨#[32]⟩) ++ ⟨#[118, 97, 114, 105, 97, 98, 108, 101]⟩) ++ ⟨#[32]⟩) ++ T2))) rfl (by kernel_rfl) (by kernel_rfl) (by kernel_rfl) (fun _ _ _ h => h) (Or.inl ⟨by rfl, fun W hW => ?_⟩) (by assumption) ?_
          · (try dsimp only at hW); go_simp
          change wpAnyH _ _ _ _ _ _ _ (Act.put _ (some 24) _) _
          (try simp only [Act.put, List.setIfInBounds_toArray, List.set_cons_zero, List.set_cons_succ])
          refine wpAnyH_take (i := 19) (v := (.string (((((s ++ T1) ++ ⟨#[32]⟩) ++ ⟨#[118, 97, 114, 105, 97, 98, 108, 101]⟩) ++ ⟨#[32]⟩) ++ T2))) rfl (by kernel_rfl) (by kernel_rfl) (by kernel_rfl) (fun _ _ _ h => h) (Or.inl ⟨by rfl, fun W hW => ?_⟩) (by assumption) ?_
          · (try dsimp only at hW); go_simp
          change wpAnyH _ _ _ _ _ _ _ (Act.put _ (some 2) _) _
          (try simp only [Act.put, List.setIfInBounds_toArray, List.set_cons_zero, List.set_cons_succ])
          refine wpAnyH_done (by kernel_rfl) ?_ _
          refine NoPanic.normal ?_
          go_wp2_with fail
          go_ret
          exact ⟨by rw [HKW.out]; rfl, by (repeat (first | with_reducible assumption | with_reducible exact Below.refl _ _ | with_reducible refine Below.drew ?_ | with_reducible refine belowDrewN ?_ _ | ((with_reducible refine Below.setCell ?_ ?_ _); rotate_left; focus (first | omega | (simp; done) | (simp; omega))) | ((with_reducible refine Below.alloc ?_ ?_ _); rotate_left; focus (first | omega | (simp; done) | (simp; omega))) | ((with_reducible refine Below.trans ?_ (Below.mono HW1.out ?_)); rotate_left; focus (first | omega | (simp; done) | (simp; omega))) | ((with_reducible refine Below.trans ?_ (Below.mono hB6 ?_)); rotate_left; focus (first | omega | (simp; done) | (simp; omega)))))⟩
        · skip
          go_simp
          go_at_call 19
          refine (CNM.out _).mono ?_
          rintro e w6 ⟨rfl, hb6⟩
          have hB6 : Below w1.heap.size w1 w6 := by (repeat (first | with_reducible assumption | with_reducible exact Below.refl _ _ | with_reducible refine Below.drew ?_ | with_reducible refine belowDrewN ?_ _ | ((with_reducible refine Below.setCell ?_ ?_ _); rotate_left; focus (first | omega | (simp; done) | (simp; omega))) | ((with_reducible refine Below.alloc ?_ ?_ _); rotate_left; focus (first | omega | (simp; done) | (simp; omega))) | ((with_reducible refine Below.trans ?_ (Below.mono hB5 ?_)); rotate_left; focus (first | omega | (simp; done) | (simp; omega))) | ((with_reducible refine Below.trans ?_ (Below.mono hb6 ?_)); rotate_left; focus (first | omega | (simp; done) | (simp; omega)))))
          have hz6 := hB6.size
          go_wp2_with fail
          refine hK.out _ _ (HS.out w6 hB6) (fun hHeld6 => ?_)
          clear hK K
          (try simp only [Act.put, List.setIfInBounds_toArray, List.set_cons_zero, List.set_cons_succ])
          refine wpAnyH_ready (rs := [7]) (by kernel_rfl) (by simp) (AllReadyH.cons rfl (fun K hK => ?_) AllReadyH.nil)
          go_simp
          refine hK.out _ _ (HS.out _ (by (repeat (first | with_reducible assumption | with_reducible exact Below.refl _ _ | with_reducible refine Below.drew ?_ | with_reducible refine belowDrewN ?_ _ | ((with_reducible refine Below.setCell ?_ ?_ _); rotate_left; focus (first | omega | (simp; done) | (simp; omega))) | ((with_reducible refine Below.alloc ?_ ?_ _); rotate_left; focus (first | omega | (simp; done) | (simp; omega))) | ((with_reducible refine Below.trans ?_ (Below.mono hB6 ?_)); rotate_left; focus (first | omega | (simp; done) | (simp; omega))))))) (fun hH7_ => ?_)
          clear hK K
          (try simp only [Act.put, List.setIfInBounds_toArray, List.set_cons_zero, List.set_cons_succ])
          refine anyH_strong (S' := fun w' => (w'.cell? ⟨w.heap.size, 0, none⟩ = some (.string s) ∧ w'.cell? ⟨w.heap.size, 1, none⟩ = some (.slice xa x.length xc) ∧ w'.cell? ⟨w.heap.size, 2, none⟩ = some (.int .i64 3) ∧ w'.cell? ⟨w.heap.size, 3, none⟩ = some (.int .i64 n)) ∧ w'.cell? ⟨w6.heap.size, 2, none⟩ = some (.string ⟨#[118, 97, 114, 105, 97, 98, 108, 101]⟩)) (fun _ h => h.1) ?_
          have hH7 := And.intro hH7_ (litCell w6 #[.string ⟨#[102, 111, 114, 109]⟩, .string ⟨#[112, 114, 105, 109, 105, 116, 105, 118, 101]⟩, .string ⟨#[118, 97, 114, 105, 97, 98, 108, 101]⟩, .string ⟨#[109, 97, 99, 114, 111]⟩] 9 2 (.string ⟨#[118, 97, 114, 105, 97, 98, 108, 101]⟩) rfl)
          refine wpAnyH_take (i := 11) (v := (.pointer (some ⟨w6.heap.size, 2, none⟩))) rfl (by kernel_rfl) (by kernel_rfl) (by kernel_rfl) (fun _ _ _ h => h) (Or.inl ⟨by rfl, fun W hW => ?_⟩) (by assumption) ?_
          · (try dsimp only at hW); go_simp
          change wpAnyH _ _ _ _ _ _ _ (Act.put _ (some 17) _) _
          (try simp only [Act.put, List.setIfInBounds_toArray, List.set_cons_zero, List.set_cons_succ])
          refine wpAnyH_take (i := 12) (v := (.string ⟨#[118, 97, 114, 105, 97, 98, 108, 101]⟩)) rfl (by kernel_rfl) (by kernel_rfl) (by kernel_rfl) (fun _ _ _ h => h) (Or.inl ⟨by rfl, fun W hW => ?_⟩) (by assumption) ?_
          · (try dsimp only at hW); go_simp
          change wpAnyH _ _ _ _ _ _ _ (Act.put _ (some 18) _) _
          (try simp only [Act.put, List.setIfInBounds_toArray, List.set_cons_zero, List.set_cons_succ])
          refine wpAnyH_take (i := 13) (v := (.string (((s ++ T1) ++ ⟨#[32]⟩) ++ ⟨#[118, 97, 114, 105, 97, 98, 108, 101]⟩))) rfl (by kernel_rfl) (by kernel_rfl) (by kernel_rfl) (fun _ _ _ h => h) (Or.inl ⟨by rfl, fun W hW => ?_⟩) (by assumption) ?_
          · (try dsimp only at hW); go_simp
          change wpAnyH _ _ _ _ _ _ _ (Act.put _ (some 19) _) _
          (try simp only [Act.put, List.setIfInBounds_toArray, List.set_cons_zero, List.set_cons_succ])
          refine wpAnyH_take (i := 14) (v := (.string ((((s ++ T1) ++ ⟨#[32]⟩) ++ ⟨#[118, 97, 114, 105, 97, 98, 108, 101]⟩) ++ ⟨#[32]⟩))) rfl (by kernel_rfl) (by kernel_rfl) (by kernel_rfl) (fun _ _ _ h => h) (Or.inl ⟨by rfl, fun W hW => ?_⟩) (by assumption) ?_
          · (try dsimp only at hW); go_simp
          change wpAnyH _ _ _ _ _ _ _ (Act.put _ (some 20) _) _
          (try simp only [Act.put, List.setIfInBounds_toArray, List.set_cons_zero, List.set_cons_succ])
          refine wpAnyH_take (i := 18) (v := (.string (((((s ++ T1) ++ ⟨#[32]⟩) ++ ⟨#[118, 97, 114, 105, 97, 98, 108, 101]⟩) ++ ⟨#[32]⟩) ++ T2))) rfl (by kernel_rfl) (by kernel_rfl) (by kernel_rfl) (fun _ _ _ h => h) (Or.inl ⟨by rfl, fun W hW => ?_⟩) (by assumption) ?_
          · (try dsimp only at hW); go_simp
          change wpAnyH _ _ _ _ _ _ _ (Act.put _ (some 24) _) _
          (try simp only [Act.put, List.setIfInBounds_toArray, List.set_cons_zero, List.set_cons_succ])
          refine wpAnyH_take (i := 19) (v := (.string (((((s ++ T1) ++ ⟨#[32]⟩) ++ ⟨#[118, 97, 114, 105, 97, 98, 108, 101]⟩) ++ ⟨#[32]⟩) ++ T2))) rfl (by kernel_rfl) (by kernel_rfl) (by kernel_rfl) (fun _ _ _ h => h) (Or.inl ⟨by rfl, fun W hW => ?_⟩) (by assumption) ?_
          · (try dsimp only at hW); go_simp
          change wpAnyH _ _ _ _ _ _ _ (Act.put _ (some 2) _) _
          (try simp only [Act.put, List.setIfInBounds_toArray, List.set_cons_zero, List.set_cons_succ])
          refine wpAnyH_done (by kernel_rfl) ?_ _
          refine NoPanic.normal ?_
          go_wp2_with fail
          go_ret
          exact ⟨by rw [HKW.out]; rfl, by (repeat (first | with_reducible assumption | with_reducible exact Below.refl _ _ | with_reducible refine Below.drew ?_ | with_reducible refine belowDrewN ?_ _ | ((with_reducible refine Below.setCell ?_ ?_ _); rotate_left; focus (first | omega | (simp; done) | (simp; omega))) | ((with_reducible refine Below.alloc ?_ ?_ _); rotate_left; focus (first | omega | (simp; done) | (simp; omega))) | ((with_reducible refine Below.trans ?_ (Below.mono HW1.out ?_)); rotate_left; focus (first | omega | (simp; done) | (simp; omega))) | ((with_reducible refine Below.trans ?_ (Below.mono hB6 ?_)); rotate_left; focus (first | omega | (simp; done) | (simp; omega)))))⟩
      · skip
        go_simp
        refine hK.out _ _ (HS.out _ (by (repeat (first | with_reducible assumption | with_reducible exact Below.refl _ _ | with_reducible refine Below.drew ?_ | with_reducible refine belowDrewN ?_ _ | ((with_reducible refine Below.setCell ?_ ?_ _); rotate_left; focus (first | omega | (simp; done) | (simp; omega))) | ((with_reducible refine Below.alloc ?_ ?_ _); rotate_left; focus (first | omega | (simp; done) | (simp; omega))))))) (fun hH7_ => ?_)
        clear hK K
        (try simp only [Act.put, List.setIfInBounds_toArray, List.set_cons_zero, List.set_cons_succ])
        refine anyH_strong (S' := fun w' => (w'.cell? ⟨w.heap.size, 0, none⟩ = some (.string s) ∧ w'.cell? ⟨w.heap.size, 1, none⟩ = some (.slice xa x.length xc) ∧ w'.cell? ⟨w.heap.size, 2, none⟩ = some (.int .i64 3) ∧ w'.cell? ⟨w.heap.size, 3, none⟩ = some (.int .i64 n)) ∧ w'.cell? ⟨w1.heap.size, 2, none⟩ = some (.string ⟨#[118, 97, 114, 105, 97, 98, 108, 101]⟩)) (fun _ h => h.1) ?_
        have hH7 := And.intro hH7_ (litCell w1.drew #[.string ⟨#[102, 111, 114, 109]⟩, .string ⟨#[112, 114, 105, 109, 105, 116, 105, 118, 101]⟩, .string ⟨#[118, 97, 114, 105, 97, 98, 108, 101]⟩, .string ⟨#[109, 97, 99, 114, 111]⟩] 9 2 (.string ⟨#[118, 97, 114, 105, 97, 98, 108, 101]⟩) rfl)
        refine wpAnyH_take (i := 11) (v := (.pointer (some ⟨w1.heap.size, 2, none⟩))) rfl (by kernel_rfl) (by kernel_rfl) (by kernel_rfl) (fun _ _ _ h => h) (Or.inl ⟨by rfl, fun W hW => ?_⟩) (by assumption) ?_
        · (try dsimp only at hW); go_simp
        change wpAnyH _ _ _ _ _ _ _ (Act.put _ (some 17) _) _
        (try simp only [Act.put, List.setIfInBounds_toArray, List.set_cons_zero, List.set_cons_succ])
        refine wpAnyH_take (i := 12) (v := (.string ⟨#[118, 97, 114, 105, 97, 98, 108, 101]⟩)) rfl (by kernel_rfl) (by kernel_rfl) (by kernel_rfl) (fun _ _ _ h => h) (Or.inl ⟨by rfl, fun W hW => ?_⟩) (by assumption) ?_
        · (try dsimp only at hW); go_simp
        change wpAnyH _ _ _ _ _ _ _ (Act.put _ (some 18) _) _
        (try simp only [Act.put, List.setIfInBounds_toArray, List.set_cons_zero, List.set_cons_succ])
        refine wpAnyH_ready (rs := [4]) (by kernel_rfl) (by simp) (AllReadyH.cons rfl (fun K hK => ?_) AllReadyH.nil)
        go_simp
        go_at_call 18
        refine (CSC.out _ (HXW.out.below (by (repeat (first | with_reducible assumption | with_reducible exact Below.refl _ _ | with_reducible refine Below.drew ?_ | with_reducible refine belowDrewN ?_ _ | ((with_reducible refine Below.setCell ?_ ?_ _); rotate_left; focus (first | omega | (simp; done) | (simp; omega))) | ((with_reducible refine Below.alloc ?_ ?_ _); rotate_left; focus (first | omega | (simp; done) | (simp; omega)))))))).mono ?_
        rintro e w5 ⟨rfl, hb5⟩
        have hB5 : Below w1.heap.size w1 w5 := by (repeat (first | with_reducible assumption | with_reducible exact Below.refl _ _ | with_reducible refine Below.drew ?_ | with_reducible refine belowDrewN ?_ _ | ((with_reducible refine Below.setCell ?_ ?_ _); rotate_left; focus (first | omega | (simp; done) | (simp; omega))) | ((with_reducible refine Below.alloc ?_ ?_ _); rotate_left; focus (first | omega | (simp; done) | (simp; omega))) | ((with_reducible refine Below.trans ?_ (Below.mono hb5 ?_)); rotate_left; focus (first | omega | (simp; done) | (simp; omega)))))
        have hz5 := hB5.size
        go_wp2_with fail
        refine hK.out _ _ ⟨HS.out w5 hB5, (hb5.cell (p := ⟨w1.heap.size, 2, none⟩) (World.block_lt_of_cell? _ _ hH7.2)).trans hH7.2⟩ (fun hHeld5 => ?_)
        clear hK K
        (try simp only [Act.put, List.setIfInBounds_toArray, List.set_cons_zero, List.set_cons_succ])
        refine wpAnyH_take (i := 5) (v := (.string (s ++ T1))) rfl (by kernel_rfl) (by kernel_rfl) (by kernel_rfl) (fun _ _ _ h => h) (Or.inl ⟨by rfl, fun W hW => ?_⟩) (by assumption) ?_
        · (try dsimp only at hW); go_simp
        change wpAnyH _ _ _ _ _ _ _ (Act.put _ (some 11) _) _
        (try simp only [Act.put, List.setIfInBounds_toArray, List.set_cons_zero, List.set_cons_succ])
        refine wpAnyH_take (i := 6) (v := (.string ((s ++ T1) ++ ⟨#[32]⟩))) rfl (by kernel_rfl) (by kernel_rfl) (by kernel_rfl) (fun _ _ _ h => h) (Or.inl ⟨by rfl, fun W hW => ?_⟩) (by assumption) ?_
        · (try dsimp only at hW); go_simp
        change wpAnyH _ _ _ _ _ _ _ (Act.put _ (some 12) _) _
        (try simp only [Act.put, List.setIfInBounds_toArray, List.set_cons_zero, List.set_cons_succ])
        refine wpAnyH_take (i := 13) (v := (.string (((s ++ T1) ++ ⟨#[32]⟩) ++ ⟨#[118, 97, 114, 105, 97, 98, 108, 101]⟩))) rfl (by kernel_rfl) (by kernel_rfl) (by kernel_rfl) (fun _ _ _ h => h) (Or.inl ⟨by rfl, fun W hW => ?_⟩) (by assumption) ?_
        · (try dsimp only at hW); go_simp
        change wpAnyH _ _ _ _ _ _ _ (Act.put _ (some 19) _) _
        (try simp only [Act.put, List.setIfInBounds_toArray, List.set_cons_zero, List.set_cons_succ])
        refine wpAnyH_take (i := 14) (v := (.string ((((s ++ T1) ++ ⟨#[32]⟩) ++ ⟨#[118, 97, 114, 105, 97, 98, 108, 101]⟩) ++ ⟨#[32]⟩))) rfl (by kernel_rfl) (by kernel_rfl) (by kernel_rfl) (fun _ _ _ h => h) (Or.inl ⟨by rfl, fun W hW => ?_⟩) (by assumption) ?_
        · (try dsimp only at hW); go_simp
        change wpAnyH _ _ _ _ _ _ _ (Act.put _ (some 20) _) _
        (try simp only [Act.put, List.setIfInBounds_toArray, List.set_cons_zero, List.set_cons_succ])
        refine wpAnyH_ready (rs := [17]) (by kernel_rfl) (by simp) (AllReadyH.cons rfl (fun K hK => ?_) AllReadyH.nil)
        go_simp
        go_at_call 19
        refine (CNM.out _).mono ?_
        rintro e w6 ⟨rfl, hb6⟩
        have hB6 : Below w1.heap.size w1 w6 := by (repeat (first | with_reducible assumption | with_reducible exact Below.refl _ _ | with_reducible refine Below.drew ?_ | with_reducible refine belowDrewN ?_ _ | ((with_reducible refine Below.setCell ?_ ?_ _); rotate_left; focus (first | omega | (simp; done) | (simp; omega))) | ((with_reducible refine Below.alloc ?_ ?_ _); rotate_left; focus (first | omega | (simp; done) | (simp; omega))) | ((with_reducible refine Below.trans ?_ (Below.mono hB5 ?_)); rotate_left; focus (first | omega | (simp; done) | (simp; omega))) | ((with_reducible refine Below.trans ?_ (Below.mono hb6 ?_)); rotate_left; focus (first | omega | (simp; done) | (simp; omega)))))
        have hz6 := hB6.size
        go_wp2_with fail
        refine hK.out _ _ ⟨HS.out w6 hB6, (hb6.cell (p := ⟨w1.heap.size, 2, none⟩) (World.block_lt_of_cell? _ _ hHeld5.2)).trans hHeld5.2⟩ (fun hHeld6 => ?_)
        clear hK K
        (try simp only [Act.put, List.setIfInBounds_toArray, List.set_cons_zero, List.set_cons_succ])
        refine wpAnyH_take (i := 18) (v := (.string (((((s ++ T1) ++ ⟨#[32]⟩) ++ ⟨#[118, 97, 114, 105, 97, 98, 108, 101]⟩) ++ ⟨#[32]⟩) ++ T2))) rfl (by kernel_rfl) (by kernel_rfl) (by kernel_rfl) (fun _ _ _ h => h) (Or.inl ⟨by rfl, fun W hW => ?_⟩) (by assumption) ?_
        · (try dsimp only at hW); go_simp
        change wpAnyH _ _ _ _ _ _ _ (Act.put _ (some 24) _) _
        (try simp only [Act.put, List.setIfInBounds_toArray, List.set_cons_zero, List.set_cons_succ])
        refine wpAnyH_take (i := 19) (v := (.string (((((s ++ T1) ++ ⟨#[32]⟩) ++ ⟨#[118, 97, 114, 105, 97, 98, 108, 101]⟩) ++ ⟨#[32]⟩) ++ T2))) rfl (by kernel_rfl) (by kernel_rfl) (by kernel_rfl) (fun _ _ _ h => h) (Or.inl ⟨by rfl, fun W hW => ?_⟩) (by assumption) ?_
        · (try dsimp only at hW); go_simp
        change wpAnyH _ _ _ _ _ _ _ (Act.put _ (some 2) _) _
        (try simp only [Act.put, List.setIfInBounds_toArray, List.set_cons_zero, List.set_cons_succ])
        refine wpAnyH_done (by kernel_rfl) ?_ _
        refine NoPanic.normal ?_
        go_wp2_with fail
        go_ret
        exact ⟨by rw [HKW.out]; rfl, by (repeat (first | with_reducible assumption | with_reducible exact Below.refl _ _ | with_reducible refine Below.drew ?_ | with_reducible refine belowDrewN ?_ _ | ((with_reducible refine Below.setCell ?_ ?_ _); rotate_left; focus (first | omega | (simp; done) | (simp; omega))) | ((with_reducible refine Below.alloc ?_ ?_ _); rotate_left; focus (first | omega | (simp; done) | (simp; omega))) | ((with_reducible refine Below.trans ?_ (Below.mono HW1.out ?_)); rotate_left; focus (first | omega | (simp; done) | (simp; omega))) | ((with_reducible refine Below.trans ?_ (Below.mono hB6 ?_)); rotate_left; focus (first | omega | (simp; done) | (simp; omega)))))⟩
    · have hkk : kindW 4 = [109, 97, 99, 114, 111] := by simp [kindW]
      have hkw : (⟨(fmtB s x 4 n).toArray⟩ : ByteArray) = (((((s ++ T1) ++ ⟨#[32]⟩) ++ ⟨#[109, 97, 99, 114, 111]⟩) ++ ⟨#[32]⟩) ++ T2) := by rw [fmtB_yes hok, hkk]; exact (fmt_bytes HT1.out HT2.out).symm
      have hS : ∀ W, Below w1.heap.size w1 W → (W.cell? ⟨w.heap.size, 0, none⟩ = some (.string s) ∧ W.cell? ⟨w.heap.size, 1, none⟩ = some (.slice xa x.length xc) ∧ W.cell? ⟨w.heap.size, 2, none⟩ = some (.int .i64 4) ∧ W.cell? ⟨w.heap.size, 3, none⟩ = some (.int .i64 n)) := fun W hW => by
        have h := hq1.below hW hp1
        exact ⟨h.c0, h.c1, h.c2, h.c3⟩
      have n1 : ¬ (9223372036854775807 < s.size + T1.size) := by omega
      have n2 : ¬ (9223372036854775807 < s.size + T1.size + 1) := by omega
      have n3 : ¬ (9223372036854775807 < s.size + T1.size + 1 + 5) := by omega
      have n4 : ¬ (9223372036854775807 < s.size + T1.size + 1 + 5 + 1) := by omega
      have n5 : ¬ (9223372036854775807 < s.size + T1.size + 1 + 5 + 1 + T2.size) := by omega
      have hwk : IntKind.i64.wrap 3 = 3 := by rw [IntKind.wrap_i64]; rfl
      have HOK := Lib.hid hok; clear hok; have HKW := Lib.hid hkw; clear hkw; have HQ1 := Lib.hid hq1; clear hq1; have HS := Lib.hid hS; clear hS; have HS0 := Lib.hid hs0; clear hs0
      go_wp2_with fail
      refine wp_region_noPanic ?_
      refine wp_region_held_drew (S := (fun w' => w'.cell? ⟨w.heap.size, 0, none⟩ = some (.string s) ∧ w'.cell? ⟨w.heap.size, 1, none⟩ = some (.slice xa x.length xc) ∧ w'.cell? ⟨w.heap.size, 2, none⟩ = some (.int .i64 4) ∧ w'.cell? ⟨w.heap.size, 3, none⟩ = some (.int .i64 n))) (by kernel_rfl) (by simp only [World.cell?_drew]; exact HS0.out) (fun hHeld => ?_)
      refine wpAnyH_take (i := 0) (v := (.pointer (some ⟨w.heap.size, 0, none⟩))) rfl (by kernel_rfl) (by kernel_rfl) (by kernel_rfl) (fun _ _ _ h => h) (Or.inl ⟨by rfl, fun W hW => ?_⟩) (by assumption) ?_
      · (try dsimp only at hW); go_simp
      change wpAnyH _ _ _ _ _ _ _ (Act.put _ (some 6) _) _
      (try simp only [Act.put, List.setIfInBounds_toArray, List.set_cons_zero, List.set_cons_succ])
      refine wpAnyH_take (i := 1) (v := (.string s)) rfl (by kernel_rfl) (by kernel_rfl) (by kernel_rfl) (fun _ _ _ h => h) (Or.inl ⟨by rfl, fun W hW => ?_⟩) (by assumption) ?_
      · (try dsimp only at hW); go_simp
      change wpAnyH _ _ _ _ _ _ _ (Act.put _ (some 7) _) _
      (try simp only [Act.put, List.setIfInBounds_toArray, List.set_cons_zero, List.set_cons_succ])
      refine wpAnyH_take (i := 2) (v := (.pointer (some ⟨w.heap.size, 1, none⟩))) rfl (by kernel_rfl) (by kernel_rfl) (by kernel_rfl) (fun _ _ _ h => h) (Or.inl ⟨by rfl, fun W hW => ?_⟩) (by assumption) ?_
      · (try dsimp only at hW); go_simp
      change wpAnyH _ _ _ _ _ _ _ (Act.put _ (some 8) _) _
      (try simp only [Act.put, List.setIfInBounds_toArray, List.set_cons_zero, List.set_cons_succ])
      refine wpAnyH_take (i := 3) (v := (.slice xa x.length xc)) rfl (by kernel_rfl) (by kernel_rfl) (by kernel_rfl) (fun _ _ _ h => h) (Or.inl ⟨by rfl, fun W hW => ?_⟩) (by assumption) ?_
      · (try dsimp only at hW); go_simp
      change wpAnyH _ _ _ _ _ _ _ (Act.put _ (some 9) _) _
      (try simp only [Act.put, List.setIfInBounds_toArray, List.set_cons_zero, List.set_cons_succ])
      refine wpAnyH_take (i := 8) (v := (.pointer (some ⟨w.heap.size, 2, none⟩))) rfl (by kernel_rfl) (by kernel_rfl) (by kernel_rfl) (fun _ _ _ h => h) (Or.inl ⟨by rfl, fun W hW => ?_⟩) (by assumption) ?_
      · (try dsimp only at hW); go_simp
      change wpAnyH _ _ _ _ _ _ _ (Act.put _ (some 14) _) _
      (try simp only [Act.put, List.setIfInBounds_toArray, List.set_cons_zero, List.set_cons_succ])
      refine wpAnyH_take (i := 9) (v := (.int .i64 4)) rfl (by kernel_rfl) (by kernel_rfl) (by kernel_rfl) (fun _ _ _ h => h) (Or.inl ⟨by rfl, fun W hW => ?_⟩) (by assumption) ?_
      · (try dsimp only at hW); go_simp
      change wpAnyH _ _ _ _ _ _ _ (Act.put _ (some 15) _) _
      (try simp only [Act.put, List.setIfInBounds_toArray, List.set_cons_zero, List.set_cons_succ])
      refine wpAnyH_take (i := 10) (v := (.int .i64 3)) rfl (by kernel_rfl) (by kernel_rfl) (by kernel_rfl) (fun _ _ _ h => h) (Or.inl ⟨by rfl, fun W hW => ?_⟩) (by assumption) ?_
      · (try dsimp only at hW); go_simp
      change wpAnyH _ _ _ _ _ _ _ (Act.put _ (some 16) _) _
      (try simp only [Act.put, List.setIfInBounds_toArray, List.set_cons_zero, List.set_cons_succ])
      refine wpAnyH_take (i := 15) (v := (.pointer (some ⟨w.heap.size, 3, none⟩))) rfl (by kernel_rfl) (by kernel_rfl) (by kernel_rfl) (fun _ _ _ h => h) (Or.inl ⟨by rfl, fun W hW => ?_⟩) (by assumption) ?_
      · (try dsimp only at hW); go_simp
      change wpAnyH _ _ _ _ _ _ _ (Act.put _ (some 21) _) _
      (try simp only [Act.put, List.setIfInBounds_toArray, List.set_cons_zero, List.set_cons_succ])
      refine wpAnyH_take (i := 16) (v := (.int .i64 n)) rfl (by kernel_rfl) (by kernel_rfl) (by kernel_rfl) (fun _ _ _ h => h) (Or.inl ⟨by rfl, fun W hW => ?_⟩) (by assumption) ?_
      · (try dsimp only at hW); go_simp
      change wpAnyH _ _ _ _ _ _ _ (Act.put _ (some 22) _) _
      (try simp only [Act.put, List.setIfInBounds_toArray, List.set_cons_zero, List.set_cons_succ])
      refine wpAnyH_ready (rs := [4, 7]) (by kernel_rfl) (by simp) (AllReadyH.cons rfl (fun K hK => ?_) (AllReadyH.cons rfl (fun K hK => ?_) AllReadyH.nil))
      · skip
        go_simp
        go_at_call 18
        refine (CSC.out _ (HXW.out.below (by (repeat (first | with_reducible assumption | with_reducible exact Below.refl _ _ | with_reducible refine Below.drew ?_ | with_reducible refine belowDrewN ?_ _ | ((with_reducible refine Below.setCell ?_ ?_ _); rotate_left; focus (first | omega | (simp; done) | (simp; omega))) | ((with_reducible refine Below.alloc ?_ ?_ _); rotate_left; focus (first | omega | (simp; done) | (simp; omega)))))))).mono ?_
        rintro e w5 ⟨rfl, hb5⟩
        have hB5 : Below w1.heap.size w1 w5 := by (repeat (first | with_reducible assumption | with_reducible exact Below.refl _ _ | with_reducible refine Below.drew ?_ | with_reducible refine belowDrewN ?_ _ | ((with_reducible refine Below.setCell ?_ ?_ _); rotate_left; focus (first | omega | (simp; done) | (simp; omega))) | ((with_reducible refine Below.alloc ?_ ?_ _); rotate_left; focus (first | omega | (simp; done) | (simp; omega))) | ((with_reducible refine Below.trans ?_ (Below.mono hb5 ?_)); rotate_left; focus (first | omega | (simp; done) | (simp; omega)))))
        have hz5 := hB5.size
        go_wp2_with fail
        refine hK.out _ _ (HS.out w5 hB5) (fun hHeld5 => ?_)
        clear hK K
        (try simp only [Act.put, List.setIfInBounds_toArray, List.set_cons_zero, List.set_cons_succ])
        refine wpAnyH_take (i := 5) (v := (.string (s ++ T1))) rfl (by kernel_rfl) (by kernel_rfl) (by kernel_rfl) (fun _ _ _ h => h) (Or.inl ⟨by rfl, fun W hW => ?_⟩) (by assumption) ?_
        · (try dsimp only at hW); go_simp
        change wpAnyH _ _ _ _ _ _ _ (Act.put _ (some 11) _) _
        (try simp only [Act.put, List.setIfInBounds_toArray, List.set_cons_zero, List.set_cons_succ])
        refine wpAnyH_take (i := 6) (v := (.string ((s ++ T1) ++ ⟨#[32]⟩))) rfl (by kernel_rfl) (by kernel_rfl) (by kernel_rfl) (fun _ _ _ h => h) (Or.inl ⟨by rfl, fun W hW => ?_⟩) (by assumption) ?_
        · (try dsimp only at hW); go_simp
        change wpAnyH _ _ _ _ _ _ _ (Act.put _ (some 12) _) _
        (try simp only [Act.put, List.setIfInBounds_toArray, List.set_cons_zero, List.set_cons_succ])
        refine wpAnyH_ready (rs := [7, 17]) (by kernel_rfl) (by simp) (AllReadyH.cons rfl (fun K hK => ?_) (AllReadyH.cons rfl (fun K hK => ?_) AllReadyH.nil))
        · skip
          go_simp
          refine hK.out _ _ (HS.out _ (by (repeat (first | with_reducible assumption | with_reducible exact Below.refl _ _ | with_reducible refine Below.drew ?_ | with_reducible refine belowDrewN ?_ _ | ((with_reducible refine Below.setCell ?_ ?_ _); rotate_left; focus (first | omega | (simp; done) | (simp; omega))) | ((with_reducible refine Below.alloc ?_ ?_ _); rotate_left; focus (first | omega | (simp; done) | (simp; omega))) | ((with_reducible refine Below.trans ?_ (Below.mono hB5 ?_)); rotate_left; focus (first | omega | (simp; done) | (simp; omega))))))) (fun hH7_ => ?_)
          clear hK K
          (try simp only [Act.put, List.setIfInBounds_toArray, List.set_cons_zero, List.set_cons_succ])
          refine anyH_strong (S' := fun w' => (w'.cell? ⟨w.heap.size, 0, none⟩ = some (.string s) ∧ w'.cell? ⟨w.heap.size, 1, none⟩ = some (.slice xa x.length xc) ∧ w'.cell? ⟨w.heap.size, 2, none⟩ = some (.int .i64 4) ∧ w'.cell? ⟨w.heap.size, 3, none⟩ = some (.int .i64 n)) ∧ w'.cell? ⟨w5.heap.size, 3, none⟩ = some (.string ⟨#[109, 97, 99, 114, 111]⟩)) (fun _ h => h.1) ?_
          have hH7 := And.intro hH7_ (litCell w5 #[.string ⟨#[102, 111, 114, 109]⟩, .string ⟨#[112, 114, 105, 109, 105, 116, 105, 118, 101]⟩, .string ⟨#[118, 97, 114, 105, 97, 98, 108, 101]⟩, .string ⟨#[109, 97, 99, 114, 111]⟩] 9 3 (.string ⟨#[109, 97, 99, 114, 111]⟩) rfl)
          refine wpAnyH_take (i := 11) (v := (.pointer (some ⟨w5.heap.size, 3, none⟩))) rfl (by kernel_rfl) (by kernel_rfl) (by kernel_rfl) (fun _ _ _ h => h) (Or.inl ⟨by rfl, fun W hW => ?_⟩) (by assumption) ?_
          · (try dsimp only at hW); go_simp
          change wpAnyH _ _ _ _ _ _ _ (Act.put _ (some 17) _) _
          (try simp only [Act.put, List.setIfInBounds_toArray, List.set_cons_zero, List.set_cons_succ])
          refine wpAnyH_take (i := 12) (v := (.string ⟨#[109, 97, 99, 114, 111]⟩)) rfl (by kernel_rfl) (by kernel_rfl) (by kernel_rfl) (fun _ _ _ h => h) (Or.inl ⟨by rfl, fun W hW => ?_⟩) (by assumption) ?_
          · (try dsimp only at hW); go_simp
          change wpAnyH _ _ _ _ _ _ _ (Act.put _ (some 18) _) _
          (try simp only [Act.put, List.setIfInBounds_toArray, List.set_cons_zero, List.set_cons_succ])
          refine wpAnyH_take (i := 13) (v := (.string (((s ++ T1) ++ ⟨#[32]⟩) ++ ⟨#[109, 97, 99, 114, 111]⟩))) rfl (by kernel_rfl) (by kernel_rfl) (by kernel_rfl) (fun _ _ _ h => h) (Or.inl ⟨by rfl, fun W hW => ?_⟩) (by assumption) ?_
          · (try dsimp only at hW); go_simp
          change wpAnyH _ _ _ _ _ _ _ (Act.put _ (some 19) _) _
          (try simp only [Act.put, List.setIfInBounds_toArray, List.set_cons_zero, List.set_cons_succ])
          refine wpAnyH_take (i := 14) (v := (.string ((((s ++ T1) ++ ⟨#[32]⟩) ++ ⟨#[109, 97, 99, 114, 111]⟩) ++ ⟨#[32]⟩))) rfl (by kernel_rfl) (by kernel_rfl) (by kernel_rfl) (fun _ _ _ h => h) (Or.inl ⟨by rfl, fun W hW => ?_⟩) (by assumption) ?_
          · (try dsimp only at hW); go_simp
          change wpAnyH _ _ _ _ _ _ _ (Act.put _ (some 20) _) _
          (try simp only [Act.put, List.setIfInBounds_toArray, List.set_cons_zero, List.set_cons_succ])
          refine wpAnyH_ready (rs := [17]) (by kernel_rfl) (by simp) (AllReadyH.cons rfl (fun K hK => ?_) AllReadyH.nil)
          go_simp
          go_at_call 19
          refine (CNM.out _).mono ?_
          rintro e w6 ⟨rfl, hb6⟩
          have hB6 : Below w1.heap.size w1 w6 := by (repeat (first | with_reducible assumption | with_reducible exact Below.refl _ _ | with_reducible refine Below.drew ?_ | with_reducible refine belowDrewN ?_ _ | ((with_reducible refine Below.setCell ?_ ?_ _); rotate_left; focus (first | omega | (simp; done) | (simp; omega))) | ((with_reducible refine Below.alloc ?_ ?_ _); rotate_left; focus (first | omega | (simp; done) | (simp; omega))) | ((with_reducible refine Below.trans ?_ (Below.mono hB5 ?_)); rotate_left; focus (first | omega | (simp; done) | (simp; omega))) | ((with_reducible refine Below.trans ?_ (Below.mono hb6 ?_)); rotate_left; focus (first | omega | (simp; done) | (simp; omega)))))
          have hz6 := hB6.size
          go_wp2_with fail
          refine hK.out _ _ ⟨HS.out w6 hB6, (hb6.cell (p := ⟨w5.heap.size, 3, none⟩) (World.block_lt_of_cell? _ _ hH7.2)).trans hH7.2⟩ (fun hHeld6 => ?_)
          clear hK K
          (try simp only [Act.put, List.setIfInBounds_toArray, List.set_cons_zero, List.set_cons_succ])
          refine wpAnyH_take (i := 18) (v := (.string (((((s ++ T1) ++ ⟨#[32]⟩) ++ ⟨#[109, 97, 99, 114, 111]⟩) ++ ⟨#[32]⟩) ++ T2))) rfl (by kernel_rfl) (by kernel_rfl) (by kernel_rfl) (fun _ _ _ h => h) (Or.inl ⟨by rfl, fun W hW => ?_⟩) (by assumption) ?_
          · (try dsimp only at hW); go_simp
          change wpAnyH _ _ _ _ _ _ _ (Act.put _ (some 24) _) _
          (try simp only [Act.put, List.setIfInBounds_toArray, List.set_cons_zero, List.set_cons_succ])
          refine wpAnyH_take (i := 19) (v := (.string (((((s ++ T1) ++ ⟨#[32]⟩) ++ ⟨#[109, 97, 99, 114, 111]⟩) ++ ⟨#[32]⟩) ++ T2))) rfl (by kernel_rfl) (by kernel_rfl) (by kernel_rfl) (fun _ _ _ h => h) (Or.inl ⟨by rfl, fun W hW => ?_⟩) (by assumption) ?_
          · (try dsimp only at hW); go_simp
          change wpAnyH _ _ _ _ _ _ _ (Act.put _ (some 2) _) _
          (try simp only [Act.put, List.setIfInBounds_toArray, List.set_cons_zero, List.set_cons_succ])
          refine wpAnyH_done (by kernel_rfl) ?_ _
          refine NoPanic.normal ?_
          go_wp2_with fail
          go_ret
          exact ⟨by rw [HKW.out]; rfl, by (repeat (first | with_reducible assumption | with_reducible exact Below.refl _ _ | with_reducible refine Below.drew ?_ | with_reducible refine belowDrewN ?_ _ | ((with_reducible refine Below.setCell ?_ ?_ _); rotate_left; focus (first | omega | (simp; done) | (simp; omega))) | ((with_reducible refine Below.alloc ?_ ?_ _); rotate_left; focus (first | omega | (simp; done) | (simp; omega))) | ((with_reducible refine Below.trans ?_ (Below.mono HW1.out ?_)); rotate_left; focus (first | omega | (simp; done) | (simp; omega))) | ((with_reducible refine Below.trans ?_ (Below.mono hB6 ?_)); rotate_left; focus (first | omega | (simp; done) | (simp; omega)))))⟩
        · skip
          go_simp
          go_at_call 19
          refine (CNM.out _).mono ?_
          rintro e w6 ⟨rfl, hb6⟩
          have hB6 : Below w1.heap.size w1 w6 := by (repeat (first | with_reducible assumption | with_reducible exact Below.refl _ _ | with_reducible refine Below.drew ?_ | with_reducible refine belowDrewN ?_ _ | ((with_reducible refine Below.setCell ?_ ?_ _); rotate_left; focus (first | omega | (simp; done) | (simp; omega))) | ((with_reducible refine Below.alloc ?_ ?_ _); rotate_left; focus (first | omega | (simp; done) | (simp; omega))) | ((with_reducible refine Below.trans ?_ (Below.mono hB5 ?_)); rotate_left; focus (first | omega | (simp; done) | (simp; omega))) | ((with_reducible refine Below.trans ?_ (Below.mono hb6 ?_)); rotate_left; focus (first | omega | (simp; done) | (simp; omega)))))
          have hz6 := hB6.size
          go_wp2_with fail
          refine hK.out _ _ (HS.out w6 hB6) (fun hHeld6 => ?_)
          clear hK K
          (try simp only [Act.put, List.setIfInBounds_toArray, List.set_cons_zero, List.set_cons_succ])
          refine wpAnyH_ready (rs := [7]) (by kernel_rfl) (by simp) (AllReadyH.cons rfl (fun K hK => ?_) AllReadyH.nil)
          go_simp
          refine hK.out _ _ (HS.out _ (by (repeat (first | with_reducible assumption | with_reducible exact Below.refl _ _ | with_reducible refine Below.drew ?_ | with_reducible refine belowDrewN ?_ _ | ((with_reducible refine Below.setCell ?_ ?_ _); rotate_left; focus (first | omega | (simp; done) | (simp; omega))) | ((with_reducible refine Below.alloc ?_ ?_ _); rotate_left; focus (first | omega | (simp; done) | (simp; omega))) | ((with_reducible refine Below.trans ?_ (Below.mono hB6 ?_)); rotate_left; focus (first | omega | (simp; done) | (simp; omega))))))) (fun hH7_ => ?_)
          clear hK K
          (try simp only [Act.put, List.setIfInBounds_toArray, List.set_cons_zero, List.set_cons_succ])
          refine anyH_strong (S' := fun w' => (w'.cell? ⟨w.heap.size, 0, none⟩ = some (.string s) ∧ w'.cell? ⟨w.heap.size, 1, none⟩ = some (.slice xa x.length xc) ∧ w'.cell? ⟨w.heap.size, 2, none⟩ = some (.int .i64 4) ∧ w'.cell? ⟨w.heap.size, 3, none⟩ = some (.int .i64 n)) ∧ w'.cell? ⟨w6.heap.size, 3, none⟩ = some (.string ⟨#[109, 97, 99, 114, 111]⟩)) (fun _ h => h.1) ?_
          have hH7 := And.intro hH7_ (litCell w6 #[.string ⟨#[102, 111, 114, 109]⟩, .string ⟨#[112, 114, 105, 109, 105, 116, 105, 118, 101]⟩, .string ⟨#[118, 97, 114, 105, 97, 98, 108, 101]⟩, .string ⟨#[109, 97, 99, 114, 111]⟩] 9 3 (.string ⟨#[109, 97, 99, 114, 111]⟩) rfl)
          refine wpAnyH_take (i := 11) (v := (.pointer (some ⟨w6.heap.size, 3, none⟩))) rfl (by kernel_rfl) (by kernel_rfl) (by kernel_rfl) (fun _ _ _ h => h) (Or.inl ⟨by rfl, fun W hW => ?_⟩) (by assumption) ?_
          · (try dsimp only at hW); go_simp
          change wpAnyH _ _ _ _ _ _ _ (Act.put _ (some 17) _) _
          (try simp only [Act.put, List.setIfInBounds_toArray, List.set_cons_zero, List.set_cons_succ])
          refine wpAnyH_take (i := 12) (v := (.string ⟨#[109, 97, 99, 114, 111]⟩)) rfl (by kernel_rfl) (by kernel_rfl) (by kernel_rfl) (fun _ _ _ h => h) (Or.inl ⟨by rfl, fun W hW => ?_⟩) (by assumption) ?_
          · (try dsimp only at hW); go_simp
          change wpAnyH _ _ _ _ _ _ _ (Act.put _ (some 18) _) _
          (try simp only [Act.put, List.setIfInBounds_toArray, List.set_cons_zero, List.set_cons_succ])
          refine wpAnyH_take (i := 13) (v := (.string (((s ++ T1) ++ ⟨#[32]⟩) ++ ⟨#[109, 97, 99, 114, 111]⟩))) rfl (by kernel_rfl) (by kernel_rfl) (by kernel_rfl) (fun _ _ _ h => h) (Or.inl ⟨by rfl, fun W hW => ?_⟩) (by assumption) ?_
          · (try dsimp only at hW); go_simp
          change wpAnyH _ _ _ _ _ _ _ (Act.put _ (some 19) _) _
          (try simp only [Act.put, List.setIfInBounds_toArray, List.set_cons_zero, List.set_cons_succ])
          refine wpAnyH_take (i := 14) (v := (.string ((((s ++ T1) ++ ⟨#[32]⟩) ++ ⟨#[109, 97, 99, 114, 111]⟩) ++ ⟨#[32]⟩))) rfl (by kernel_rfl) (by kernel_rfl) (by kernel_rfl) (fun _ _ _ h => h) (Or.inl ⟨by rfl, fun W hW => ?_⟩) (by assumption) ?_
          · (try dsimp only at hW); go_simp
          change wpAnyH _ _ _ _ _ _ _ (Act.put _ (some 20) _) _
          (try simp only [Act.put, List.setIfInBounds_toArray, List.set_cons_zero, List.set_cons_succ])
          refine wpAnyH_take (i := 18) (v := (.string (((((s ++ T1) ++ ⟨#[32]⟩) ++ ⟨#[109, 97, 99, 114, 111]⟩) ++ ⟨#[32]⟩) ++ T2))) rfl (by kernel_rfl) (by kernel_rfl) (by kernel_rfl) (fun _ _ _ h => h) (Or.inl ⟨by rfl, fun W hW => ?_⟩) (by assumption) ?_
          · (try dsimp only at hW); go_simp
          change wpAnyH _ _ _ _ _ _ _ (Act.put _ (some 24) _) _
          (try simp only [Act.put, List.setIfInBounds_toArray, List.set_cons_zero, List.set_cons_succ])
          refine wpAnyH_take (i := 19) (v := (.string (((((s ++ T1) ++ ⟨#[32]⟩) ++ ⟨#[109, 97, 99, 114, 111]⟩) ++ ⟨#[32]⟩) ++ T2))) rfl (by kernel_rfl) (by kernel_rfl) (by kernel_rfl) (fun _ _ _ h => h) (Or.inl ⟨by rfl, fun W hW => ?_⟩) (by assumption) ?_
          · (try dsimp only at hW); go_simp
          change wpAnyH _ _ _ _ _ _ _ (Act.put _ (some 2) _) _
          (try simp only [Act.put, List.setIfInBounds_toArray, List.set_cons_zero, List.set_cons_succ])
          refine wpAnyH_done (by kernel_rfl) ?_ _
          refine NoPanic.normal ?_
          go_wp2_with fail
          go_ret
          exact ⟨by rw [HKW.out]; rfl, by (repeat (first | with_reducible assumption | with_reducible exact Below.refl _ _ | with_reducible refine Below.drew ?_ | with_reducible refine belowDrewN ?_ _ | ((with_reducible refine Below.setCell ?_ ?_ _); rotate_left; focus (first | omega | (simp; done) | (simp; omega))) | ((with_reducible refine Below.alloc ?_ ?_ _); rotate_left; focus (first | omega | (simp; done) | (simp; omega))) | ((with_reducible refine Below.trans ?_ (Below.mono HW1.out ?_)); rotate_left; focus (first | omega | (simp; done) | (simp; omega))) | ((with_reducible refine Below.trans ?_ (Below.mono hB6 ?_)); rotate_left; focus (first | omega | (simp; done) | (simp; omega)))))⟩
      · skip
        go_simp
        refine hK.out _ _ (HS.out _ (by (repeat (first | with_reducible assumption | with_reducible exact Below.refl _ _ | with_reducible refine Below.drew ?_ | with_reducible refine belowDrewN ?_ _ | ((with_reducible refine Below.setCell ?_ ?_ _); rotate_left; focus (first | omega | (simp; done) | (simp; omega))) | ((with_reducible refine Below.alloc ?_ ?_ _); rotate_left; focus (first | omega | (simp; done) | (simp; omega))))))) (fun hH7_ => ?_)
        clear hK K
        (try simp only [Act.put, List.setIfInBounds_toArray, List.set_cons_zero, List.set_cons_succ])
        refine anyH_strong (S' := fun w' => (w'.cell? ⟨w.heap.size, 0, none⟩ = some (.string s) ∧ w'.cell? ⟨w.heap.size, 1, none⟩ = some (.slice xa x.length xc) ∧ w'.cell? ⟨w.heap.size, 2, none⟩ = some (.int .i64 4) ∧ w'.cell? ⟨w.heap.size, 3, none⟩ = some (.int .i64 n)) ∧ w'.cell? ⟨w1.heap.size, 3, none⟩ = some (.string ⟨#[109, 97, 99, 114, 111]⟩)) (fun _ h => h.1) ?_
        have hH7 := And.intro hH7_ (litCell w1.drew #[.string ⟨#[102, 111, 114, 109]⟩, .string ⟨#[112, 114, 105, 109, 105, 116, 105, 118, 101]⟩, .string ⟨#[118, 97, 114, 105, 97, 98, 108, 101]⟩, .string ⟨#[109, 97, 99, 114, 111]⟩] 9 3 (.string ⟨#[109, 97, 99, 114, 111]⟩) rfl)
        refine wpAnyH_take (i := 11) (v := (.pointer (some ⟨w1.heap.size, 3, none⟩))) rfl (by kernel_rfl) (by kernel_rfl) (by kernel_rfl) (fun _ _ _ h => h) (Or.inl ⟨by rfl, fun W hW => ?_⟩) (by assumption) ?_
        · (try dsimp only at hW); go_simp
        change wpAnyH _ _ _ _ _ _ _ (Act.put _ (some 17) _) _
        (try simp only [Act.put, List.setIfInBounds_toArray, List.set_cons_zero, List.set_cons_succ])
        refine wpAnyH_take (i := 12) (v := (.string ⟨#[109, 97, 99, 114, 111]⟩)) rfl (by kernel_rfl) (by kernel_rfl) (by kernel_rfl) (fun _ _ _ h => h) (Or.inl ⟨by rfl, fun W hW => ?_⟩) (by assumption) ?_
        · (try dsimp only at hW); go_simp
        change wpAnyH _ _ _ _ _ _ _ (Act.put _ (some 18) _) _
        (try simp only [Act.put, List.setIfInBounds_toArray, List.set_cons_zero, List.set_cons_succ])
        refine wpAnyH_ready (rs := [4]) (by kernel_rfl) (by simp) (AllReadyH.cons rfl (fun K hK => ?_) AllReadyH.nil)
        go_simp
        go_at_call 18
        refine (CSC.out _ (HXW.out.below (by (repeat (first | with_reducible assumption | with_reducible exact Below.refl _ _ | with_reducible refine Below.drew ?_ | with_reducible refine belowDrewN ?_ _ | ((with_reducible refine Below.setCell ?_ ?_ _); rotate_left; focus (first | omega | (simp; done) | (simp; omega))) | ((with_reducible refine Below.alloc ?_ ?_ _); rotate_left; focus (first | omega | (simp; done) | (simp; omega)))))))).mono ?_
        rintro e w5 ⟨rfl, hb5⟩
        have hB5 : Below w1.heap.size w1 w5 := by (repeat (first | with_reducible assumption | with_reducible exact Below.refl _ _ | with_reducible refine Below.drew ?_ | with_reducible refine belowDrewN ?_ _ | ((with_reducible refine Below.setCell ?_ ?_ _); rotate_left; focus (first | omega | (simp; done) | (simp; omega))) | ((with_reducible refine Below.alloc ?_ ?_ _); rotate_left; focus (first | omega | (simp; done) | (simp; omega))) | ((with_reducible refine Below.trans ?_ (Below.mono hb5 ?_)); rotate_left; focus (first | omega | (simp; done) | (simp; omega)))))
        have hz5 := hB5.size
        go_wp2_with fail
        refine hK.out _ _ ⟨HS.out w5 hB5, (hb5.cell (p := ⟨w1.heap.size, 3, none⟩) (World.block_lt_of_cell? _ _ hH7.2)).trans hH7.2⟩ (fun hHeld5 => ?_)
        clear hK K
        (try simp only [Act.put, List.setIfInBounds_toArray, List.set_cons_zero, List.set_cons_succ])
        refine wpAnyH_take (i := 5) (v := (.string (s ++ T1))) rfl (by kernel_rfl) (by kernel_rfl) (by kernel_rfl) (fun _ _ _ h => h) (Or.inl ⟨by rfl, fun W hW => ?_⟩) (by assumption) ?_
        · (try dsimp only at hW); go_simp
        change wpAnyH _ _ _ _ _ _ _ (Act.put _ (some 11) _) _
        (try simp only [Act.put, List.setIfInBounds_toArray, List.set_cons_zero, List.set_cons_succ])
        refine wpAnyH_take (i := 6) (v := (.string ((s ++ T1) ++ ⟨#[32]⟩))) rfl (by kernel_rfl) (by kernel_rfl) (by kernel_rfl) (fun _ _ _ h => h) (Or.inl ⟨by rfl, fun W hW => ?_⟩) (by assumption) ?_
        · (try dsimp only at hW); go_simp
        change wpAnyH _ _ _ _ _ _ _ (Act.put _ (some 12) _) _
        (try simp only [Act.put, List.setIfInBounds_toArray, List.set_cons_zero, List.set_cons_succ])
        refine wpAnyH_take (i := 13) (v := (.string (((s ++ T1) ++ ⟨#[32]⟩) ++ ⟨#[109, 97, 99, 114, 111]⟩))) rfl (by kernel_rfl) (by kernel_rfl) (by kernel_rfl) (fun _ _ _ h => h) (Or.inl ⟨by rfl, fun W hW => ?_⟩) (by assumption) ?_
        · (try dsimp only at hW); go_simp
        change wpAnyH _ _ _ _ _ _ _ (Act.put _ (some 19) _) _
        (try simp only [Act.put, List.setIfInBounds_toArray, List.set_cons_zero, List.set_cons_succ])
        refine wpAnyH_take (i := 14) (v := (.string ((((s ++ T1) ++ ⟨#[32]⟩) ++ ⟨#[109, 97, 99, 114, 111]⟩) ++ ⟨#[32]⟩))) rfl (by kernel_rfl) (by kernel_rfl) (by kernel_rfl) (fun _ _ _ h => h) (Or.inl ⟨by rfl, fun W hW => ?_⟩) (by assumption) ?_
        · (try dsimp only at hW); go_simp
        change wpAnyH _ _ _ _ _ _ _ (Act.put _ (some 20) _) _
        (try simp only [Act.put, List.setIfInBounds_toArray, List.set_cons_zero, List.set_cons_succ])
        refine wpAnyH_ready (rs := [17]) (by kernel_rfl) (by simp) (AllReadyH.cons rfl (fun K hK => ?_) AllReadyH.nil)
        go_simp
        go_at_call 19
        refine (CNM.out _).mono ?_
        rintro e w6 ⟨rfl, hb6⟩
        have hB6 : Below w1.heap.size w1 w6 := by (repeat (first | with_reducible assumption | with_reducible exact Below.refl _ _ | with_reducible refine Below.drew ?_ | with_reducible refine belowDrewN ?_ _ | ((with_reducible refine Below.setCell ?_ ?_ _); rotate_left; focus (first | omega | (simp; done) | (simp; omega))) | ((with_reducible refine Below.alloc ?_ ?_ _); rotate_left; focus (first | omega | (simp; done) | (simp; omega))) | ((with_reducible refine Below.trans ?_ (Below.mono hB5 ?_)); rotate_left; focus (first | omega | (simp; done) | (simp; omega))) | ((with_reducible refine Below.trans ?_ (Below.mono hb6 ?_)); rotate_left; focus (first | omega | (simp; done) | (simp; omega)))))
        have hz6 := hB6.size
        go_wp2_with fail
        refine hK.out _ _ ⟨HS.out w6 hB6, (hb6.cell (p := ⟨w1.heap.size, 3, none⟩) (World.block_lt_of_cell? _ _ hHeld5.2)).trans hHeld5.2⟩ (fun hHeld6 => ?_)
        clear hK K
        (try simp only [Act.put, List.setIfInBounds_toArray, List.set_cons_zero, List.set_cons_succ])
        refine wpAnyH_take (i := 18) (v := (.string (((((s ++ T1) ++ ⟨#[32]⟩) ++ ⟨#[109, 97, 99, 114, 111]⟩) ++ ⟨#[32]⟩) ++ T2))) rfl (by kernel_rfl) (by kernel_rfl) (by kernel_rfl) (fun _ _ _ h => h) (Or.inl ⟨by rfl, fun W hW => ?_⟩) (by assumption) ?_
        · (try dsimp only at hW); go_simp
        change wpAnyH _ _ _ _ _ _ _ (Act.put _ (some 24) _) _
        (try simp only [Act.put, List.setIfInBounds_toArray, List.set_cons_zero, List.set_cons_succ])
        refine wpAnyH_take (i := 19) (v := (.string (((((s ++ T1) ++ ⟨#[32]⟩) ++ ⟨#[109, 97, 99, 114, 111]⟩) ++ ⟨#[32]⟩) ++ T2))) rfl (by kernel_rfl) (by kernel_rfl) (by kernel_rfl) (fun _ _ _ h => h) (Or.inl ⟨by rfl, fun W hW => ?_⟩) (by assumption) ?_
        · (try dsimp only at hW); go_simp
        change wpAnyH _ _ _ _ _ _ _ (Act.put _ (some 2) _) _
        (try simp only [Act.put, List.setIfInBounds_toArray, List.set_cons_zero, List.set_cons_succ])
        refine wpAnyH_done (by kernel_rfl) ?_ _
        refine NoPanic.normal ?_
        go_wp2_with fail
        go_ret
        exact ⟨by rw [HKW.out]; rfl, by (repeat (first | with_reducible assumption | with_reducible exact Below.refl _ _ | with_reducible refine Below.drew ?_ | with_reducible refine belowDrewN ?_ _ | ((with_reducible refine Below.setCell ?_ ?_ _); rotate_left; focus (first | omega | (simp; done) | (simp; omega))) | ((with_reducible refine Below.alloc ?_ ?_ _); rotate_left; focus (first | omega | (simp; done) | (simp; omega))) | ((with_reducible refine Below.trans ?_ (Below.mono HW1.out ?_)); rotate_left; focus (first | omega | (simp; done) | (simp; omega))) | ((with_reducible refine Below.trans ?_ (Below.mono hB6 ?_)); rotate_left; focus (first | omega | (simp; done) | (simp; omega)))))⟩
end Go.Proofs.YtghbnehocggnnaaDoor

/-
  Walks: the program's text of a binding. Condition: the library's table of powers of ten reads as laid. (printed by wip/tools/mkfb5.py)
-/
set_option linter.unusedVariables false
set_option linter.unusedSimpArgs false
set_option maxRecDepth 100000
namespace Go.Proofs.YtghbnehocggnnaaDoor
open Go.RowKit

theorem fmt_bytes2 {s T1 T2 : ByteArray} {x : List Int} {n : Int} {W1 : List UInt8} (h1 : T1 = ⟨(s.data.toList ++ scT x).toArray⟩) (h2 : T2 = ⟨(Lib.itoa n).toArray⟩) :
    T1 ++ ⟨#[32]⟩ ++ ⟨W1.toArray⟩ ++ ⟨#[32]⟩ ++ T2 = (⟨((((s.data.toList ++ scT x) ++ [32]) ++ W1) ++ [32] ++ Lib.itoa n).toArray⟩ : ByteArray) := by
  subst h1 h2
  apply ByteArray.ext
  simp only [ByteArray.data_append]
  apply Array.ext'
  simp
set_option maxHeartbeats 8000000 in
theorem iFormatBinding_calls (s : ByteArray) (x : List Int) (k n : Int) (xa : Option Addr) (xc : Nat) (w : World) (hs9 : s.size ≤ 9223372036854775807) (hx : (M.sl xa xc 1 3 (intM x)).In w) (B : Nat) (hT : Tab B w) (hBw : B ≤ w.heap.size) :
    Calls Tryd.prog 8 #[.agg #[.string s, .slice xa x.length xc, .int .i64 k, .int .i64 n]] w (Ret (.string ⟨(fmtB s x k n).toArray⟩) w) := by
  have hxl := Ints.len hx
  have hT2 := hT.mono hBw
  have HX := Lib.hid hx; clear hx; have HT := Lib.hid hT; clear hT; have HT2 := Lib.hid hT2; clear hT2
  go_enter Tryd.func8, Tryd.ntmps8
  go_wp2_with fail
  refine (iIsBinding_calls s x k n xa xc _ hs9 (HX.out.below (by (repeat (first | with_reducible assumption | with_reducible exact Below.refl _ _ | with_reducible refine Below.drew ?_ | with_reducible refine belowDrewN ?_ _ | ((with_reducible refine Below.setCell ?_ ?_ _); rotate_left; focus (first | omega | (simp; done) | (simp; omega))) | ((with_reducible refine Below.alloc ?_ ?_ _); rotate_left; focus (first | omega | (simp; done) | (simp; omega)))))))).mono ?_
  rintro e w1 ⟨rfl, hb1⟩
  have hz1 := hb1.size
  simp only [World.size_alloc] at hz1
  have hq1 : BBox w.heap.size s (.slice xa x.length xc) k n w1 := (BBox.new s (.slice xa x.length xc) k n w).below hb1 (by simp)
  cases hok : bndOk s x k n with
  | false =>
    have hno := fmtB_no hok
    have HNO := Lib.hid hno; clear hno; have HOK := Lib.hid hok; clear hok
    go_wp2_with fail
    go_ret
    exact ⟨by rw [HNO.out]; rfl, by (repeat (first | with_reducible assumption | with_reducible exact Below.refl _ _ | with_reducible refine Below.drew ?_ | with_reducible refine belowDrewN ?_ _ | ((with_reducible refine Below.setCell ?_ ?_ _); rotate_left; focus (first | omega | (simp; done) | (simp; omega))) | ((with_reducible refine Below.alloc ?_ ?_ _); rotate_left; focus (first | omega | (simp; done) | (simp; omega))) | ((with_reducible refine Below.trans ?_ (Below.mono hb1 ?_)); rotate_left; focus (first | omega | (simp; done) | (simp; omega)))))⟩
  | true =>
    obtain ⟨hk, hs16, hasc, hn0, hn9⟩ := bndOk_out hok
    have hx9 := asc_short hasc
    have hxI : ∀ z ∈ x, 0 ≤ z ∧ z ≤ 99999 := fun z hz => by have := hasc.1 z hz; omega
    have hxI64 : ∀ z ∈ x, I64 z := fun z hz => by have := hasc.1 z hz; unfold I64; omega
    have hscl := scT_length hxI64
    have hlen := Lib.itoa_length_le n (by omega) (by omega)
    have hw1 : Below w.heap.size w w1 := by (repeat (first | with_reducible assumption | with_reducible exact Below.refl _ _ | with_reducible refine Below.drew ?_ | with_reducible refine belowDrewN ?_ _ | ((with_reducible refine Below.setCell ?_ ?_ _); rotate_left; focus (first | omega | (simp; done) | (simp; omega))) | ((with_reducible refine Below.alloc ?_ ?_ _); rotate_left; focus (first | omega | (simp; done) | (simp; omega))) | ((with_reducible refine Below.trans ?_ (Below.mono hb1 ?_)); rotate_left; focus (first | omega | (simp; done) | (simp; omega)))))
    have hxw := HX.out.below (w' := w1) hw1
    have hnI : I64 n := by unfold I64; omega
    have hp1 : w.heap.size < w1.heap.size := by omega
    obtain ⟨T1, hT1⟩ : ∃ T, T = (⟨(s.data.toList ++ scT x).toArray⟩ : ByteArray) := ⟨_, rfl⟩
    obtain ⟨T2, hT2'⟩ : ∃ T, T = (⟨(Lib.itoa n).toArray⟩ : ByteArray) := ⟨_, rfl⟩
    have h1s : T1.size ≤ 16 + 22 * x.length + 2 := by
      have e0 : s.data.toList.length = s.size := rfl
      have e1 : T1.size = (s.data.toList ++ scT x).length := by rw [hT1]; exact List.size_toArray
      rw [List.length_append] at e1
      omega
    have h2s : T2.size ≤ 21 := by rw [hT2']; simpa [ByteArray.size] using hlen
    have cNM : ∀ W, Below w.heap.size w W → Calls Tryd.prog 23 #[.int .i64 n] W (Ret (.string T2) W) := fun W h => by rw [hT2']; exact iFormatNumber_calls n W hnI w.heap.size (HT2.out.on h) h.size
    have HASC := Lib.hid hasc; clear hasc; have HXI := Lib.hid hxI; clear hxI; have HXI64 := Lib.hid hxI64; clear hxI64; have HXW := Lib.hid hxw; clear hxw; have HW1 := Lib.hid hw1; clear hw1; have HNI := Lib.hid hnI; clear hnI; have CNM := Lib.hid cNM; clear cNM; have HT1 := Lib.hid hT1; clear hT1; have HT2' := Lib.hid hT2'; clear hT2'
    clear hb1
    rcases hk with rfl | rfl | rfl | rfl
    · have hkk : kindW 1 = [102, 111, 114, 109] := by simp [kindW]
      have hkw : (⟨(fmtB s x 1 n).toArray⟩ : ByteArray) = ((((T1 ++ ⟨#[32]⟩) ++ ⟨#[102, 111, 114, 109]⟩) ++ ⟨#[32]⟩) ++ T2) := by rw [fmtB_yes hok, hkk]; exact (fmt_bytes2 HT1.out HT2'.out).symm
      have hS : ∀ W, Below w1.heap.size w1 W → (W.cell? ⟨w.heap.size, 0, none⟩ = some (.string s) ∧ W.cell? ⟨w.heap.size, 1, none⟩ = some (.slice xa x.length xc) ∧ W.cell? ⟨w.heap.size, 2, none⟩ = some (.int .i64 1) ∧ W.cell? ⟨w.heap.size, 3, none⟩ = some (.int .i64 n)) := fun W hW => by
        have h := hq1.below hW hp1
        exact ⟨h.c0, h.c1, h.c2, h.c3⟩
      have n2 : ¬ (9223372036854775807 < T1.size + 1) := by omega
      have n3 : ¬ (9223372036854775807 < T1.size + 1 + 4) := by omega
      have n4 : ¬ (9223372036854775807 < T1.size + 1 + 4 + 1) := by omega
      have n5 : ¬ (9223372036854775807 < T1.size + 1 + 4 + 1 + T2.size) := by omega
      obtain ⟨z0, z1, z2, z3⟩ := hS w1 (Below.refl _ _)
      have hwv : Below w1.heap.size w1 (w1.alloc (.cells #[.string ⟨#[]⟩, .string ⟨#[102, 111, 114, 109]⟩, .string ⟨#[112, 114, 105, 109, 105, 116, 105, 118, 101]⟩, .string ⟨#[118, 97, 114, 105, 97, 98, 108, 101]⟩, .string ⟨#[109, 97, 99, 114, 111]⟩] 9)) := by (repeat (first | with_reducible assumption | with_reducible exact Below.refl _ _ | with_reducible refine Below.drew ?_ | with_reducible refine belowDrewN ?_ _ | ((with_reducible refine Below.setCell ?_ ?_ _); rotate_left; focus (first | omega | (simp; done) | (simp; omega))) | ((with_reducible refine Below.alloc ?_ ?_ _); rotate_left; focus (first | omega | (simp; done) | (simp; omega)))))
      have hs0 := hS _ hwv
      obtain ⟨v2, hcv, hg2, hbc⟩ := Btg.conv (w1.alloc (.cells #[.string ⟨#[]⟩, .string ⟨#[102, 111, 114, 109]⟩, .string ⟨#[112, 114, 105, 109, 105, 116, 105, 118, 101]⟩, .string ⟨#[118, 97, 114, 105, 97, 98, 108, 101]⟩, .string ⟨#[109, 97, 99, 114, 111]⟩] 9)).drew s (by omega) (w1.alloc (.cells #[.string ⟨#[]⟩, .string ⟨#[102, 111, 114, 109]⟩, .string ⟨#[112, 114, 105, 109, 105, 116, 105, 118, 101]⟩, .string ⟨#[118, 97, 114, 105, 97, 98, 108, 101]⟩, .string ⟨#[109, 97, 99, 114, 111]⟩] 9)).drew.heap.size (Nat.le_refl _)
      obtain ⟨w2, hw2⟩ : ∃ w2, w2 = Lib.bytesWorld (w1.alloc (.cells #[.string ⟨#[]⟩, .string ⟨#[102, 111, 114, 109]⟩, .string ⟨#[112, 114, 105, 109, 105, 116, 105, 118, 101]⟩, .string ⟨#[118, 97, 114, 105, 97, 98, 108, 101]⟩, .string ⟨#[109, 97, 99, 114, 111]⟩] 9)).drew 5 s := ⟨_, rfl⟩
      rw [← hw2] at hcv hg2 hbc
      have hB2 : Below w1.heap.size w1 w2 := (hwv.drew).trans (hbc.mono (by simp))
      have cW : Calls Tryd.prog 22 #[v2, .slice xa x.length xc] w2 (RetG (w1.alloc (.cells #[.string ⟨#[]⟩, .string ⟨#[102, 111, 114, 109]⟩, .string ⟨#[112, 114, 105, 109, 105, 116, 105, 118, 101]⟩, .string ⟨#[118, 97, 114, 105, 97, 98, 108, 101]⟩, .string ⟨#[109, 97, 99, 114, 111]⟩] 9)).drew.heap.size (s.data.toList ++ scT x) w2) := writeScopesG_calls xa xc x s.data.toList v2 (w1.alloc (.cells #[.string ⟨#[]⟩, .string ⟨#[102, 111, 114, 109]⟩, .string ⟨#[112, 114, 105, 109, 105, 116, 105, 118, 101]⟩, .string ⟨#[118, 97, 114, 105, 97, 98, 108, 101]⟩, .string ⟨#[109, 97, 99, 114, 111]⟩] 9)).drew w2 (by omega) (by have : s.data.toList.length = s.size := rfl; omega) HXI.out (HXW.out.below hwv.drew) hg2 hbc ((HT2.out.on (HW1.out.trans (hwv.drew.mono (by omega)))).mono (by simp; omega))
      clear hw2
      have HOK := Lib.hid hok; clear hok; have HKW := Lib.hid hkw; clear hkw; have HQ1 := Lib.hid hq1; clear hq1; have HS := Lib.hid hS; clear hS; have HG2 := Lib.hid hg2; clear hg2; have HBC := Lib.hid hbc; clear hbc; have CW := Lib.hid cW; clear cW; have HWV := Lib.hid hwv; clear hwv; have HB2 := Lib.hid hB2; clear hB2
      go_wp2_with fail
      refine wp_region_noPanic ?_
      refine wp_region_held_drew (S := fun w' => w'.cell? ⟨w.heap.size, 0, none⟩ = some (.string s) ∧ w'.cell? ⟨w.heap.size, 1, none⟩ = some (.slice xa x.length xc) ∧ w'.cell? ⟨w.heap.size, 2, none⟩ = some (.int .i64 1) ∧ w'.cell? ⟨w.heap.size, 3, none⟩ = some (.int .i64 n)) (by kernel_rfl) (by simp only [World.cell?_drew]; exact hs0) (fun hHeld => ?_)
      refine wpAnyH_take (i := 0) (v := (.pointer (some ⟨w.heap.size, 0, none⟩))) rfl (by kernel_rfl) (by kernel_rfl) (by kernel_rfl) (fun _ _ _ h => h) (Or.inl ⟨by rfl, fun W hW => ?_⟩) (by assumption) ?_
      · (try dsimp only at hW); go_simp
      change wpAnyH _ _ _ _ _ _ _ (Act.put _ (some 12) _) _
      (try simp only [Act.put, List.setIfInBounds_toArray, List.set_cons_zero, List.set_cons_succ])
      refine wpAnyH_take (i := 1) (v := (.string s)) rfl (by kernel_rfl) (by kernel_rfl) (by kernel_rfl) (fun _ _ _ h => h) (Or.inl ⟨by rfl, fun W hW => ?_⟩) (by assumption) ?_
      · (try dsimp only at hW); go_simp
      change wpAnyH _ _ _ _ _ _ _ (Act.put _ (some 13) _) _
      (try simp only [Act.put, List.setIfInBounds_toArray, List.set_cons_zero, List.set_cons_succ])
      refine wpAnyH_take (i := 3) (v := (.pointer (some ⟨w.heap.size, 1, none⟩))) rfl (by kernel_rfl) (by kernel_rfl) (by kernel_rfl) (fun _ _ _ h => h) (Or.inl ⟨by rfl, fun W hW => ?_⟩) (by assumption) ?_
      · (try dsimp only at hW); go_simp
      change wpAnyH _ _ _ _ _ _ _ (Act.put _ (some 15) _) _
      (try simp only [Act.put, List.setIfInBounds_toArray, List.set_cons_zero, List.set_cons_succ])
      refine wpAnyH_take (i := 4) (v := (.slice xa x.length xc)) rfl (by kernel_rfl) (by kernel_rfl) (by kernel_rfl) (fun _ _ _ h => h) (Or.inl ⟨by rfl, fun W hW => ?_⟩) (by assumption) ?_
      · (try dsimp only at hW); go_simp
      change wpAnyH _ _ _ _ _ _ _ (Act.put _ (some 16) _) _
      (try simp only [Act.put, List.setIfInBounds_toArray, List.set_cons_zero, List.set_cons_succ])
      refine wpAnyH_take (i := 8) (v := (.string ⟨#[102, 111, 114, 109]⟩)) rfl (by kernel_rfl) (by kernel_rfl) (by kernel_rfl) (fun _ _ _ h => h) (Or.inl ⟨by rfl, fun W hW => ?_⟩) (by assumption) ?_
      · (try dsimp only at hW); go_simp
      change wpAnyH _ _ _ _ _ _ _ (Act.put _ (some 20) _) _
      (try simp only [Act.put, List.setIfInBounds_toArray, List.set_cons_zero, List.set_cons_succ])
      refine wpAnyH_take (i := 11) (v := (.pointer (some ⟨w.heap.size, 3, none⟩))) rfl (by kernel_rfl) (by kernel_rfl) (by kernel_rfl) (fun _ _ _ h => h) (Or.inl ⟨by rfl, fun W hW => ?_⟩) (by assumption) ?_
      · (try dsimp only at hW); go_simp
      change wpAnyH _ _ _ _ _ _ _ (Act.put _ (some 23) _) _
      (try simp only [Act.put, List.setIfInBounds_toArray, List.set_cons_zero, List.set_cons_succ])
      refine wpAnyH_take (i := 12) (v := (.int .i64 n)) rfl (by kernel_rfl) (by kernel_rfl) (by kernel_rfl) (fun _ _ _ h => h) (Or.inl ⟨by rfl, fun W hW => ?_⟩) (by assumption) ?_
      · (try dsimp only at hW); go_simp
      change wpAnyH _ _ _ _ _ _ _ (Act.put _ (some 24) _) _
      (try simp only [Act.put, List.setIfInBounds_toArray, List.set_cons_zero, List.set_cons_succ])
      refine wpAnyH_ready (rs := [2]) (by kernel_rfl) (by simp) (AllReadyH.cons rfl (fun K hK => ?_) AllReadyH.nil)
      go_simp
      refine hK.out _ _ (HS.out _ HB2.out) (fun hHeld2 => ?_)
      clear hK K
      (try simp only [Act.put, List.setIfInBounds_toArray, List.set_cons_zero, List.set_cons_succ])
      refine wpAnyH_ready (rs := [5]) (by kernel_rfl) (by simp) (AllReadyH.cons rfl (fun K hK => ?_) AllReadyH.nil)
      go_simp
      go_at_call 22
      refine CW.out.mono ?_
      rintro e w5 ⟨v5, rfl, hg5, hb5⟩
      have hB5 : Below w1.heap.size w1 w5 := HB2.out.trans (hb5.mono (by simp))
      have hz5 := hB5.size
      have hcv5 := hg5.str
      rw [← HT1.out] at hcv5
      go_wp2_with fail
      refine hK.out _ _ (HS.out w5 hB5) (fun hHeld5 => ?_)
      clear hK K
      (try simp only [Act.put, List.setIfInBounds_toArray, List.set_cons_zero, List.set_cons_succ])
      refine wpAnyH_ready (rs := [6, 13]) (by kernel_rfl) (by simp) (AllReadyH.cons rfl (fun K hK => ?_) (AllReadyH.cons rfl (fun K hK => ?_) AllReadyH.nil))
      · skip
        go_simp
        refine hK.out _ _ hHeld5 (fun hHeld5b => ?_)
        clear hK K
        (try simp only [Act.put, List.setIfInBounds_toArray, List.set_cons_zero, List.set_cons_succ])
        refine wpAnyH_take (i := 7) (v := (.string (T1 ++ ⟨#[32]⟩))) rfl (by kernel_rfl) (by kernel_rfl) (by kernel_rfl) (fun _ _ _ h => h) (Or.inl ⟨by rfl, fun W hW => ?_⟩) (by assumption) ?_
        · (try dsimp only at hW); go_simp
        change wpAnyH _ _ _ _ _ _ _ (Act.put _ (some 19) _) _
        (try simp only [Act.put, List.setIfInBounds_toArray, List.set_cons_zero, List.set_cons_succ])
        refine wpAnyH_take (i := 9) (v := (.string ((T1 ++ ⟨#[32]⟩) ++ ⟨#[102, 111, 114, 109]⟩))) rfl (by kernel_rfl) (by kernel_rfl) (by kernel_rfl) (fun _ _ _ h => h) (Or.inl ⟨by rfl, fun W hW => ?_⟩) (by assumption) ?_
        · (try dsimp only at hW); go_simp
        change wpAnyH _ _ _ _ _ _ _ (Act.put _ (some 21) _) _
        (try simp only [Act.put, List.setIfInBounds_toArray, List.set_cons_zero, List.set_cons_succ])
        refine wpAnyH_take (i := 10) (v := (.string (((T1 ++ ⟨#[32]⟩) ++ ⟨#[102, 111, 114, 109]⟩) ++ ⟨#[32]⟩))) rfl (by kernel_rfl) (by kernel_rfl) (by kernel_rfl) (fun _ _ _ h => h) (Or.inl ⟨by rfl, fun W hW => ?_⟩) (by assumption) ?_
        · (try dsimp only at hW); go_simp
        change wpAnyH _ _ _ _ _ _ _ (Act.put _ (some 22) _) _
        (try simp only [Act.put, List.setIfInBounds_toArray, List.set_cons_zero, List.set_cons_succ])
        refine wpAnyH_ready (rs := [13]) (by kernel_rfl) (by simp) (AllReadyH.cons rfl (fun K hK => ?_) AllReadyH.nil)
        go_simp
        go_at_call 23
        refine (CNM.out _ (HW1.out.trans (hB5.mono (by omega)))).mono ?_
        rintro e w6 ⟨rfl, hb6⟩
        have hB6 : Below w1.heap.size w1 w6 := by (repeat (first | with_reducible assumption | with_reducible exact Below.refl _ _ | with_reducible refine Below.drew ?_ | with_reducible refine belowDrewN ?_ _ | ((with_reducible refine Below.setCell ?_ ?_ _); rotate_left; focus (first | omega | (simp; done) | (simp; omega))) | ((with_reducible refine Below.alloc ?_ ?_ _); rotate_left; focus (first | omega | (simp; done) | (simp; omega))) | ((with_reducible refine Below.trans ?_ (Below.mono hB5 ?_)); rotate_left; focus (first | omega | (simp; done) | (simp; omega))) | ((with_reducible refine Below.trans ?_ (Below.mono hb6 ?_)); rotate_left; focus (first | omega | (simp; done) | (simp; omega)))))
        have hz6 := hB6.size
        go_wp2_with fail
        refine hK.out _ _ (HS.out w6 hB6) (fun hHeld6 => ?_)
        clear hK K
        (try simp only [Act.put, List.setIfInBounds_toArray, List.set_cons_zero, List.set_cons_succ])
        refine wpAnyH_take (i := 14) (v := (.string ((((T1 ++ ⟨#[32]⟩) ++ ⟨#[102, 111, 114, 109]⟩) ++ ⟨#[32]⟩) ++ T2))) rfl (by kernel_rfl) (by kernel_rfl) (by kernel_rfl) (fun _ _ _ h => h) (Or.inl ⟨by rfl, fun W hW => ?_⟩) (by assumption) ?_
        · (try dsimp only at hW); go_simp
        change wpAnyH _ _ _ _ _ _ _ (Act.put _ (some 26) _) _
        (try simp only [Act.put, List.setIfInBounds_toArray, List.set_cons_zero, List.set_cons_succ])
        refine wpAnyH_take (i := 15) (v := (.string ((((T1 ++ ⟨#[32]⟩) ++ ⟨#[102, 111, 114, 109]⟩) ++ ⟨#[32]⟩) ++ T2))) rfl (by kernel_rfl) (by kernel_rfl) (by kernel_rfl) (fun _ _ _ h => h) (Or.inl ⟨by rfl, fun W hW => ?_⟩) (by assumption) ?_
        · (try dsimp only at hW); go_simp
        change wpAnyH _ _ _ _ _ _ _ (Act.put _ (some 2) _) _
        (try simp only [Act.put, List.setIfInBounds_toArray, List.set_cons_zero, List.set_cons_succ])
        refine wpAnyH_done (by kernel_rfl) ?_ _
        refine NoPanic.normal ?_
        go_wp2_with fail
        go_ret
        exact ⟨by rw [HKW.out]; rfl, by (repeat (first | with_reducible assumption | with_reducible exact Below.refl _ _ | with_reducible refine Below.drew ?_ | with_reducible refine belowDrewN ?_ _ | ((with_reducible refine Below.setCell ?_ ?_ _); rotate_left; focus (first | omega | (simp; done) | (simp; omega))) | ((with_reducible refine Below.alloc ?_ ?_ _); rotate_left; focus (first | omega | (simp; done) | (simp; omega))) | ((with_reducible refine Below.trans ?_ (Below.mono HW1.out ?_)); rotate_left; focus (first | omega | (simp; done) | (simp; omega))) | ((with_reducible refine Below.trans ?_ (Below.mono hB6 ?_)); rotate_left; focus (first | omega | (simp; done) | (simp; omega)))))⟩
      · skip
        go_simp
        go_at_call 23
        refine (CNM.out _ (HW1.out.trans (hB5.mono (by omega)))).mono ?_
        rintro e w6 ⟨rfl, hb6⟩
        have hB6 : Below w1.heap.size w1 w6 := by (repeat (first | with_reducible assumption | with_reducible exact Below.refl _ _ | with_reducible refine Below.drew ?_ | with_reducible refine belowDrewN ?_ _ | ((with_reducible refine Below.setCell ?_ ?_ _); rotate_left; focus (first | omega | (simp; done) | (simp; omega))) | ((with_reducible refine Below.alloc ?_ ?_ _); rotate_left; focus (first | omega | (simp; done) | (simp; omega))) | ((with_reducible refine Below.trans ?_ (Below.mono hB5 ?_)); rotate_left; focus (first | omega | (simp; done) | (simp; omega))) | ((with_reducible refine Below.trans ?_ (Below.mono hb6 ?_)); rotate_left; focus (first | omega | (simp; done) | (simp; omega)))))
        have hz6 := hB6.size
        go_wp2_with fail
        have hcv6 := (hg5.below hb6).str
        rw [← HT1.out] at hcv6
        refine hK.out _ _ (HS.out w6 hB6) (fun hHeld6 => ?_)
        clear hK K
        (try simp only [Act.put, List.setIfInBounds_toArray, List.set_cons_zero, List.set_cons_succ])
        refine wpAnyH_ready (rs := [6]) (by kernel_rfl) (by simp) (AllReadyH.cons rfl (fun K hK => ?_) AllReadyH.nil)
        go_simp
        refine hK.out _ _ hHeld6 (fun hHeld6b => ?_)
        clear hK K
        (try simp only [Act.put, List.setIfInBounds_toArray, List.set_cons_zero, List.set_cons_succ])
        refine wpAnyH_take (i := 7) (v := (.string (T1 ++ ⟨#[32]⟩))) rfl (by kernel_rfl) (by kernel_rfl) (by kernel_rfl) (fun _ _ _ h => h) (Or.inl ⟨by rfl, fun W hW => ?_⟩) (by assumption) ?_
        · (try dsimp only at hW); go_simp
        change wpAnyH _ _ _ _ _ _ _ (Act.put _ (some 19) _) _
        (try simp only [Act.put, List.setIfInBounds_toArray, List.set_cons_zero, List.set_cons_succ])
        refine wpAnyH_take (i := 9) (v := (.string ((T1 ++ ⟨#[32]⟩) ++ ⟨#[102, 111, 114, 109]⟩))) rfl (by kernel_rfl) (by kernel_rfl) (by kernel_rfl) (fun _ _ _ h => h) (Or.inl ⟨by rfl, fun W hW => ?_⟩) (by assumption) ?_
        · (try dsimp only at hW); go_simp
        change wpAnyH _ _ _ _ _ _ _ (Act.put _ (some 21) _) _
        (try simp only [Act.put, List.setIfInBounds_toArray, List.set_cons_zero, List.set_cons_succ])
        refine wpAnyH_take (i := 10) (v := (.string (((T1 ++ ⟨#[32]⟩) ++ ⟨#[102, 111, 114, 109]⟩) ++ ⟨#[32]⟩))) rfl (by kernel_rfl) (by kernel_rfl) (by kernel_rfl) (fun _ _ _ h => h) (Or.inl ⟨by rfl, fun W hW => ?_⟩) (by assumption) ?_
        · (try dsimp only at hW); go_simp
        change wpAnyH _ _ _ _ _ _ _ (Act.put _ (some 22) _) _
        (try simp only [Act.put, List.setIfInBounds_toArray, List.set_cons_zero, List.set_cons_succ])
        refine wpAnyH_take (i := 14) (v := (.string ((((T1 ++ ⟨#[32]⟩) ++ ⟨#[102, 111, 114, 109]⟩) ++ ⟨#[32]⟩) ++ T2))) rfl (by kernel_rfl) (by kernel_rfl) (by kernel_rfl) (fun _ _ _ h => h) (Or.inl ⟨by rfl, fun W hW => ?_⟩) (by assumption) ?_
        · (try dsimp only at hW); go_simp
        change wpAnyH _ _ _ _ _ _ _ (Act.put _ (some 26) _) _
        (try simp only [Act.put, List.setIfInBounds_toArray, List.set_cons_zero, List.set_cons_succ])
        refine wpAnyH_take (i := 15) (v := (.string ((((T1 ++ ⟨#[32]⟩) ++ ⟨#[102, 111, 114, 109]⟩) ++ ⟨#[32]⟩) ++ T2))) rfl (by kernel_rfl) (by kernel_rfl) (by kernel_rfl) (fun _ _ _ h => h) (Or.inl ⟨by rfl, fun W hW => ?_⟩) (by assumption) ?_
        · (try dsimp only at hW); go_simp
        change wpAnyH _ _ _ _ _ _ _ (Act.put _ (some 2) _) _
        (try simp only [Act.put, List.setIfInBounds_toArray, List.set_cons_zero, List.set_cons_succ])
        refine wpAnyH_done (by kernel_rfl) ?_ _
        refine NoPanic.normal ?_
        go_wp2_with fail
        go_ret
        exact ⟨by rw [HKW.out]; rfl, by (repeat (first | with_reducible assumption | with_reducible exact Below.refl _ _ | with_reducible refine Below.drew ?_ | with_reducible refine belowDrewN ?_ _ | ((with_reducible refine Below.setCell ?_ ?_ _); rotate_left; focus (first | omega | (simp; done) | (simp; omega))) | ((with_reducible refine Below.alloc ?_ ?_ _); rotate_left; focus (first | omega | (simp; done) | (simp; omega))) | ((with_reducible refine Below.trans ?_ (Below.mono HW1.out ?_)); rotate_left; focus (first | omega | (simp; done) | (simp; omega))) | ((with_reducible refine Below.trans ?_ (Below.mono hB6 ?_)); rotate_left; focus (first | omega | (simp; done) | (simp; omega)))))⟩
    · have hkk : kindW 2 = [112, 114, 105, 109, 105, 116, 105, 118, 101] := by simp [kindW]
      have hkw : (⟨(fmtB s x 2 n).toArray⟩ : ByteArray) = ((((T1 ++ ⟨#[32]⟩) ++ ⟨#[112, 114, 105, 109, 105, 116, 105, 118, 101]⟩) ++ ⟨#[32]⟩) ++ T2) := by rw [fmtB_yes hok, hkk]; exact (fmt_bytes2 HT1.out HT2'.out).symm
      have hS : ∀ W, Below w1.heap.size w1 W → (W.cell? ⟨w.heap.size, 0, none⟩ = some (.string s) ∧ W.cell? ⟨w.heap.size, 1, none⟩ = some (.slice xa x.length xc) ∧ W.cell? ⟨w.heap.size, 2, none⟩ = some (.int .i64 2) ∧ W.cell? ⟨w.heap.size, 3, none⟩ = some (.int .i64 n)) := fun W hW => by
        have h := hq1.below hW hp1
        exact ⟨h.c0, h.c1, h.c2, h.c3⟩
      have n2 : ¬ (9223372036854775807 < T1.size + 1) := by omega
      have n3 : ¬ (9223372036854775807 < T1.size + 1 + 9) := by omega
      have n4 : ¬ (9223372036854775807 < T1.size + 1 + 9 + 1) := by omega
      have n5 : ¬ (9223372036854775807 < T1.size + 1 + 9 + 1 + T2.size) := by omega
      obtain ⟨z0, z1, z2, z3⟩ := hS w1 (Below.refl _ _)
      have hwv : Below w1.heap.size w1 (w1.alloc (.cells #[.string ⟨#[]⟩, .string ⟨#[102, 111, 114, 109]⟩, .string ⟨#[112, 114, 105, 109, 105, 116, 105, 118, 101]⟩, .string ⟨#[118, 97, 114, 105, 97, 98, 108, 101]⟩, .string ⟨#[109, 97, 99, 114, 111]⟩] 9)) := by (repeat (first | with_reducible assumption | with_reducible exact Below.refl _ _ | with_reducible refine Below.drew ?_ | with_reducible refine belowDrewN ?_ _ | ((with_reducible refine Below.setCell ?_ ?_ _); rotate_left; focus (first | omega | (simp; done) | (simp; omega))) | ((with_reducible refine Below.alloc ?_ ?_ _); rotate_left; focus (first | omega | (simp; done) | (simp; omega)))))
      have hs0 := hS _ hwv
      obtain ⟨v2, hcv, hg2, hbc⟩ := Btg.conv (w1.alloc (.cells #[.string ⟨#[]⟩, .string ⟨#[102, 111, 114, 109]⟩, .string ⟨#[112, 114, 105, 109, 105, 116, 105, 118, 101]⟩, .string ⟨#[118, 97, 114, 105, 97, 98, 108, 101]⟩, .string ⟨#[109, 97, 99, 114, 111]⟩] 9)).drew s (by omega) (w1.alloc (.cells #[.string ⟨#[]⟩, .string ⟨#[102, 111, 114, 109]⟩, .string ⟨#[112, 114, 105, 109, 105, 116, 105, 118, 101]⟩, .string ⟨#[118, 97, 114, 105, 97, 98, 108, 101]⟩, .string ⟨#[109, 97, 99, 114, 111]⟩] 9)).drew.heap.size (Nat.le_refl _)
      obtain ⟨w2, hw2⟩ : ∃ w2, w2 = Lib.bytesWorld (w1.alloc (.cells #[.string ⟨#[]⟩, .string ⟨#[102, 111, 114, 109]⟩, .string ⟨#[112, 114, 105, 109, 105, 116, 105, 118, 101]⟩, .string ⟨#[118, 97, 114, 105, 97, 98, 108, 101]⟩, .string ⟨#[109, 97, 99, 114, 111]⟩] 9)).drew 5 s := ⟨_, rfl⟩
      rw [← hw2] at hcv hg2 hbc
      have hB2 : Below w1.heap.size w1 w2 := (hwv.drew).trans (hbc.mono (by simp))
      have cW : Calls Tryd.prog 22 #[v2, .slice xa x.length xc] w2 (RetG (w1.alloc (.cells #[.string ⟨#[]⟩, .string ⟨#[102, 111, 114, 109]⟩, .string ⟨#[112, 114, 105, 109, 105, 116, 105, 118, 101]⟩, .string ⟨#[118, 97, 114, 105, 97, 98, 108, 101]⟩, .string ⟨#[109, 97, 99, 114, 111]⟩] 9)).drew.heap.size (s.data.toList ++ scT x) w2) := writeScopesG_calls xa xc x s.data.toList v2 (w1.alloc (.cells #[.string ⟨#[]⟩, .string ⟨#[102, 111, 114, 109]⟩, .string ⟨#[112, 114, 105, 109, 105, 116, 105, 118, 101]⟩, .string ⟨#[118, 97, 114, 105, 97, 98, 108, 101]⟩, .string ⟨#[109, 97, 99, 114, 111]⟩] 9)).drew w2 (by omega) (by have : s.data.toList.length = s.size := rfl; omega) HXI.out (HXW.out.below hwv.drew) hg2 hbc ((HT2.out.on (HW1.out.trans (hwv.drew.mono (by omega)))).mono (by simp; omega))
      clear hw2
      have HOK := Lib.hid hok; clear hok; have HKW := Lib.hid hkw; clear hkw; have HQ1 := Lib.hid hq1; clear hq1; have HS := Lib.hid hS; clear hS; have HG2 := Lib.hid hg2; clear hg2; have HBC := Lib.hid hbc; clear hbc; have CW := Lib.hid cW; clear cW; have HWV := Lib.hid hwv; clear hwv; have HB2 := Lib.hid hB2; clear hB2
      go_wp2_with fail
      refine wp_region_noPanic ?_
      refine wp_region_held_drew (S := fun w' => w'.cell? ⟨w.heap.size, 0, none⟩ = some (.string s) ∧ w'.cell? ⟨w.heap.size, 1, none⟩ = some (.slice xa x.length xc) ∧ w'.cell? ⟨w.heap.size, 2, none⟩ = some (.int .i64 2) ∧ w'.cell? ⟨w.heap.size, 3, none⟩ = some (.int .i64 n)) (by kernel_rfl) (by simp only [World.cell?_drew]; exact hs0) (fun hHeld => ?_)
      refine wpAnyH_take (i := 0) (v := (.pointer (some ⟨w.heap.size, 0, none⟩))) rfl (by kernel_rfl) (by kernel_rfl) (by kernel_rfl) (fun _ _ _ h => h) (Or.inl ⟨by rfl, fun W hW => ?_⟩) (by assumption) ?_
      · (try dsimp only at hW); go_simp
      change wpAnyH _ _ _ _ _ _ _ (Act.put _ (some 12) _) _
      (try simp only [Act.put, List.setIfInBounds_toArray, List.set_cons_zero, List.set_cons_succ])
      refine wpAnyH_take (i := 1) (v := (.string s)) rfl (by kernel_rfl) (by kernel_rfl) (by kernel_rfl) (fun _ _ _ h => h) (Or.inl ⟨by rfl, fun W hW => ?_⟩) (by assumption) ?_
      · (try dsimp only at hW); go_simp
      change wpAnyH _ _ _ _ _ _ _ (Act.put _ (some 13) _) _
      (try simp only [Act.put, List.setIfInBounds_toArray, List.set_cons_zero, List.set_cons_succ])
      refine wpAnyH_take (i := 3) (v := (.pointer (some ⟨w.heap.size, 1, none⟩))) rfl (by kernel_rfl) (by kernel_rfl) (by kernel_rfl) (fun _ _ _ h => h) (Or.inl ⟨by rfl, fun W hW => ?_⟩) (by assumption) ?_
      · (try dsimp only at hW); go_simp
      change wpAnyH _ _ _ _ _ _ _ (Act.put _ (some 15) _) _
      (try simp only [Act.put, List.setIfInBounds_toArray, List.set_cons_zero, List.set_cons_succ])
      refine wpAnyH_take (i := 4) (v := (.slice xa x.length xc)) rfl (by kernel_rfl) (by kernel_rfl) (by kernel_rfl) (fun _ _ _ h => h) (Or.inl ⟨by rfl, fun W hW => ?_⟩) (by assumption) ?_
      · (try dsimp only at hW); go_simp
      change wpAnyH _ _ _ _ _ _ _ (Act.put _ (some 16) _) _
      (try simp only [Act.put, List.setIfInBounds_toArray, List.set_cons_zero, List.set_cons_succ])
      refine wpAnyH_take (i := 8) (v := (.string ⟨#[112, 114, 105, 109, 105, 116, 105, 118, 101]⟩)) rfl (by kernel_rfl) (by kernel_rfl) (by kernel_rfl) (fun _ _ _ h => h) (Or.inl ⟨by rfl, fun W hW => ?_⟩) (by assumption) ?_
      · (try dsimp only at hW); go_simp
      change wpAnyH _ _ _ _ _ _ _ (Act.put _ (some 20) _) _
      (try simp only [Act.put, List.setIfInBounds_toArray, List.set_cons_zero, List.set_cons_succ])
      refine wpAnyH_take (i := 11) (v := (.pointer (some ⟨w.heap.size, 3, none⟩))) rfl (by kernel_rfl) (by kernel_rfl) (by kernel_rfl) (fun _ _ _ h => h) (Or.inl ⟨by rfl, fun W hW => ?_⟩) (by assumption) ?_
      · (try dsimp only at hW); go_simp
      change wpAnyH _ _ _ _ _ _ _ (Act.put _ (some 23) _) _
      (try simp only [Act.put, List.setIfInBounds_toArray, List.set_cons_zero, List.set_cons_succ])
      refine wpAnyH_take (i := 12) (v := (.int .i64 n)) rfl (by kernel_rfl) (by kernel_rfl) (by kernel_rfl) (fun _ _ _ h => h) (Or.inl ⟨by rfl, fun W hW => ?_⟩) (by assumption) ?_
      · (try dsimp only at hW); go_simp
      change wpAnyH _ _ _ _ _ _ _ (Act.put _ (some 24) _) _
      (try simp only [Act.put, List.setIfInBounds_toArray, List.set_cons_zero, List.set_cons_succ])
      refine wpAnyH_ready (rs := [2]) (by kernel_rfl) (by simp) (AllReadyH.cons rfl (fun K hK => ?_) AllReadyH.nil)
      go_simp
      refine hK.out _ _ (HS.out _ HB2.out) (fun hHeld2 => ?_)
      clear hK K
      (try simp only [Act.put, List.setIfInBounds_toArray, List.set_cons_zero, List.set_cons_succ])
      refine wpAnyH_ready (rs := [5]) (by kernel_rfl) (by simp) (AllReadyH.cons rfl (fun K hK => ?_) AllReadyH.nil)
      go_simp
      go_at_call 22
      refine CW.out.mono ?_
      rintro e w5 ⟨v5, rfl, hg5, hb5⟩
      have hB5 : Below w1.heap.size w1 w5 := HB2.out.trans (hb5.mono (by simp))
      have hz5 := hB5.size
      have hcv5 := hg5.str
      rw [← HT1.out] at hcv5
      go_wp2_with fail
      refine hK.out _ _ (HS.out w5 hB5) (fun hHeld5 => ?_)
      clear hK K
      (try simp only [Act.put, List.setIfInBounds_toArray, List.set_cons_zero, List.set_cons_succ])
      refine wpAnyH_ready (rs := [6, 13]) (by kernel_rfl) (by simp) (AllReadyH.cons rfl (fun K hK => ?_) (AllReadyH.cons rfl (fun K hK => ?_) AllReadyH.nil))
      · skip
        go_simp
        refine hK.out _ _ hHeld5 (fun hHeld5b => ?_)
        clear hK K
        (try simp only [Act.put, List.setIfInBounds_toArray, List.set_cons_zero, List.set_cons_succ])
        refine wpAnyH_take (i := 7) (v := (.string (T1 ++ ⟨#[32]⟩))) rfl (by kernel_rfl) (by kernel_rfl) (by kernel_rfl) (fun _ _ _ h => h) (Or.inl ⟨by rfl, fun W hW => ?_⟩) (by assumption) ?_
        · (try dsimp only at hW); go_simp
        change wpAnyH _ _ _ _ _ _ _ (Act.put _ (some 19) _) _
        (try simp only [Act.put, List.setIfInBounds_toArray, List.set_cons_zero, List.set_cons_succ])
        refine wpAnyH_take (i := 9) (v := (.string ((T1 ++ ⟨#[32]⟩) ++ ⟨#[112, 114, 105, 109, 105, 116, 105, 118, 101]⟩))) rfl (by kernel_rfl) (by kernel_rfl) (by kernel_rfl) (fun _ _ _ h => h) (Or.inl ⟨by rfl, fun W hW => ?_⟩) (by assumption) ?_
        · (try dsimp only at hW); go_simp
        change wpAnyH _ _ _ _ _ _ _ (Act.put _ (some 21) _) _
        (try simp only [Act.put, List.setIfInBounds_toArray, List.set_cons_zero, List.set_cons_succ])
        refine wpAnyH_take (i := 10) (v := (.string (((T1 ++ ⟨#[32]⟩) ++ ⟨#[112, 114, 105, 109, 105, 116, 105, 118, 101]⟩) ++ ⟨#[32]⟩))) rfl (by kernel_rfl) (by kernel_rfl) (by kernel_rfl) (fun _ _ _ h => h) (Or.inl ⟨by rfl, fun W hW => ?_⟩) (by assumption) ?_
        · (try dsimp only at hW); go_simp
        change wpAnyH _ _ _ _ _ _ _ (Act.put _ (some 22) _) _
        (try simp only [Act.put, List.setIfInBounds_toArray, List.set_cons_zero, List.set_cons_succ])
        refine wpAnyH_ready (rs := [13]) (by kernel_rfl) (by simp) (AllReadyH.cons rfl (fun K hK => ?_) AllReadyH.nil)
        go_simp
        go_at_call 23
        refine (CNM.out _ (HW1.out.trans (hB5.mono (by omega)))).mono ?_
        rintro e w6 ⟨rfl, hb6⟩
        have hB6 : Below w1.heap.size w1 w6 := by (repeat (first | with_reducible assumption | with_reducible exact Below.refl _ _ | with_reducible refine Below.drew ?_ | with_reducible refine belowDrewN ?_ _ | ((with_reducible refine Below.setCell ?_ ?_ _); rotate_left; focus (first | omega | (simp; done) | (simp; omega))) | ((with_reducible refine Below.alloc ?_ ?_ _); rotate_left; focus (first | omega | (simp; done) | (simp; omega))) | ((with_reducible refine Below.trans ?_ (Below.mono hB5 ?_)); rotate_left; focus (first | omega | (simp; done) | (simp; omega))) | ((with_reducible refine Below.trans ?_ (Below.mono hb6 ?_)); rotate_left; focus (first | omega | (simp; done) | (simp; omega)))))
        have hz6 := hB6.size
        go_wp2_with fail
        refine hK.out _ _ (HS.out w6 hB6) (fun hHeld6 => ?_)
        clear hK K
        (try simp only [Act.put, List.setIfInBounds_toArray, List.set_cons_zero, List.set_cons_succ])
        refine wpAnyH_take (i := 14) (v := (.string ((((T1 ++ ⟨#[32]⟩) ++ ⟨#[112, 114, 105, 109, 105, 116, 105, 118, 101]⟩) ++ ⟨#[32]⟩) ++ T2))) rfl (by kernel_rfl) (by kernel_rfl) (by kernel_rfl) (fun _ _ _ h => h) (Or.inl ⟨by rfl, fun W hW => ?_⟩) (by assumption) ?_
        · (try dsimp only at hW); go_simp
        change wpAnyH _ _ _ _ _ _ _ (Act.put _ (some 26) _) _
        (try simp only [Act.put, List.setIfInBounds_toArray, List.set_cons_zero, List.set_cons_succ])
        refine wpAnyH_take (i := 15) (v := (.string ((((T1 ++ ⟨#[32]⟩) ++ ⟨#[112, 114, 105, 109, 105, 116, 105, 118, 101]⟩) ++ ⟨#[32]⟩) ++ T2))) rfl (by kernel_rfl) (by kernel_rfl) (by kernel_rfl) (fun _ _ _ h => h) (Or.inl ⟨by rfl, fun W hW => ?_⟩) (by assumption) ?_
        · (try dsimp only at hW); go_simp
        change wpAnyH _ _ _ _ _ _ _ (Act.put _ (some 2) _) _
        (try simp only [Act.put, List.setIfInBounds_toArray, List.set_cons_zero, List.set_cons_succ])
        refine wpAnyH_done (by kernel_rfl) ?_ _
        refine NoPanic.normal ?_
        go_wp2_with fail
        go_ret
        exact ⟨by rw [HKW.out]; rfl, by (repeat (first | with_reducible assumption | with_reducible exact Below.refl _ _ | with_reducible refine Below.drew ?_ | with_reducible refine belowDrewN ?_ _ | ((with_reducible refine Below.setCell ?_ ?_ _); rotate_left; focus (first | omega | (simp; done) | (simp; omega))) | ((with_reducible refine Below.alloc ?_ ?_ _); rotate_left; focus (first | omega | (simp; done) | (simp; omega))) | ((with_reducible refine Below.trans ?_ (Below.mono HW1.out ?_)); rotate_left; focus (first | omega | (simp; done) | (simp; omega))) | ((with_reducible refine Below.trans ?_ (Below.mono hB6 ?_)); rotate_left; focus (first | omega | (simp; done) | (simp; omega)))))⟩
      · skip
        go_simp
        go_at_call 23
        refine (CNM.out _ (HW1.out.trans (hB5.mono (by omega)))).mono ?_
        rintro e w6 ⟨rfl, hb6⟩
        have hB6 : Below w1.heap.size w1 w6 := by (repeat (first | with_reducible assumption | with_reducible exact Below.refl _ _ | with_reducible refine Below.drew ?_ | with_reducible refine belowDrewN ?_ _ | ((with_reducible refine Below.setCell ?_ ?_ _); rotate_left; focus (first | omega | (simp; done) | (simp; omega))) | ((with_reducible refine Below.alloc ?_ ?_ _); rotate_left; focus (first | omega | (simp; done) | (simp; omega))) | ((with_reducible refine Below.trans ?_ (Below.mono hB5 ?_)); rotate_left; focus (first | omega | (simp; done) | (simp; omega))) | ((with_reducible refine Below.trans ?_ (Below.mono hb6 ?_)); rotate_left; focus (first | omega | (simp; done) | (simp; omega)))))
        have hz6 := hB6.size
        go_wp2_with fail
        have hcv6 := (hg5.below hb6).str
        rw [← HT1.out] at hcv6
        refine hK.out _ _ (HS.out w6 hB6) (fun hHeld6 => ?_)
        clear hK K
        (try simp only [Act.put, List.setIfInBounds_toArray, List.set_cons_zero, List.set_cons_succ])
        refine wpAnyH_ready (rs := [6]) (by kernel_rfl) (by simp) (AllReadyH.cons rfl (fun K hK => ?_) AllReadyH.nil)
        go_simp
        refine hK.out _ _ hHeld6 (fun hHeld6b => ?_)
        clear hK K
        (try simp only [Act.put, List.setIfInBounds_toArray, List.set_cons_zero, List.set_cons_succ])
        refine wpAnyH_take (i := 7) (v := (.string (T1 ++ ⟨#[32]⟩))) rfl (by kernel_rfl) (by kernel_rfl) (by kernel_rfl) (fun _ _ _ h => h) (Or.inl ⟨by rfl, fun W hW => ?_⟩) (by assumption) ?_
        · (try dsimp only at hW); go_simp
        change wpAnyH _ _ _ _ _ _ _ (Act.put _ (some 19) _) _
        (try simp only [Act.put, List.setIfInBounds_toArray, List.set_cons_zero, List.set_cons_succ])
        refine wpAnyH_take (i := 9) (v := (.string ((T1 ++ ⟨#[32]⟩) ++ ⟨#[112, 114, 105, 109, 105, 116, 105, 118, 101]⟩))) rfl (by kernel_rfl) (by kernel_rfl) (by kernel_rfl) (fun _ _ _ h => h) (Or.inl ⟨by rfl, fun W hW => ?_⟩) (by assumption) ?_
        · (try dsimp only at hW); go_simp
        change wpAnyH _ _ _ _ _ _ _ (Act.put _ (some 21) _) _
        (try simp only [Act.put, List.setIfInBounds_toArray, List.set_cons_zero, List.set_cons_succ])
        refine wpAnyH_take (i := 10) (v := (.string (((T1 ++ ⟨#[32]⟩) ++ ⟨#[112, 114, 105, 109, 105, 116, 105, 118, 101]⟩) ++ ⟨#[32]⟩))) rfl (by kernel_rfl) (by kernel_rfl) (by kernel_rfl) (fun _ _ _ h => h) (Or.inl ⟨by rfl, fun W hW => ?_⟩) (by assumption) ?_
        · (try dsimp only at hW); go_simp
        change wpAnyH _ _ _ _ _ _ _ (Act.put _ (some 22) _) _
        (try simp only [Act.put, List.setIfInBounds_toArray, List.set_cons_zero, List.set_cons_succ])
        refine wpAnyH_take (i := 14) (v := (.string ((((T1 ++ ⟨#[32]⟩) ++ ⟨#[112, 114, 105, 109, 105, 116, 105, 118, 101]⟩) ++ ⟨#[32]⟩) ++ T2))) rfl (by kernel_rfl) (by kernel_rfl) (by kernel_rfl) (fun _ _ _ h => h) (Or.inl ⟨by rfl, fun W hW => ?_⟩) (by assumption) ?_
        · (try dsimp only at hW); go_simp
        change wpAnyH _ _ _ _ _ _ _ (Act.put _ (some 26) _) _
        (try simp only [Act.put, List.setIfInBounds_toArray, List.set_cons_zero, List.set_cons_succ])
        refine wpAnyH_take (i := 15) (v := (.string ((((T1 ++ ⟨#[32]⟩) ++ ⟨#[112, 114, 105, 109, 105, 116, 105, 118, 101]⟩) ++ ⟨#[32]⟩) ++ T2))) rfl (by kernel_rfl) (by kernel_rfl) (by kernel_rfl) (fun _ _ _ h => h) (Or.inl ⟨by rfl, fun W hW => ?_⟩) (by assumption) ?_
        · (try dsimp only at hW); go_simp
        change wpAnyH _ _ _ _ _ _ _ (Act.put _ (some 2) _) _
        (try simp only [Act.put, List.setIfInBounds_toArray, List.set_cons_zero, List.set_cons_succ])
        refine wpAnyH_done (by kernel_rfl) ?_ _
        refine NoPanic.normal ?_
        go_wp2_with fail
        go_ret
        exact ⟨by rw [HKW.out]; rfl, by (repeat (first | with_reducible assumption | with_reducible exact Below.refl _ _ | with_reducible refine Below.drew ?_ | with_reducible refine belowDrewN ?_ _ | ((with_reducible refine Below.setCell ?_ ?_ _); rotate_left; focus (first | omega | (simp; done) | (simp; omega))) | ((with_reducible refine Below.alloc ?_ ?_ _); rotate_left; focus (first | omega | (simp; done) | (simp; omega))) | ((with_reducible refine Below.trans ?_ (Below.mono HW1.out ?_)); rotate_left; focus (first | omega | (simp; done) | (simp; omega))) | ((with_reducible refine Below.trans ?_ (Below.mono hB6 ?_)); rotate_left; focus (first | omega | (simp; done) | (simp; omega)))))⟩
    · have hkk : kindW 3 = [118, 97, 114, 105, 97, 98, 108, 101] := by simp [kindW]
      have hkw : (⟨(fmtB s x 3 n).toArray⟩ : ByteArray) = ((((T1 ++ ⟨#[32]⟩) ++ ⟨#[118, 97, 114, 105, 97, 98, 108, 101]⟩) ++ ⟨#[32]⟩) ++ T2) := by rw [fmtB_yes hok, hkk]; exact (fmt_bytes2 HT1.out HT2'.out).symm
      have hS : ∀ W, Below w1.heap.size w1 W → (W.cell? ⟨w.heap.size, 0, none⟩ = some (.string s) ∧ W.cell? ⟨w.heap.size, 1, none⟩ = some (.slice xa x.length xc) ∧ W.cell? ⟨w.heap.size, 2, none⟩ = some (.int .i64 3) ∧ W.cell? ⟨w.heap.size, 3, none⟩ = some (.int .i64 n)) := fun W hW => by
        have h := hq1.below hW hp1
        exact ⟨h.c0, h.c1, h.c2, h.c3⟩
      have n2 : ¬ (9223372036854775807 < T1.size + 1) := by omega
      have n3 : ¬ (9223372036854775807 < T1.size + 1 + 8) := by omega
      have n4 : ¬ (9223372036854775807 < T1.size + 1 + 8 + 1) := by omega
      have n5 : ¬ (9223372036854775807 < T1.size + 1 + 8 + 1 + T2.size) := by omega
      obtain ⟨z0, z1, z2, z3⟩ := hS w1 (Below.refl _ _)
      have hwv : Below w1.heap.size w1 (w1.alloc (.cells #[.string ⟨#[]⟩, .string ⟨#[102, 111, 114, 109]⟩, .string ⟨#[112, 114, 105, 109, 105, 116, 105, 118, 101]⟩, .string ⟨#[118, 97, 114, 105, 97, 98, 108, 101]⟩, .string ⟨#[109, 97, 99, 114, 111]⟩] 9)) := by (repeat (first | with_reducible assumption | with_reducible exact Below.refl _ _ | with_reducible refine Below.drew ?_ | with_reducible refine belowDrewN ?_ _ | ((with_reducible refine Below.setCell ?_ ?_ _); rotate_left; focus (first | omega | (simp; done) | (simp; omega))) | ((with_reducible refine Below.alloc ?_ ?_ _); rotate_left; focus (first | omega | (simp; done) | (simp; omega)))))
      have hs0 := hS _ hwv
      obtain ⟨v2, hcv, hg2, hbc⟩ := Btg.conv (w1.alloc (.cells #[.string ⟨#[]⟩, .string ⟨#[102, 111, 114, 109]⟩, .string ⟨#[112, 114, 105, 109, 105, 116, 105, 118, 101]⟩, .string ⟨#[118, 97, 114, 105, 97, 98, 108, 101]⟩, .string ⟨#[109, 97, 99, 114, 111]⟩] 9)).drew s (by omega) (w1.alloc (.cells #[.string ⟨#[]⟩, .string ⟨#[102, 111, 114, 109]⟩, .string ⟨#[112, 114, 105, 109, 105, 116, 105, 118, 101]⟩, .string ⟨#[118, 97, 114, 105, 97, 98, 108, 101]⟩, .string ⟨#[109, 97, 99, 114, 111]⟩] 9)).drew.heap.size (Nat.le_refl _)
      obtain ⟨w2, hw2⟩ : ∃ w2, w2 = Lib.bytesWorld (w1.alloc (.cells #[.string ⟨#[]⟩, .string ⟨#[102, 111, 114, 109]⟩, .string ⟨#[112, 114, 105, 109, 105, 116, 105, 118, 101]⟩, .string ⟨#[118, 97, 114, 105, 97, 98, 108, 101]⟩, .string ⟨#[109, 97, 99, 114, 111]⟩] 9)).drew 5 s := ⟨_, rfl⟩
      rw [← hw2] at hcv hg2 hbc
      have hB2 : Below w1.heap.size w1 w2 := (hwv.drew).trans (hbc.mono (by simp))
      have cW : Calls Tryd.prog 22 #[v2, .slice xa x.length xc] w2 (RetG (w1.alloc (.cells #[.string ⟨#[]⟩, .string ⟨#[102, 111, 114, 109]⟩, .string ⟨#[112, 114, 105, 109, 105, 116, 105, 118, 101]⟩, .string ⟨#[118, 97, 114, 105, 97, 98, 108, 101]⟩, .string ⟨#[109, 97, 99, 114, 111]⟩] 9)).drew.heap.size (s.data.toList ++ scT x) w2) := writeScopesG_calls xa xc x s.data.toList v2 (w1.alloc (.cells #[.string ⟨#[]⟩, .string ⟨#[102, 111, 114, 109]⟩, .string ⟨#[112, 114, 105, 109, 105, 116, 105, 118, 101]⟩, .string ⟨#[118, 97, 114, 105, 97, 98, 108, 101]⟩, .string ⟨#[109, 97, 99, 114, 111]⟩] 9)).drew w2 (by omega) (by have : s.data.toList.length = s.size := rfl; omega) HXI.out (HXW.out.below hwv.drew) hg2 hbc ((HT2.out.on (HW1.out.trans (hwv.drew.mono (by omega)))).mono (by simp; omega))
      clear hw2
      have HOK := Lib.hid hok; clear hok; have HKW := Lib.hid hkw; clear hkw; have HQ1 := Lib.hid hq1; clear hq1; have HS := Lib.hid hS; clear hS; have HG2 := Lib.hid hg2; clear hg2; have HBC := Lib.hid hbc; clear hbc; have CW := Lib.hid cW; clear cW; have HWV := Lib.hid hwv; clear hwv; have HB2 := Lib.hid hB2; clear hB2
      go_wp2_with fail
      refine wp_region_noPanic ?_
      refine wp_region_held_drew (S := fun w' => w'.cell? ⟨w.heap.size, 0, none⟩ = some (.string s) ∧ w'.cell? ⟨w.heap.size, 1, none⟩ = some (.slice xa x.length xc) ∧ w'.cell? ⟨w.heap.size, 2, none⟩ = some (.int .i64 3) ∧ w'.cell? ⟨w.heap.size, 3, none⟩ = some (.int .i64 n)) (by kernel_rfl) (by simp only [World.cell?_drew]; exact hs0) (fun hHeld => ?_)
      refine wpAnyH_take (i := 0) (v := (.pointer (some ⟨w.heap.size, 0, none⟩))) rfl (by kernel_rfl) (by kernel_rfl) (by kernel_rfl) (fun _ _ _ h => h) (Or.inl ⟨by rfl, fun W hW => ?_⟩) (by assumption) ?_
      · (try dsimp only at hW); go_simp
      change wpAnyH _ _ _ _ _ _ _ (Act.put _ (some 12) _) _
      (try simp only [Act.put, List.setIfInBounds_toArray, List.set_cons_zero, List.set_cons_succ])
      refine wpAnyH_take (i := 1) (v := (.string s)) rfl (by kernel_rfl) (by kernel_rfl) (by kernel_rfl) (fun _ _ _ h => h) (Or.inl ⟨by rfl, fun W hW => ?_⟩) (by assumption) ?_
      · (try dsimp only at hW); go_simp
      change wpAnyH _ _ _ _ _ _ _ (Act.put _ (some 13) _) _
      (try simp only [Act.put, List.setIfInBounds_toArray, List.set_cons_zero, List.set_cons_succ])
      refine wpAnyH_take (i := 3) (v := (.pointer (some ⟨w.heap.size, 1, none⟩))) rfl (by kernel_rfl) (by kernel_rfl) (by kernel_rfl) (fun _ _ _ h => h) (Or.inl ⟨by rfl, fun W hW => ?_⟩) (by assumption) ?_
      · (try dsimp only at hW); go_simp
      change wpAnyH _ _ _ _ _ _ _ (Act.put _ (some 15) _) _
      (try simp only [Act.put, List.setIfInBounds_toArray, List.set_cons_zero, List.set_cons_succ])
      refine wpAnyH_take (i := 4) (v := (.slice xa x.length xc)) rfl (by kernel_rfl) (by kernel_rfl) (by kernel_rfl) (fun _ _ _ h => h) (Or.inl ⟨by rfl, fun W hW => ?_⟩) (by assumption) ?_
      · (try dsimp only at hW); go_simp
      change wpAnyH _ _ _ _ _ _ _ (Act.put _ (some 16) _) _
      (try simp only [Act.put, List.setIfInBounds_toArray, List.set_cons_zero, List.set_cons_succ])
      refine wpAnyH_take (i := 8) (v := (.string ⟨#[118, 97, 114, 105, 97, 98, 108, 101]⟩)) rfl (by kernel_rfl) (by kernel_rfl) (by kernel_rfl) (fun _ _ _ h => h) (Or.inl ⟨by rfl, fun W hW => ?_⟩) (by assumption) ?_
      · (try dsimp only at hW); go_simp
      change wpAnyH _ _ _ _ _ _ _ (Act.put _ (some 20) _) _
      (try simp only [Act.put, List.setIfInBounds_toArray, List.set_cons_zero, List.set_cons_succ])
      refine wpAnyH_take (i := 11) (v := (.pointer (some ⟨w.heap.size, 3, none⟩))) rfl (by kernel_rfl) (by kernel_rfl) (by kernel_rfl) (fun _ _ _ h => h) (Or.inl ⟨by rfl, fun W hW => ?_⟩) (by assumption) ?_
      · (try dsimp only at hW); go_simp
      change wpAnyH _ _ _ _ _ _ _ (Act.put _ (some 23) _) _
      (try simp only [Act.put, List.setIfInBounds_toArray, List.set_cons_zero, List.set_cons_succ])
      refine wpAnyH_take (i := 12) (v := (.int .i64 n)) rfl (by kernel_rfl) (by kernel_rfl) (by kernel_rfl) (fun _ _ _ h => h) (Or.inl ⟨by rfl, fun W hW => ?_⟩) (by assumption) ?_
      · (try dsimp only at hW); go_simp
      change wpAnyH _ _ _ _ _ _ _ (Act.put _ (some 24) _) _
      (try simp only [Act.put, List.setIfInBounds_toArray, List.set_cons_zero, List.set_cons_succ])
      refine wpAnyH_ready (rs := [2]) (by kernel_rfl) (by simp) (AllReadyH.cons rfl (fun K hK => ?_) AllReadyH.nil)
      go_simp
      refine hK.out _ _ (HS.out _ HB2.out) (fun hHeld2 => ?_)
      clear hK K
      (try simp only [Act.put, List.setIfInBounds_toArray, List.set_cons_zero, List.set_cons_succ])
      refine wpAnyH_ready (rs := [5]) (by kernel_rfl) (by simp) (AllReadyH.cons rfl (fun K hK => ?_) AllReadyH.nil)
      go_simp
      go_at_call 22
      refine CW.out.mono ?_
      rintro e w5 ⟨v5, rfl, hg5, hb5⟩
      have hB5 : Below w1.heap.size w1 w5 := HB2.out.trans (hb5.mono (by simp))
      have hz5 := hB5.size
      have hcv5 := hg5.str
      rw [← HT1.out] at hcv5
      go_wp2_with fail
      refine hK.out _ _ (HS.out w5 hB5) (fun hHeld5 => ?_)
      clear hK K
      (try simp only [Act.put, List.setIfInBounds_toArray, List.set_cons_zero, List.set_cons_succ])
      refine wpAnyH_ready (rs := [6, 13]) (by kernel_rfl) (by simp) (AllReadyH.cons rfl (fun K hK => ?_) (AllReadyH.cons rfl (fun K hK => ?_) AllReadyH.nil))
      · skip
        go_simp
        refine hK.out _ _ hHeld5 (fun hHeld5b => ?_)
        clear hK K
        (try simp only [Act.put, List.setIfInBounds_toArray, List.set_cons_zero, List.set_cons_succ])
        refine wpAnyH_take (i := 7) (v := (.string (T1 ++ ⟨#[32]⟩))) rfl (by kernel_rfl) (by kernel_rfl) (by kernel_rfl) (fun _ _ _ h => h) (Or.inl ⟨by rfl, fun W hW => ?_⟩) (by assumption) ?_
        · (try dsimp only at hW); go_simp
        change wpAnyH _ _ _ _ _ _ _ (Act.put _ (some 19) _) _
        (try simp only [Act.put, List.setIfInBounds_toArray, List.set_cons_zero, List.set_cons_succ])
        refine wpAnyH_take (i := 9) (v := (.string ((T1 ++ ⟨#[32]⟩) ++ ⟨#[118, 97, 114, 105, 97, 98, 108, 101]⟩))) rfl (by kernel_rfl) (by kernel_rfl) (by kernel_rfl) (fun _ _ _ h => h) (Or.inl ⟨by rfl, fun W hW => ?_⟩) (by assumption) ?_
        · (try dsimp only at hW); go_simp
        change wpAnyH _ _ _ _ _ _ _ (Act.put _ (some 21) _) _
        (try simp only [Act.put, List.setIfInBounds_toArray, List.set_cons_zero, List.set_cons_succ])
        refine wpAnyH_take (i := 10) (v := (.string (((T1 ++ ⟨#[32]⟩) ++ ⟨#[118, 97, 114, 105, 97, 98, 108, 101]⟩) ++ ⟨#[32]⟩))) rfl (by kernel_rfl) (by kernel_rfl) (by kernel_rfl) (fun _ _ _ h => h) (Or.inl ⟨by rfl, fun W hW => ?_⟩) (by assumption) ?_
        · (try dsimp only at hW); go_simp
        change wpAnyH _ _ _ _ _ _ _ (Act.put _ (some 22) _) _
        (try simp only [Act.put, List.setIfInBounds_toArray, List.set_cons_zero, List.set_cons_succ])
        refine wpAnyH_ready (rs := [13]) (by kernel_rfl) (by simp) (AllReadyH.cons rfl (fun K hK => ?_) AllReadyH.nil)
        go_simp
        go_at_call 23
        refine (CNM.out _ (HW1.out.trans (hB5.mono (by omega)))).mono ?_
        rintro e w6 ⟨rfl, hb6⟩
        have hB6 : Below w1.heap.size w1 w6 := by (repeat (first | with_reducible assumption | with_reducible exact Below.refl _ _ | with_reducible refine Below.drew ?_ | with_reducible refine belowDrewN ?_ _ | ((with_reducible refine Below.setCell ?_ ?_ _); rotate_left; focus (first | omega | (simp; done) | (simp; omega))) | ((with_reducible refine Below.alloc ?_ ?_ _); rotate_left; focus (first | omega | (simp; done) | (simp; omega))) | ((with_reducible refine Below.trans ?_ (Below.mono hB5 ?_)); rotate_left; focus (first | omega | (simp; done) | (simp; omega))) | ((with_reducible refine Below.trans ?_ (Below.mono hb6 ?_)); rotate_left; focus (first | omega | (simp; done) | (simp; omega)))))
        have hz6 := hB6.size
        go_wp2_with fail
        refine hK.out _ _ (HS.out w6 hB6) (fun hHeld6 => ?_)
        clear hK K
        (try simp only [Act.put, List.setIfInBounds_toArray, List.set_cons_zero, List.set_cons_succ])
        refine wpAnyH_take (i := 14) (v := (.string ((((T1 ++ ⟨#[32]⟩) ++ ⟨#[118, 97, 114, 105, 97, 98, 108, 101]⟩) ++ ⟨#[32]⟩) ++ T2))) rfl (by kernel_rfl) (by kernel_rfl) (by kernel_rfl) (fun _ _ _ h => h) (Or.inl ⟨by rfl, fun W hW => ?_⟩) (by assumption) ?_
        · (try dsimp only at hW); go_simp
        change wpAnyH _ _ _ _ _ _ _ (Act.put _ (some 26) _) _
        (try simp only [Act.put, List.setIfInBounds_toArray, List.set_cons_zero, List.set_cons_succ])
        refine wpAnyH_take (i := 15) (v := (.string ((((T1 ++ ⟨#[32]⟩) ++ ⟨#[118, 97, 114, 105, 97, 98, 108, 101]⟩) ++ ⟨#[32]⟩) ++ T2))) rfl (by kernel_rfl) (by kernel_rfl) (by kernel_rfl) (fun _ _ _ h => h) (Or.inl ⟨by rfl, fun W hW => ?_⟩) (by assumption) ?_
        · (try dsimp only at hW); go_simp
        change wpAnyH _ _ _ _ _ _ _ (Act.put _ (some 2) _) _
        (try simp only [Act.put, List.setIfInBounds_toArray, List.set_cons_zero, List.set_cons_succ])
        refine wpAnyH_done (by kernel_rfl) ?_ _
        refine NoPanic.normal ?_
        go_wp2_with fail
        go_ret
        exact ⟨by rw [HKW.out]; rfl, by (repeat (first | with_reducible assumption | with_reducible exact Below.refl _ _ | with_reducible refine Below.drew ?_ | with_reducible refine belowDrewN ?_ _ | ((with_reducible refine Below.setCell ?_ ?_ _); rotate_left; focus (first | omega | (simp; done) | (simp; omega))) | ((with_reducible refine Below.alloc ?_ ?_ _); rotate_left; focus (first | omega | (simp; done) | (simp; omega))) | ((with_reducible refine Below.trans ?_ (Below.mono HW1.out ?_)); rotate_left; focus (first | omega | (simp; done) | (simp; omega))) | ((with_reducible refine Below.trans ?_ (Below.mono hB6 ?_)); rotate_left; focus (first | omega | (simp; done) | (simp; omega)))))⟩
      · skip
        go_simp
        go_at_call 23
        refine (CNM.out _ (HW1.out.trans (hB5.mono (by omega)))).mono ?_
        rintro e w6 ⟨rfl, hb6⟩
        have hB6 : Below w1.heap.size w1 w6 := by (repeat (first | with_reducible assumption | with_reducible exact Below.refl _ _ | with_reducible refine Below.drew ?_ | with_reducible refine belowDrewN ?_ _ | ((with_reducible refine Below.setCell ?_ ?_ _); rotate_left; focus (first | omega | (simp; done) | (simp; omega))) | ((with_reducible refine Below.alloc ?_ ?_ _); rotate_left; focus (first | omega | (simp; done) | (simp; omega))) | ((with_reducible refine Below.trans ?_ (Below.mono hB5 ?_)); rotate_left; focus (first | omega | (simp; done) | (simp; omega))) | ((with_reducible refine Below.trans ?_ (Below.mono hb6 ?_)); rotate_left; focus (first | omega | (simp; done) | (simp; omega)))))
        have hz6 := hB6.size
        go_wp2_with fail
        have hcv6 := (hg5.below hb6).str
        rw [← HT1.out] at hcv6
        refine hK.out _ _ (HS.out w6 hB6) (fun hHeld6 => ?_)
        clear hK K
        (try simp only [Act.put, List.setIfInBounds_toArray, List.set_cons_zero, List.set_cons_succ])
        refine wpAnyH_ready (rs := [6]) (by kernel_rfl) (by simp) (AllReadyH.cons rfl (fun K hK => ?_) AllReadyH.nil)
        go_simp
        refine hK.out _ _ hHeld6 (fun hHeld6b => ?_)
        clear hK K
        (try simp only [Act.put, List.setIfInBounds_toArray, List.set_cons_zero, List.set_cons_succ])
        refine wpAnyH_take (i := 7) (v := (.string (T1 ++ ⟨#[32]⟩))) rfl (by kernel_rfl) (by kernel_rfl) (by kernel_rfl) (fun _ _ _ h => h) (Or.inl ⟨by rfl, fun W hW => ?_⟩) (by assumption) ?_
        · (try dsimp only at hW); go_simp
        change wpAnyH _ _ _ _ _ _ _ (Act.put _ (some 19) _) _
        (try simp only [Act.put, List.setIfInBounds_toArray, List.set_cons_zero, List.set_cons_succ])
        refine wpAnyH_take (i := 9) (v := (.string ((T1 ++ ⟨#[32]⟩) ++ ⟨#[118, 97, 114, 105, 97, 98, 108, 101]⟩))) rfl (by kernel_rfl) (by kernel_rfl) (by kernel_rfl) (fun _ _ _ h => h) (Or.inl ⟨by rfl, fun W hW => ?_⟩) (by assumption) ?_
        · (try dsimp only at hW); go_simp
        change wpAnyH _ _ _ _ _ _ _ (Act.put _ (some 21) _) _
        (try simp only [Act.put, List.setIfInBounds_toArray, List.set_cons_zero, List.set_cons_succ])
        refine wpAnyH_take (i := 10) (v := (.string (((T1 ++ ⟨#[32]⟩) ++ ⟨#[118, 97, 114, 105, 97, 98, 108, 101]⟩) ++ ⟨#[32]⟩))) rfl (by kernel_rfl) (by kernel_rfl) (by kernel_rfl) (fun _ _ _ h => h) (Or.inl ⟨by rfl, fun W hW => ?_⟩) (by assumption) ?_
        · (try dsimp only at hW); go_simp
        change wpAnyH _ _ _ _ _ _ _ (Act.put _ (some 22) _) _
        (try simp only [Act.put, List.setIfInBounds_toArray, List.set_cons_zero, List.set_cons_succ])
        refine wpAnyH_take (i := 14) (v := (.string ((((T1 ++ ⟨#[32]⟩) ++ ⟨#[118, 97, 114, 105, 97, 98, 108, 101]⟩) ++ ⟨#[32]⟩) ++ T2))) rfl (by kernel_rfl) (by kernel_rfl) (by kernel_rfl) (fun _ _ _ h => h) (Or.inl ⟨by rfl, fun W hW => ?_⟩) (by assumption) ?_
        · (try dsimp only at hW); go_simp
        change wpAnyH _ _ _ _ _ _ _ (Act.put _ (some 26) _) _
        (try simp only [Act.put, List.setIfInBounds_toArray, List.set_cons_zero, List.set_cons_succ])
        refine wpAnyH_take (i := 15) (v := (.string ((((T1 ++ ⟨#[32]⟩) ++ ⟨#[118, 97, 114, 105, 97, 98, 108, 101]⟩) ++ ⟨#[32]⟩) ++ T2))) rfl (by kernel_rfl) (by kernel_rfl) (by kernel_rfl) (fun _ _ _ h => h) (Or.inl ⟨by rfl, fun W hW => ?_⟩) (by assumption) ?_
        · (try dsimp only at hW); go_simp
        change wpAnyH _ _ _ _ _ _ _ (Act.put _ (some 2) _) _
        (try simp only [Act.put, List.setIfInBounds_toArray, List.set_cons_zero, List.set_cons_succ])
        refine wpAnyH_done (by kernel_rfl) ?_ _
        refine NoPanic.normal ?_
        go_wp2_with fail
        go_ret
        exact ⟨by rw [HKW.out]; rfl, by (repeat (first | with_reducible assumption | with_reducible exact Below.refl _ _ | with_reducible refine Below.drew ?_ | with_reducible refine belowDrewN ?_ _ | ((with_reducible refine Below.setCell ?_ ?_ _); rotate_left; focus (first | omega | (simp; done) | (simp; omega))) | ((with_reducible refine Below.alloc ?_ ?_ _); rotate_left; focus (first | omega | (simp; done) | (simp; omega))) | ((with_reducible refine Below.trans ?_ (Below.mono HW1.out ?_)); rotate_left; focus (first | omega | (simp; done) | (simp; omega))) | ((with_reducible refine Below.trans ?_ (Below.mono hB6 ?_)); rotate_left; focus (first | omega | (simp; done) | (simp; omega)))))⟩
    · have hkk : kindW 4 = [109, 97, 99, 114, 111] := by simp [kindW]
      have hkw : (⟨(fmtB s x 4 n).toArray⟩ : ByteArray) = ((((T1 ++ ⟨#[32]⟩) ++ ⟨#[109, 97, 99, 114, 111]⟩) ++ ⟨#[32]⟩) ++ T2) := by rw [fmtB_yes hok, hkk]; exact (fmt_bytes2 HT1.out HT2'.out).symm
      have hS : ∀ W, Below w1.heap.size w1 W → (W.cell? ⟨w.heap.size, 0, none⟩ = some (.string s) ∧ W.cell? ⟨w.heap.size, 1, none⟩ = some (.slice xa x.length xc) ∧ W.cell? ⟨w.heap.size, 2, none⟩ = some (.int .i64 4) ∧ W.cell? ⟨w.heap.size, 3, none⟩ = some (.int .i64 n)) := fun W hW => by
        have h := hq1.below hW hp1
        exact ⟨h.c0, h.c1, h.c2, h.c3⟩
      have n2 : ¬ (9223372036854775807 < T1.size + 1) := by omega
      have n3 : ¬ (9223372036854775807 < T1.size + 1 + 5) := by omega
      have n4 : ¬ (9223372036854775807 < T1.size + 1 + 5 + 1) := by omega
      have n5 : ¬ (9223372036854775807 < T1.size + 1 + 5 + 1 + T2.size) := by omega
      obtain ⟨z0, z1, z2, z3⟩ := hS w1 (Below.refl _ _)
      have hwv : Below w1.heap.size w1 (w1.alloc (.cells #[.string ⟨#[]⟩, .string ⟨#[102, 111, 114, 109]⟩, .string ⟨#[112, 114, 105, 109, 105, 116, 105, 118, 101]⟩, .string ⟨#[118, 97, 114, 105, 97, 98, 108, 101]⟩, .string ⟨#[109, 97, 99, 114, 111]⟩] 9)) := by (repeat (first | with_reducible assumption | with_reducible exact Below.refl _ _ | with_reducible refine Below.drew ?_ | with_reducible refine belowDrewN ?_ _ | ((with_reducible refine Below.setCell ?_ ?_ _); rotate_left; focus (first | omega | (simp; done) | (simp; omega))) | ((with_reducible refine Below.alloc ?_ ?_ _); rotate_left; focus (first | omega | (simp; done) | (simp; omega)))))
      have hs0 := hS _ hwv
      obtain ⟨v2, hcv, hg2, hbc⟩ := Btg.conv (w1.alloc (.cells #[.string ⟨#[]⟩, .string ⟨#[102, 111, 114, 109]⟩, .string ⟨#[112, 114, 105, 109, 105, 116, 105, 118, 101]⟩, .string ⟨#[118, 97, 114, 105, 97, 98, 108, 101]⟩, .string ⟨#[109, 97, 99, 114, 111]⟩] 9)).drew s (by omega) (w1.alloc (.cells #[.string ⟨#[]⟩, .string ⟨#[102, 111, 114, 109]⟩, .string ⟨#[112, 114, 105, 109, 105, 116, 105, 118, 101]⟩, .string ⟨#[118, 97, 114, 105, 97, 98, 108, 101]⟩, .string ⟨#[109, 97, 99, 114, 111]⟩] 9)).drew.heap.size (Nat.le_refl _)
      obtain ⟨w2, hw2⟩ : ∃ w2, w2 = Lib.bytesWorld (w1.alloc (.cells #[.string ⟨#[]⟩, .string ⟨#[102, 111, 114, 109]⟩, .string ⟨#[112, 114, 105, 109, 105, 116, 105, 118, 101]⟩, .string ⟨#[118, 97, 114, 105, 97, 98, 108, 101]⟩, .string ⟨#[109, 97, 99, 114, 111]⟩] 9)).drew 5 s := ⟨_, rfl⟩
      rw [← hw2] at hcv hg2 hbc
      have hB2 : Below w1.heap.size w1 w2 := (hwv.drew).trans (hbc.mono (by simp))
      have cW : Calls Tryd.prog 22 #[v2, .slice xa x.length xc] w2 (RetG (w1.alloc (.cells #[.string ⟨#[]⟩, .string ⟨#[102, 111, 114, 109]⟩, .string ⟨#[112, 114, 105, 109, 105, 116, 105, 118, 101]⟩, .string ⟨#[118, 97, 114, 105, 97, 98, 108, 101]⟩, .string ⟨#[109, 97, 99, 114, 111]⟩] 9)).drew.heap.size (s.data.toList ++ scT x) w2) := writeScopesG_calls xa xc x s.data.toList v2 (w1.alloc (.cells #[.string ⟨#[]⟩, .string ⟨#[102, 111, 114, 109]⟩, .string ⟨#[112, 114, 105, 109, 105, 116, 105, 118, 101]⟩, .string ⟨#[118, 97, 114, 105, 97, 98, 108, 101]⟩, .string ⟨#[109, 97, 99, 114, 111]⟩] 9)).drew w2 (by omega) (by have : s.data.toList.length = s.size := rfl; omega) HXI.out (HXW.out.below hwv.drew) hg2 hbc ((HT2.out.on (HW1.out.trans (hwv.drew.mono (by omega)))).mono (by simp; omega))
      clear hw2
      have HOK := Lib.hid hok; clear hok; have HKW := Lib.hid hkw; clear hkw; have HQ1 := Lib.hid hq1; clear hq1; have HS := Lib.hid hS; clear hS; have HG2 := Lib.hid hg2; clear hg2; have HBC := Lib.hid hbc; clear hbc; have CW := Lib.hid cW; clear cW; have HWV := Lib.hid hwv; clear hwv; have HB2 := Lib.hid hB2; clear hB2
      go_wp2_with fail
      refine wp_region_noPanic ?_
      refine wp_region_held_drew (S := fun w' => w'.cell? ⟨w.heap.size, 0, none⟩ = some (.string s) ∧ w'.cell? ⟨w.heap.size, 1, none⟩ = some (.slice xa x.length xc) ∧ w'.cell? ⟨w.heap.size, 2, none⟩ = some (.int .i64 4) ∧ w'.cell? ⟨w.heap.size, 3, none⟩ = some (.int .i64 n)) (by kernel_rfl) (by simp only [World.cell?_drew]; exact hs0) (fun hHeld => ?_)
      refine wpAnyH_take (i := 0) (v := (.pointer (some ⟨w.heap.size, 0, none⟩))) rfl (by kernel_rfl) (by kernel_rfl) (by kernel_rfl) (fun _ _ _ h => h) (Or.inl ⟨by rfl, fun W hW => ?_⟩) (by assumption) ?_
      · (try dsimp only at hW); go_simp
      change wpAnyH _ _ _ _ _ _ _ (Act.put _ (some 12) _) _
      (try simp only [Act.put, List.setIfInBounds_toArray, List.set_cons_zero, List.set_cons_succ])
      refine wpAnyH_take (i := 1) (v := (.string s)) rfl (by kernel_rfl) (by kernel_rfl) (by kernel_rfl) (fun _ _ _ h => h) (Or.inl ⟨by rfl, fun W hW => ?_⟩) (by assumption) ?_
      · (try dsimp only at hW); go_simp
      change wpAnyH _ _ _ _ _ _ _ (Act.put _ (some 13) _) _
      (try simp only [Act.put, List.setIfInBounds_toArray, List.set_cons_zero, List.set_cons_succ])
      refine wpAnyH_take (i := 3) (v := (.pointer (some ⟨w.heap.size, 1, none⟩))) rfl (by kernel_rfl) (by kernel_rfl) (by kernel_rfl) (fun _ _ _ h => h) (Or.inl ⟨by rfl, fun W hW => ?_⟩) (by assumption) ?_
      · (try dsimp only at hW); go_simp
      change wpAnyH _ _ _ _ _ _ _ (Act.put _ (some 15) _) _
      (try simp only [Act.put, List.setIfInBounds_toArray, List.set_cons_zero, List.set_cons_succ])
      refine wpAnyH_take (i := 4) (v := (.slice xa x.length xc)) rfl (by kernel_rfl) (by kernel_rfl) (by kernel_rfl) (fun _ _ _ h => h) (Or.inl ⟨by rfl, fun W hW => ?_⟩) (by assumption) ?_
      · (try dsimp only at hW); go_simp
      change wpAnyH _ _ _ _ _ _ _ (Act.put _ (some 16) _) _
      (try simp only [Act.put, List.setIfInBounds_toArray, List.set_cons_zero, List.set_cons_succ])
      refine wpAnyH_take (i := 8) (v := (.string ⟨#[109, 97, 99, 114, 111]⟩)) rfl (by kernel_rfl) (by kernel_rfl) (by kernel_rfl) (fun _ _ _ h => h) (Or.inl ⟨by rfl, fun W hW => ?_⟩) (by assumption) ?_
      · (try dsimp only at hW); go_simp
      change wpAnyH _ _ _ _ _ _ _ (Act.put _ (some 20) _) _
      (try simp only [Act.put, List.setIfInBounds_toArray, List.set_cons_zero, List.set_cons_succ])
      refine wpAnyH_take (i := 11) (v := (.pointer (some ⟨w.heap.size, 3, none⟩))) rfl (by kernel_rfl) (by kernel_rfl) (by kernel_rfl) (fun _ _ _ h => h) (Or.inl ⟨by rfl, fun W hW => ?_⟩) (by assumption) ?_
      · (try dsimp only at hW); go_simp
      change wpAnyH _ _ _ _ _ _ _ (Act.put _ (some 23) _) _
      (try simp only [Act.put, List.setIfInBounds_toArray, List.set_cons_zero, List.set_cons_succ])
      refine wpAnyH_take (i := 12) (v := (.int .i64 n)) rfl (by kernel_rfl) (by kernel_rfl) (by kernel_rfl) (fun _ _ _ h => h) (Or.inl ⟨by rfl, fun W hW => ?_⟩) (by assumption) ?_
      · (try dsimp only at hW); go_simp
      change wpAnyH _ _ _ _ _ _ _ (Act.put _ (some 24) _) _
      (try simp only [Act.put, List.setIfInBounds_toArray, List.set_cons_zero, List.set_cons_succ])
      refine wpAnyH_ready (rs := [2]) (by kernel_rfl) (by simp) (AllReadyH.cons rfl (fun K hK => ?_) AllReadyH.nil)
      go_simp
      refine hK.out _ _ (HS.out _ HB2.out) (fun hHeld2 => ?_)
      clear hK K
      (try simp only [Act.put, List.setIfInBounds_toArray, List.set_cons_zero, List.set_cons_succ])
      refine wpAnyH_ready (rs := [5]) (by kernel_rfl) (by simp) (AllReadyH.cons rfl (fun K hK => ?_) AllReadyH.nil)
      go_simp
      go_at_call 22
      refine CW.out.mono ?_
      rintro e w5 ⟨v5, rfl, hg5, hb5⟩
      have hB5 : Below w1.heap.size w1 w5 := HB2.out.trans (hb5.mono (by simp))
      have hz5 := hB5.size
      have hcv5 := hg5.str
      rw [← HT1.out] at hcv5
      go_wp2_with fail
      refine hK.out _ _ (HS.out w5 hB5) (fun hHeld5 => ?_)
      clear hK K
      (try simp only [Act.put, List.setIfInBounds_toArray, List.set_cons_zero, List.set_cons_succ])
      refine wpAnyH_ready (rs := [6, 13]) (by kernel_rfl) (by simp) (AllReadyH.cons rfl (fun K hK => ?_) (AllReadyH.cons rfl (fun K hK => ?_) AllReadyH.nil))
      · skip
        go_simp
        refine hK.out _ _ hHeld5 (fun hHeld5b => ?_)
        clear hK K
        (try simp only [Act.put, List.setIfInBounds_toArray, List.set_cons_zero, List.set_cons_succ])
        refine wpAnyH_take (i := 7) (v := (.string (T1 ++ ⟨#[32]⟩))) rfl (by kernel_rfl) (by kernel_rfl) (by kernel_rfl) (fun _ _ _ h => h) (Or.inl ⟨by rfl, fun W hW => ?_⟩) (by assumption) ?_
        · (try dsimp only at hW); go_simp
        change wpAnyH _ _ _ _ _ _ _ (Act.put _ (some 19) _) _
        (try simp only [Act.put, List.setIfInBounds_toArray, List.set_cons_zero, List.set_cons_succ])
        refine wpAnyH_take (i := 9) (v := (.string ((T1 ++ ⟨#[32]⟩) ++ ⟨#[109, 97, 99, 114, 111]⟩))) rfl (by kernel_rfl) (by kernel_rfl) (by kernel_rfl) (fun _ _ _ h => h) (Or.inl ⟨by rfl, fun W hW => ?_⟩) (by assumption) ?_
        · (try dsimp only at hW); go_simp
        change wpAnyH _ _ _ _ _ _ _ (Act.put _ (some 21) _) _
        (try simp only [Act.put, List.setIfInBounds_toArray, List.set_cons_zero, List.set_cons_succ])
        refine wpAnyH_take (i := 10) (v := (.string (((T1 ++ ⟨#[32]⟩) ++ ⟨#[109, 97, 99, 114, 111]⟩) ++ ⟨#[32]⟩))) rfl (by kernel_rfl) (by kernel_rfl) (by kernel_rfl) (fun _ _ _ h => h) (Or.inl ⟨by rfl, fun W hW => ?_⟩) (by assumption) ?_
        · (try dsimp only at hW); go_simp
        change wpAnyH _ _ _ _ _ _ _ (Act.put _ (some 22) _) _
        (try simp only [Act.put, List.setIfInBounds_toArray, List.set_cons_zero, List.set_cons_succ])
        refine wpAnyH_ready (rs := [13]) (by kernel_rfl) (by simp) (AllReadyH.cons rfl (fun K hK => ?_) AllReadyH.nil)
        go_simp
        go_at_call 23
        refine (CNM.out _ (HW1.out.trans (hB5.mono (by omega)))).mono ?_
        rintro e w6 ⟨rfl, hb6⟩
        have hB6 : Below w1.heap.size w1 w6 := by (repeat (first | with_reducible assumption | with_reducible exact Below.refl _ _ | with_reducible refine Below.drew ?_ | with_reducible refine belowDrewN ?_ _ | ((with_reducible refine Below.setCell ?_ ?_ _); rotate_left; focus (first | omega | (simp; done) | (simp; omega))) | ((with_reducible refine Below.alloc ?_ ?_ _); rotate_left; focus (first | omega | (simp; done) | (simp; omega))) | ((with_reducible refine Below.trans ?_ (Below.mono hB5 ?_)); rotate_left; focus (first | omega | (simp; done) | (simp; omega))) | ((with_reducible refine Below.trans ?_ (Below.mono hb6 ?_)); rotate_left; focus (first | omega | (simp; done) | (simp; omega)))))
        have hz6 := hB6.size
        go_wp2_with fail
        refine hK.out _ _ (HS.out w6 hB6) (fun hHeld6 => ?_)
        clear hK K
        (try simp only [Act.put, List.setIfInBounds_toArray, List.set_cons_zero, List.set_cons_succ])
        refine wpAnyH_take (i := 14) (v := (.string ((((T1 ++ ⟨#[32]⟩) ++ ⟨#[109, 97, 99, 114, 111]⟩) ++ ⟨#[32]⟩) ++ T2))) rfl (by kernel_rfl) (by kernel_rfl) (by kernel_rfl) (fun _ _ _ h => h) (Or.inl ⟨by rfl, fun W hW => ?_⟩) (by assumption) ?_
        · (try dsimp only at hW); go_simp
        change wpAnyH _ _ _ _ _ _ _ (Act.put _ (some 26) _) _
        (try simp only [Act.put, List.setIfInBounds_toArray, List.set_cons_zero, List.set_cons_succ])
        refine wpAnyH_take (i := 15) (v := (.string ((((T1 ++ ⟨#[32]⟩) ++ ⟨#[109, 97, 99, 114, 111]⟩) ++ ⟨#[32]⟩) ++ T2))) rfl (by kernel_rfl) (by kernel_rfl) (by kernel_rfl) (fun _ _ _ h => h) (Or.inl ⟨by rfl, fun W hW => ?_⟩) (by assumption) ?_
        · (try dsimp only at hW); go_simp
        change wpAnyH _ _ _ _ _ _ _ (Act.put _ (some 2) _) _
        (try simp only [Act.put, List.setIfInBounds_toArray, List.set_cons_zero, List.set_cons_succ])
        refine wpAnyH_done (by kernel_rfl) ?_ _
        refine NoPanic.normal ?_
        go_wp2_with fail
        go_ret
        exact ⟨by rw [HKW.out]; rfl, by (repeat (first | with_reducible assumption | with_reducible exact Below.refl _ _ | with_reducible refine Below.drew ?_ | with_reducible refine belowDrewN ?_ _ | ((with_reducible refine Below.setCell ?_ ?_ _); rotate_left; focus (first | omega | (simp; done) | (simp; omega))) | ((with_reducible refine Below.alloc ?_ ?_ _); rotate_left; focus (first | omega | (simp; done) | (simp; omega))) | ((with_reducible refine Below.trans ?_ (Below.mono HW1.out ?_)); rotate_left; focus (first | omega | (simp; done) | (simp; omega))) | ((with_reducible refine Below.trans ?_ (Below.mono hB6 ?_)); rotate_left; focus (first | omega | (simp; done) | (simp; omega)))))⟩
      · skip
        go_simp
        go_at_call 23
        refine (CNM.out _ (HW1.out.trans (hB5.mono (by omega)))).mono ?_
        rintro e w6 ⟨rfl, hb6⟩
        have hB6 : Below w1.heap.size w1 w6 := by (repeat (first | with_reducible assumption | with_reducible exact Below.refl _ _ | with_reducible refine Below.drew ?_ | with_reducible refine belowDrewN ?_ _ | ((with_reducible refine Below.setCell ?_ ?_ _); rotate_left; focus (first | omega | (simp; done) | (simp; omega))) | ((with_reducible refine Below.alloc ?_ ?_ _); rotate_left; focus (first | omega | (simp; done) | (simp; omega))) | ((with_reducible refine Below.trans ?_ (Below.mono hB5 ?_)); rotate_left; focus (first | omega | (simp; done) | (simp; omega))) | ((with_reducible refine Below.trans ?_ (Below.mono hb6 ?_)); rotate_left; focus (first | omega | (simp; done) | (simp; omega)))))
        have hz6 := hB6.size
        go_wp2_with fail
        have hcv6 := (hg5.below hb6).str
        rw [← HT1.out] at hcv6
        refine hK.out _ _ (HS.out w6 hB6) (fun hHeld6 => ?_)
        clear hK K
        (try simp only [Act.put, List.setIfInBounds_toArray, List.set_cons_zero, List.set_cons_succ])
        refine wpAnyH_ready (rs := [6]) (by kernel_rfl) (by simp) (AllReadyH.cons rfl (fun K hK => ?_) AllReadyH.nil)
        go_simp
        refine hK.out _ _ hHeld6 (fun hHeld6b => ?_)
        clear hK K
        (try simp only [Act.put, List.setIfInBounds_toArray, List.set_cons_zero, List.set_cons_succ])
        refine wpAnyH_take (i := 7) (v := (.string (T1 ++ ⟨#[32]⟩))) rfl (by kernel_rfl) (by kernel_rfl) (by kernel_rfl) (fun _ _ _ h => h) (Or.inl ⟨by rfl, fun W hW => ?_⟩) (by assumption) ?_
        · (try dsimp only at hW); go_simp
        change wpAnyH _ _ _ _ _ _ _ (Act.put _ (some 19) _) _
        (try simp only [Act.put, List.setIfInBounds_toArray, List.set_cons_zero, List.set_cons_succ])
        refine wpAnyH_take (i := 9) (v := (.string ((T1 ++ ⟨#[32]⟩) ++ ⟨#[109, 97, 99, 114, 111]⟩))) rfl (by kernel_rfl) (by kernel_rfl) (by kernel_rfl) (fun _ _ _ h => h) (Or.inl ⟨by rfl, fun W hW => ?_⟩) (by assumption) ?_
        · (try dsimp only at hW); go_simp
        change wpAnyH _ _ _ _ _ _ _ (Act.put _ (some 21) _) _
        (try simp only [Act.put, List.setIfInBounds_toArray, List.set_cons_zero, List.set_cons_succ])
        refine wpAnyH_take (i := 10) (v := (.string (((T1 ++ ⟨#[32]⟩) ++ ⟨#[109, 97, 99, 114, 111]⟩) ++ ⟨#[32]⟩))) rfl (by kernel_rfl) (by kernel_rfl) (by kernel_rfl) (fun _ _ _ h => h) (Or.inl ⟨by rfl, fun W hW => ?_⟩) (by assumption) ?_
        · (try dsimp only at hW); go_simp
        change wpAnyH _ _ _ _ _ _ _ (Act.put _ (some 22) _) _
        (try simp only [Act.put, List.setIfInBounds_toArray, List.set_cons_zero, List.set_cons_succ])
        refine wpAnyH_take (i := 14) (v := (.string ((((T1 ++ ⟨#[32]⟩) ++ ⟨#[109, 97, 99, 114, 111]⟩) ++ ⟨#[32]⟩) ++ T2))) rfl (by kernel_rfl) (by kernel_rfl) (by kernel_rfl) (fun _ _ _ h => h) (Or.inl ⟨by rfl, fun W hW => ?_⟩) (by assumption) ?_
        · (try dsimp only at hW); go_simp
        change wpAnyH _ _ _ _ _ _ _ (Act.put _ (some 26) _) _
        (try simp only [Act.put, List.setIfInBounds_toArray, List.set_cons_zero, List.set_cons_succ])
        refine wpAnyH_take (i := 15) (v := (.string ((((T1 ++ ⟨#[32]⟩) ++ ⟨#[109, 97, 99, 114, 111]⟩) ++ ⟨#[32]⟩) ++ T2))) rfl (by kernel_rfl) (by kernel_rfl) (by kernel_rfl) (fun _ _ _ h => h) (Or.inl ⟨by rfl, fun W hW => ?_⟩) (by assumption) ?_
        · (try dsimp only at hW); go_simp
        change wpAnyH _ _ _ _ _ _ _ (Act.put _ (some 2) _) _
        (try simp only [Act.put, List.setIfInBounds_toArray, List.set_cons_zero, List.set_cons_succ])
        refine wpAnyH_done (by kernel_rfl) ?_ _
        refine NoPanic.normal ?_
        go_wp2_with fail
        go_ret
        exact ⟨by rw [HKW.out]; rfl, by (repeat (first | with_reducible assumption | with_reducible exact Below.refl _ _ | with_reducible refine Below.drew ?_ | with_reducible refine belowDrewN ?_ _ | ((with_reducible refine Below.setCell ?_ ?_ _); rotate_left; focus (first | omega | (simp; done) | (simp; omega))) | ((with_reducible refine Below.alloc ?_ ?_ _); rotate_left; focus (first | omega | (simp; done) | (simp; omega))) | ((with_reducible refine Below.trans ?_ (Below.mono HW1.out ?_)); rotate_left; focus (first | omega | (simp; done) | (simp; omega))) | ((with_reducible refine Below.trans ?_ (Below.mono hB6 ?_)); rotate_left; focus (first | omega | (simp; done) | (simp; omega)))))⟩
end Go.Proofs.YtghbnehocggnnaaDoor
