/-
  Walks: sets of scopes. No condition.
-/
import Derived.Test.YtigmgfinjapchaaW3
set_option linter.unusedVariables false
set_option linter.unusedSimpArgs false
namespace Go.Proofs.Ytigmgfinjapchaa
open Go.RowKit

def Asc (l : List Int) : Prop := (∀ x ∈ l, 1 ≤ x ∧ x ≤ 99999) ∧ l.Pairwise (· < ·)
instance (l : List Int) : Decidable (Asc l) := by unfold Asc; infer_instance
def ssB (l : List Int) : Bool := decide (Asc l)
theorem ssB_iff (l : List Int) : ssB l = true ↔ Asc l := by simp [ssB]
theorem ssB_not (l : List Int) : ssB l = false ↔ ¬ Asc l := by simp [ssB]
theorem kindS_zero (x : Int) : kindS x = 0 ↔ ¬ (1 ≤ x ∧ x ≤ 99999) := by
  unfold kindS
  constructor
  · intro h; split at h
    · omega
    · split at h
      · omega
      · split at h <;> omega
  · intro h; rw [if_pos (by omega)]

theorem asc_get {l : List Int} (h : Asc l) {k : Nat} {x : Int} (hx : l[k]? = some x) : 1 ≤ x ∧ x ≤ 99999 := h.1 x (List.mem_of_getElem? hx)
theorem asc_lt {l : List Int} (h : Asc l) {j k : Nat} {x y : Int} (hx : l[k]? = some x) (hy : l[j]? = some y) (hjk : j < k) : y < x := by
  obtain ⟨h1, rfl⟩ := List.getElem?_eq_some_iff.1 hx
  obtain ⟨h2, rfl⟩ := List.getElem?_eq_some_iff.1 hy
  exact List.pairwise_iff_getElem.1 h.2 j k h2 h1 hjk
theorem asc_step {l : List Int} {k : Nat} {x : Int} (h : Asc (l.take k)) (hx : l[k]? = some x) (hr : 1 ≤ x ∧ x ≤ 99999) (hl : ∀ y, 0 < k → l[k - 1]? = some y → y < x) : Asc (l.take (k + 1)) := by
  rw [take_snoc hx]
  refine ⟨?_, ?_⟩
  · intro y hy
    rcases List.mem_append.1 hy with hy | hy
    · exact h.1 y hy
    · simp at hy; subst hy; exact hr
  · rw [List.pairwise_append]
    refine ⟨h.2, by simp, ?_⟩
    intro y hy z hz
    simp at hz; subst hz
    obtain ⟨j, hj, rfl⟩ := List.mem_iff_getElem.1 hy
    have hk := (List.getElem?_eq_some_iff.1 hx).1
    have hj' : j < k := by simp at hj; omega
    have hlast : l[k - 1]? = some (l[k - 1]'(by omega)) := List.getElem?_eq_getElem (by omega)
    have h2 := hl _ (by omega) hlast
    by_cases e : j = k - 1
    · subst e; simpa using h2
    · have h3 : (l.take k)[j] < (l.take k)[k - 1]'(by simp; omega) := List.pairwise_iff_getElem.1 h.2 j (k - 1) hj (by simp; omega) (by omega)
      simp at h3 ⊢
      omega
theorem asc_bad1 {l : List Int} {k : Nat} {x : Int} (hx : l[k]? = some x) (h : kindS x = 0) : ¬ Asc l := fun ha => (kindS_zero x).1 h (asc_get ha hx)
theorem asc_bad2 {l : List Int} {k : Nat} {x y : Int} (hx : l[k + 1]? = some x) (hy : l[k]? = some y) (h : x ≤ y) : ¬ Asc l := fun ha => by have := asc_lt ha hx hy (by omega); omega
theorem asc_good {l : List Int} {k : Nat} {x : Int} (h : Asc (l.take (k + 1))) (hx : l[k + 1]? = some x) (hr : ¬ kindS x = 0) {y : Int} (hy : l[k]? = some y) (hl : y < x) : Asc (l.take (k + 1 + 1)) :=
  asc_step h hx (Classical.not_not.1 fun hn => hr ((kindS_zero x).2 hn)) (fun z _ hz => by
    rw [show k + 1 - 1 = k by omega, hy] at hz; obtain rfl := Option.some.inj hz; exact hl)
theorem asc_first {l : List Int} {x : Int} (hx : l[0]? = some x) (hr : ¬ kindS x = 0) : Asc (l.take (0 + 1)) :=
  asc_step ⟨by simp, by simp⟩ hx (Classical.not_not.1 fun hn => hr ((kindS_zero x).2 hn)) (fun z h _ => by omega)

theorem sIsScopeSet_calls (a : Option Addr) (cap : Nat) (l : List Int) (w : World) (h : (M.sl a cap 1 3 (intM l)).In w) :
    Calls Try.prog 92 #[.slice a l.length cap] w (Ret (.bool (ssB l)) w) := by
  have hl := Ints.len h
  have H := Lib.hid h; clear h
  go_enter Try.func92, Try.ntmps92
  go_wp2
  go_loopw [7] (fun i wr => ∃ k : Nat, k ≤ l.length ∧ i = .int .i64 k ∧ Asc (l.take k) ∧ Below w.heap.size w wr ∧ w.heap.size ≤ wr.heap.size) (fun i _ => l.length - (intOf i).toNat)
  case atStart => exact ⟨0, Nat.zero_le _, rfl, ⟨by simp, by simp⟩, Below.refl _ _, Nat.le_refl _⟩
  case round =>
    obtain ⟨k, hk, rfl, hno, hb, hsz⟩ := hrel
    have HNO := Lib.hid hno; clear hno
    by_cases hlt : k < l.length
    · obtain ⟨b, off, x, rfl, hx, hc⟩ := Ints.elem (H.out.below hb) k hlt
      have HX := Lib.hid hx; clear hx
      cases k with
      | zero =>
        have hc0 : wr.cell? ⟨b, off, none⟩ = some (.int .i64 x) := by simpa using hc
        clear hc
        by_cases hz : kindS x = 0
        · have hz' : (kindS x == 0) = true := by simp [hz]
          have HZ := Lib.hid hz; clear hz
          go_wp2_with (go_at_call 128; refine (sKindOfScope_calls _ _).mono ?_; rintro e w1 ⟨rfl, hb1⟩)
          go_ret
          exact ⟨ret_b ((ssB_not _).2 (asc_bad1 HX.out HZ.out)).symm, hb.trans (hb1.mono hsz)⟩
        · have hz' : (kindS x == 0) = false := by simp [hz]
          have HZ := Lib.hid hz; clear hz
          go_wp2_with (go_at_call 128; refine (sKindOfScope_calls _ _).mono ?_; rintro e w1 ⟨rfl, hb1⟩)
          have hnx := asc_first HX.out HZ.out
          have hz1 := hb1.size
          go_roundw
          case rel => exact ⟨0 + 1, by omega, by go_num, hnx, hb.trans (hb1.mono hsz), by omega⟩
          case measure => simp [intOf]; omega
      | succ k =>
        obtain ⟨b', off', y, hbo, hy, hc2⟩ := Ints.elem (H.out.below hb) k (by omega)
        simp only [Option.some.injEq, Addr.mk.injEq, and_true] at hbo
        obtain ⟨rfl, rfl⟩ := hbo
        have hbl := World.block_lt_of_cell? wr _ hc2
        have HY := Lib.hid hy; clear hy
        by_cases hz : kindS x = 0
        · have hz' : (kindS x == 0) = true := by simp [hz]
          have HZ := Lib.hid hz; clear hz
          go_wp2_with (go_at_call 128; refine (sKindOfScope_calls _ _).mono ?_; rintro e w1 ⟨rfl, hb1⟩)
          go_ret
          exact ⟨ret_b ((ssB_not _).2 (asc_bad1 HX.out HZ.out)).symm, hb.trans (hb1.mono hsz)⟩
        · have hz' : (kindS x == 0) = false := by simp [hz]
          have HZ := Lib.hid hz; clear hz
          go_wp2_with (go_at_call 128; refine (sKindOfScope_calls _ _).mono ?_; rintro e w1 ⟨rfl, hb1⟩; obtain ⟨hc1, hf1⟩ := bcell hb1)
          all_goals have hz1 := hb1.size
          · go_ret
            exact ⟨ret_b ((ssB_not _).2 (asc_bad2 HX.out HY.out ‹_›)).symm, hb.trans (hb1.mono hsz)⟩
          · have hnx := asc_good HNO.out HX.out HZ.out HY.out (by assumption)
            go_roundw
            case rel => exact ⟨k + 1 + 1, by omega, by go_num, hnx, hb.trans (hb1.mono hsz), by omega⟩
            case measure => simp [intOf]; omega
    · go_wp2
      go_ret
      have hk2 : k = l.length := by omega
      subst hk2
      have h := HNO.out
      rw [List.take_length] at h
      exact ⟨ret_b ((ssB_iff _).2 h).symm, hb⟩

theorem RetEq.ret {v : Value} {w : World} {e : Ending} {w' : World} (h : RetEq v w e w') : Ret v w e w' := ⟨h.1, h.2 ▸ Below.refl _ _⟩
theorem iKindOfScope_ret (n : Int) (w : World) : Calls Try.prog 33 #[.int .i64 n] w (Ret (.int .i64 (kindS n)) w) := (iKindOfScope_calls n w).mono fun _ _ h => h.ret

theorem iIsScopeSet_calls (a : Option Addr) (cap : Nat) (l : List Int) (w : World) (h : (M.sl a cap 1 3 (intM l)).In w) :
    Calls Try.prog 85 #[.slice a l.length cap] w (Ret (.bool (ssB l)) w) := by
  have hl := Ints.len h
  have H := Lib.hid h; clear h
  go_enter Try.func85, Try.ntmps85
  go_wp2
  go_loopw [7] (fun i wr => ∃ k : Nat, k ≤ l.length ∧ i = .int .i64 k ∧ Asc (l.take k) ∧ Below w.heap.size w wr ∧ w.heap.size ≤ wr.heap.size) (fun i _ => l.length - (intOf i).toNat)
  case atStart => exact ⟨0, Nat.zero_le _, rfl, ⟨by simp, by simp⟩, Below.refl _ _, Nat.le_refl _⟩
  case round =>
    obtain ⟨k, hk, rfl, hno, hb, hsz⟩ := hrel
    have HNO := Lib.hid hno; clear hno
    by_cases hlt : k < l.length
    · obtain ⟨b, off, x, rfl, hx, hc⟩ := Ints.elem (H.out.below hb) k hlt
      have HX := Lib.hid hx; clear hx
      cases k with
      | zero =>
        have hc0 : wr.cell? ⟨b, off, none⟩ = some (.int .i64 x) := by simpa using hc
        clear hc
        by_cases hz : kindS x = 0
        · have hz' : (kindS x == 0) = true := by simp [hz]
          have HZ := Lib.hid hz; clear hz
          go_wp2_with (go_at_call 33; refine (iKindOfScope_ret _ _).mono ?_; rintro e w1 ⟨rfl, hb1⟩)
          go_ret
          exact ⟨ret_b ((ssB_not _).2 (asc_bad1 HX.out HZ.out)).symm, hb.trans (hb1.mono hsz)⟩
        · have hz' : (kindS x == 0) = false := by simp [hz]
          have HZ := Lib.hid hz; clear hz
          go_wp2_with (go_at_call 33; refine (iKindOfScope_ret _ _).mono ?_; rintro e w1 ⟨rfl, hb1⟩)
          have hnx := asc_first HX.out HZ.out
          have hz1 := hb1.size
          go_roundw
          case rel => exact ⟨0 + 1, by omega, by go_num, hnx, hb.trans (hb1.mono hsz), by omega⟩
          case measure => simp [intOf]; omega
      | succ k =>
        obtain ⟨b', off', y, hbo, hy, hc2⟩ := Ints.elem (H.out.below hb) k (by omega)
        simp only [Option.some.injEq, Addr.mk.injEq, and_true] at hbo
        obtain ⟨rfl, rfl⟩ := hbo
        have hbl := World.block_lt_of_cell? wr _ hc2
        have HY := Lib.hid hy; clear hy
        by_cases hz : kindS x = 0
        · have hz' : (kindS x == 0) = true := by simp [hz]
          have HZ := Lib.hid hz; clear hz
          go_wp2_with (go_at_call 33; refine (iKindOfScope_ret _ _).mono ?_; rintro e w1 ⟨rfl, hb1⟩)
          go_ret
          exact ⟨ret_b ((ssB_not _).2 (asc_bad1 HX.out HZ.out)).symm, hb.trans (hb1.mono hsz)⟩
        · have hz' : (kindS x == 0) = false := by simp [hz]
          have HZ := Lib.hid hz; clear hz
          go_wp2_with (go_at_call 33; refine (iKindOfScope_ret _ _).mono ?_; rintro e w1 ⟨rfl, hb1⟩; obtain ⟨hc1, hf1⟩ := bcell hb1)
          all_goals have hz1 := hb1.size
          · go_ret
            exact ⟨ret_b ((ssB_not _).2 (asc_bad2 HX.out HY.out ‹_›)).symm, hb.trans (hb1.mono hsz)⟩
          · have hnx := asc_good HNO.out HX.out HZ.out HY.out (by assumption)
            go_roundw
            case rel => exact ⟨k + 1 + 1, by omega, by go_num, hnx, hb.trans (hb1.mono hsz), by omega⟩
            case measure => simp [intOf]; omega
    · go_wp2
      go_ret
      have hk2 : k = l.length := by omega
      subst hk2
      have h := HNO.out
      rw [List.take_length] at h
      exact ⟨ret_b ((ssB_iff _).2 h).symm, hb⟩
end Go.Proofs.Ytigmgfinjapchaa
