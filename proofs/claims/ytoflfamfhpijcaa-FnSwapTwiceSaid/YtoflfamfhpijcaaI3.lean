/-
  Walks: WithScope. No condition.
-/
import Derived.Test.YtoflfamfhpijcaaI2
set_option linter.unusedVariables false
set_option linter.unusedSimpArgs false
set_option maxRecDepth 100000
namespace Go.Proofs.Ytoflfamfhpijcaa
open Go.RowKit

def putStep (n : Int) (st : List Int × Bool) (x : Int) : List Int × Bool :=
  if st.2 = false ∧ n ≤ x then ((if n < x then st.1 ++ [n] else st.1) ++ [x], true) else (st.1 ++ [x], st.2)
def putSt (n : Int) (l : List Int) : List Int × Bool := l.foldl (putStep n) ([], false)
theorem putSt_succ {n : Int} {l : List Int} {k : Nat} {x : Int} (hx : l[k]? = some x) : putSt n (l.take (k + 1)) = putStep n (putSt n (l.take k)) x := by
  rw [take_snoc hx, putSt, List.foldl_append]; rfl
theorem putStep_length (n : Int) (st : List Int × Bool) (x : Int) : (putStep n st x).1.length ≤ st.1.length + 2 := by
  unfold putStep; split
  · simp only [List.length_append]; split <;> simp <;> omega
  · simp
theorem putSt_take (n : Int) (l : List Int) (k : Nat) (hk : k ≤ l.length) : (putSt n (l.take k)).1.length ≤ 2 * k := by
  induction k with
  | zero => simp [putSt]
  | succ k ih => rw [putSt_succ (List.getElem?_eq_getElem (by omega : k < l.length))]; have := putStep_length n (putSt n (l.take k)) (l[k]'(by omega)); have := ih (by omega); omega
def put (n : Int) (l : List Int) : List Int := if (putSt n l).2 = true then (putSt n l).1 else (putSt n l).1 ++ [n]
theorem put_length (n : Int) (l : List Int) : (put n l).length ≤ 2 * l.length + 1 := by
  have := putSt_take n l l.length (Nat.le_refl _)
  rw [List.take_length] at this
  unfold put; split
  · omega
  · simp; omega
def withS (l : List Int) (n : Int) : List Int := if ssB l = true ∧ ¬ kindS n = 0 then put n l else l
theorem withS_length (l : List Int) (n : Int) : (withS l n).length ≤ 2 * l.length + 1 := by
  unfold withS; split
  · exact put_length n l
  · omega

theorem sPut_calls (a : Option Addr) (cap : Nat) (l : List Int) (n : Int) (w : World) (h : (M.sl a cap 1 3 (intM l)).In w) (hB : l.length ≤ 4000000) :
    Calls Try.prog 131 #[.slice a l.length cap, .int .i64 n] w (RetInts (put n l) w) := by
  have hl := Ints.len h
  have H := Lib.hid h; clear h
  go_enter Try.func131, Try.ntmps131
  go_wp2_with fail
  go_loopw [5,6,12] (fun t d i wr => ∃ (k : Nat) (a' : Option Addr) (cap' : Nat), k ≤ l.length ∧ i = .int .i64 k ∧ t = .slice a' (putSt n (l.take k)).1.length cap' ∧ d = .bool (putSt n (l.take k)).2 ∧ (M.sl a' cap' 1 3 (intM (putSt n (l.take k)).1)).Mine wr w.heap.size ∧ Below w.heap.size w wr ∧ w.heap.size ≤ wr.heap.size) (fun _ _ i _ => l.length - (intOf i).toNat)
  case atStart => exact ⟨0, _, _, Nat.zero_le _, rfl, rfl, rfl, by first | exact Ints.lit _ _ (Nat.le_refl _) | exact Ints.nil _ _, by (repeat (first | with_reducible assumption | with_reducible exact Below.refl _ _ | with_reducible refine Below.drew ?_ | with_reducible refine belowDrewN ?_ _ | ((with_reducible refine Below.setCell ?_ ?_ _); rotate_left; focus (first | omega | (simp; done) | (simp; omega))) | ((with_reducible refine Below.alloc ?_ ?_ _); rotate_left; focus (first | omega | (simp; done) | (simp; omega))))), by simp⟩
  case round =>
    obtain ⟨k, a', cap', hk, rfl, rfl, rfl, hm', hb, hsz⟩ := hrel
    have hnt := putSt_take n l k hk
    by_cases hlt : k < l.length
    · obtain ⟨b, off, x, rfl, hx, hc⟩ := Ints.elem (H.out.below hb) k hlt
      have hst := putSt_succ (n := n) hx
      generalize hgs : putSt n (l.take k) = st at *
      obtain ⟨o, dn⟩ := st
      simp only at hnt hm' hst
      have HX := Lib.hid hx; clear hx; have HM' := Lib.hid hm'; clear hm'; have HGS := Lib.hid hgs; clear hgs
      by_cases hd : dn = false ∧ n ≤ x
      · obtain ⟨rfl, hnx⟩ := hd
        have hge : n ≤ x := hnx
        by_cases hgt : n < x
        · have hfin : putSt n (l.take (k + 1)) = (o ++ [n] ++ [x], true) := by rw [hst]; simp [putStep, hnx, hgt]
          have HST := Lib.hid hst; clear hst; have HFIN := Lib.hid hfin; clear hfin
          go_wp2_with (at_builtin; refine wpInts_push rfl _ _ 40 rfl 3 _ Try.underlying40 infoI rfl w.heap.size a' cap' o rfl HM'.out hsz (by (repeat (first | with_reducible assumption | with_reducible exact Below.refl _ _ | with_reducible refine Below.drew ?_ | with_reducible refine belowDrewN ?_ _ | ((with_reducible refine Below.setCell ?_ ?_ _); rotate_left; focus (first | omega | (simp; done) | (simp; omega))) | ((with_reducible refine Below.alloc ?_ ?_ _); rotate_left; focus (first | omega | (simp; done) | (simp; omega)))))) n rfl (by omega) ?_)
          intro a3 cap3 w3 hm3 hb3 hz3
          have HM3 := Lib.hid hm3; clear hm3
          have hb3' := hb3
          go_wp2_with (at_builtin; refine wpInts_push rfl _ _ 40 rfl 3 _ Try.underlying40 infoI rfl w.heap.size a3 cap3 (o ++ [n]) (by simp [go_sem]) HM3.out (by omega) (by (repeat (first | with_reducible assumption | with_reducible exact Below.refl _ _ | with_reducible refine Below.drew ?_ | with_reducible refine belowDrewN ?_ _ | ((with_reducible refine Below.setCell ?_ ?_ _); rotate_left; focus (first | omega | (simp; done) | (simp; omega))) | ((with_reducible refine Below.alloc ?_ ?_ _); rotate_left; focus (first | omega | (simp; done) | (simp; omega)))))) x rfl (by simp; omega) ?_)
          intro a4 cap4 w4 hm4 hb4 hz4
          have HM4 := Lib.hid hm4; clear hm4
          go_wp2_with fail
          go_roundw
          case rel => exact ⟨k + 1, a4, cap4, by omega, by go_num, by simp [HFIN.out], by simp [HFIN.out], by rw [HFIN.out]; simpa using HM4.out, by (repeat (first | with_reducible assumption | with_reducible exact Below.refl _ _ | with_reducible refine Below.drew ?_ | with_reducible refine belowDrewN ?_ _ | ((with_reducible refine Below.setCell ?_ ?_ _); rotate_left; focus (first | omega | (simp; done) | (simp; omega))) | ((with_reducible refine Below.alloc ?_ ?_ _); rotate_left; focus (first | omega | (simp; done) | (simp; omega))) | ((with_reducible refine Below.trans ?_ (Below.mono hb3 ?_)); rotate_left; focus (first | omega | (simp; done) | (simp; omega))) | ((with_reducible refine Below.trans ?_ (Below.mono hb4 ?_)); rotate_left; focus (first | omega | (simp; done) | (simp; omega))))), by omega⟩
          case measure => simp [intOf]; omega
        · have hxe : x = n := by omega
          subst hxe
          have hfin : putSt x (l.take (k + 1)) = (o ++ [x], true) := by rw [hst]; simp [putStep]
          have HST := Lib.hid hst; clear hst; have HFIN := Lib.hid hfin; clear hfin
          go_wp2_with (at_builtin; refine wpInts_push rfl _ _ 40 rfl 3 _ Try.underlying40 infoI rfl w.heap.size a' cap' o rfl HM'.out hsz (by (repeat (first | with_reducible assumption | with_reducible exact Below.refl _ _ | with_reducible refine Below.drew ?_ | with_reducible refine belowDrewN ?_ _ | ((with_reducible refine Below.setCell ?_ ?_ _); rotate_left; focus (first | omega | (simp; done) | (simp; omega))) | ((with_reducible refine Below.alloc ?_ ?_ _); rotate_left; focus (first | omega | (simp; done) | (simp; omega)))))) x rfl (by omega) ?_)
          intro a3 cap3 w3 hm3 hb3 hz3
          have HM3 := Lib.hid hm3; clear hm3
          go_wp2_with fail
          go_roundw
          case rel => exact ⟨k + 1, a3, cap3, by omega, by go_num, by simp [HFIN.out], by simp [HFIN.out], by rw [HFIN.out]; exact HM3.out, by (repeat (first | with_reducible assumption | with_reducible exact Below.refl _ _ | with_reducible refine Below.drew ?_ | with_reducible refine belowDrewN ?_ _ | ((with_reducible refine Below.setCell ?_ ?_ _); rotate_left; focus (first | omega | (simp; done) | (simp; omega))) | ((with_reducible refine Below.alloc ?_ ?_ _); rotate_left; focus (first | omega | (simp; done) | (simp; omega))) | ((with_reducible refine Below.trans ?_ (Below.mono hb3 ?_)); rotate_left; focus (first | omega | (simp; done) | (simp; omega))))), by omega⟩
          case measure => simp [intOf]; omega
      · have hfin : putSt n (l.take (k + 1)) = (o ++ [x], dn) := by rw [hst]; unfold putStep; rw [if_neg hd]
        have HST := Lib.hid hst; clear hst; have HFIN := Lib.hid hfin; clear hfin
        cases dn with
        | true =>
          go_wp2_with (at_builtin; refine wpInts_push rfl _ _ 40 rfl 3 _ Try.underlying40 infoI rfl w.heap.size a' cap' o rfl HM'.out hsz (by (repeat (first | with_reducible assumption | with_reducible exact Below.refl _ _ | with_reducible refine Below.drew ?_ | with_reducible refine belowDrewN ?_ _ | ((with_reducible refine Below.setCell ?_ ?_ _); rotate_left; focus (first | omega | (simp; done) | (simp; omega))) | ((with_reducible refine Below.alloc ?_ ?_ _); rotate_left; focus (first | omega | (simp; done) | (simp; omega)))))) x rfl (by omega) ?_)
          intro a3 cap3 w3 hm3 hb3 hz3
          have HM3 := Lib.hid hm3; clear hm3
          go_wp2_with fail
          go_roundw
          case rel => exact ⟨k + 1, a3, cap3, by omega, by go_num, by simp [HFIN.out], by simp [HFIN.out], by rw [HFIN.out]; exact HM3.out, by (repeat (first | with_reducible assumption | with_reducible exact Below.refl _ _ | with_reducible refine Below.drew ?_ | with_reducible refine belowDrewN ?_ _ | ((with_reducible refine Below.setCell ?_ ?_ _); rotate_left; focus (first | omega | (simp; done) | (simp; omega))) | ((with_reducible refine Below.alloc ?_ ?_ _); rotate_left; focus (first | omega | (simp; done) | (simp; omega))) | ((with_reducible refine Below.trans ?_ (Below.mono hb3 ?_)); rotate_left; focus (first | omega | (simp; done) | (simp; omega))))), by omega⟩
          case measure => simp [intOf]; omega
        | false =>
          have hxl : x < n := by simp at hd; omega
          clear hd
          go_wp2_with (at_builtin; refine wpInts_push rfl _ _ 40 rfl 3 _ Try.underlying40 infoI rfl w.heap.size a' cap' o rfl HM'.out hsz (by (repeat (first | with_reducible assumption | with_reducible exact Below.refl _ _ | with_reducible refine Below.drew ?_ | with_reducible refine belowDrewN ?_ _ | ((with_reducible refine Below.setCell ?_ ?_ _); rotate_left; focus (first | omega | (simp; done) | (simp; omega))) | ((with_reducible refine Below.alloc ?_ ?_ _); rotate_left; focus (first | omega | (simp; done) | (simp; omega)))))) x rfl (by omega) ?_)
          intro a3 cap3 w3 hm3 hb3 hz3
          have HM3 := Lib.hid hm3; clear hm3
          go_wp2_with fail
          go_roundw
          case rel => exact ⟨k + 1, a3, cap3, by omega, by go_num, by simp [HFIN.out], by simp [HFIN.out], by rw [HFIN.out]; exact HM3.out, by (repeat (first | with_reducible assumption | with_reducible exact Below.refl _ _ | with_reducible refine Below.drew ?_ | with_reducible refine belowDrewN ?_ _ | ((with_reducible refine Below.setCell ?_ ?_ _); rotate_left; focus (first | omega | (simp; done) | (simp; omega))) | ((with_reducible refine Below.alloc ?_ ?_ _); rotate_left; focus (first | omega | (simp; done) | (simp; omega))) | ((with_reducible refine Below.trans ?_ (Below.mono hb3 ?_)); rotate_left; focus (first | omega | (simp; done) | (simp; omega))))), by omega⟩
          case measure => simp [intOf]; omega
    · have hk2 : k = l.length := by omega
      subst hk2
      rw [List.take_length] at *
      have hput : put n l = if (putSt n l).2 = true then (putSt n l).1 else (putSt n l).1 ++ [n] := rfl
      generalize hgs : putSt n l = st at *
      obtain ⟨o, dn⟩ := st
      simp only at hnt hm' hput
      have HM' := Lib.hid hm'; clear hm'; have HGS := Lib.hid hgs; clear hgs
      cases dn with
      | true =>
        rw [if_pos rfl] at hput
        have HPUT := Lib.hid hput; clear hput
        go_wp2_with fail
        go_ret
        rw [HPUT.out]
        exact ⟨_, _, rfl, HM'.out, hb⟩
      | false =>
        rw [if_neg (by decide)] at hput
        have HPUT := Lib.hid hput; clear hput
        go_wp2_with (at_builtin; refine wpInts_push rfl _ _ 40 rfl 3 _ Try.underlying40 infoI rfl w.heap.size a' cap' o rfl HM'.out hsz (by (repeat (first | with_reducible assumption | with_reducible exact Below.refl _ _ | with_reducible refine Below.drew ?_ | with_reducible refine belowDrewN ?_ _ | ((with_reducible refine Below.setCell ?_ ?_ _); rotate_left; focus (first | omega | (simp; done) | (simp; omega))) | ((with_reducible refine Below.alloc ?_ ?_ _); rotate_left; focus (first | omega | (simp; done) | (simp; omega)))))) n rfl (by omega) ?_)
        intro a3 cap3 w3 hm3 hb3 hz3
        have HM3 := Lib.hid hm3; clear hm3
        go_wp2_with fail
        go_ret
        rw [HPUT.out]
        exact ⟨_, _, by simp, HM3.out, by (repeat (first | with_reducible assumption | with_reducible exact Below.refl _ _ | with_reducible refine Below.drew ?_ | with_reducible refine belowDrewN ?_ _ | ((with_reducible refine Below.setCell ?_ ?_ _); rotate_left; focus (first | omega | (simp; done) | (simp; omega))) | ((with_reducible refine Below.alloc ?_ ?_ _); rotate_left; focus (first | omega | (simp; done) | (simp; omega))) | ((with_reducible refine Below.trans ?_ (Below.mono hb3 ?_)); rotate_left; focus (first | omega | (simp; done) | (simp; omega)))))⟩
theorem iPut_calls (a : Option Addr) (cap : Nat) (l : List Int) (n : Int) (w : World) (h : (M.sl a cap 1 3 (intM l)).In w) (hB : l.length ≤ 4000000) :
    Calls Try.prog 142 #[.slice a l.length cap, .int .i64 n] w (RetInts (put n l) w) := by
  have hl := Ints.len h
  have H := Lib.hid h; clear h
  go_enter Try.func142, Try.ntmps142
  go_wp2_with fail
  go_loopw [5,6,11] (fun t d i wr => ∃ (k : Nat) (a' : Option Addr) (cap' : Nat), k ≤ l.length ∧ i = .int .i64 k ∧ t = .slice a' (putSt n (l.take k)).1.length cap' ∧ d = .bool (putSt n (l.take k)).2 ∧ (M.sl a' cap' 1 3 (intM (putSt n (l.take k)).1)).Mine wr w.heap.size ∧ Below w.heap.size w wr ∧ w.heap.size ≤ wr.heap.size) (fun _ _ i _ => l.length - (intOf i).toNat)
  case atStart => exact ⟨0, _, _, Nat.zero_le _, rfl, rfl, rfl, by first | exact Ints.lit _ _ (Nat.le_refl _) | exact Ints.nil _ _, by (repeat (first | with_reducible assumption | with_reducible exact Below.refl _ _ | with_reducible refine Below.drew ?_ | with_reducible refine belowDrewN ?_ _ | ((with_reducible refine Below.setCell ?_ ?_ _); rotate_left; focus (first | omega | (simp; done) | (simp; omega))) | ((with_reducible refine Below.alloc ?_ ?_ _); rotate_left; focus (first | omega | (simp; done) | (simp; omega))))), by simp⟩
  case round =>
    obtain ⟨k, a', cap', hk, rfl, rfl, rfl, hm', hb, hsz⟩ := hrel
    have hnt := putSt_take n l k hk
    by_cases hlt : k < l.length
    · obtain ⟨b, off, x, rfl, hx, hc⟩ := Ints.elem (H.out.below hb) k hlt
      have hst := putSt_succ (n := n) hx
      generalize hgs : putSt n (l.take k) = st at *
      obtain ⟨o, dn⟩ := st
      simp only at hnt hm' hst
      have HX := Lib.hid hx; clear hx; have HM' := Lib.hid hm'; clear hm'; have HGS := Lib.hid hgs; clear hgs
      by_cases hd : dn = false ∧ n ≤ x
      · obtain ⟨rfl, hnx⟩ := hd
        have hge : n ≤ x := hnx
        by_cases hgt : n < x
        · have hfin : putSt n (l.take (k + 1)) = (o ++ [n] ++ [x], true) := by rw [hst]; simp [putStep, hnx, hgt]
          have HST := Lib.hid hst; clear hst; have HFIN := Lib.hid hfin; clear hfin
          go_wp2_with (at_builtin; refine wpInts_push rfl _ _ 40 rfl 3 _ Try.underlying40 infoI rfl w.heap.size a' cap' o rfl HM'.out hsz (by (repeat (first | with_reducible assumption | with_reducible exact Below.refl _ _ | with_reducible refine Below.drew ?_ | with_reducible refine belowDrewN ?_ _ | ((with_reducible refine Below.setCell ?_ ?_ _); rotate_left; focus (first | omega | (simp; done) | (simp; omega))) | ((with_reducible refine Below.alloc ?_ ?_ _); rotate_left; focus (first | omega | (simp; done) | (simp; omega)))))) n rfl (by omega) ?_)
          intro a3 cap3 w3 hm3 hb3 hz3
          have HM3 := Lib.hid hm3; clear hm3
          have hb3' := hb3
          go_wp2_with (at_builtin; refine wpInts_push rfl _ _ 40 rfl 3 _ Try.underlying40 infoI rfl w.heap.size a3 cap3 (o ++ [n]) (by simp [go_sem]) HM3.out (by omega) (by (repeat (first | with_reducible assumption | with_reducible exact Below.refl _ _ | with_reducible refine Below.drew ?_ | with_reducible refine belowDrewN ?_ _ | ((with_reducible refine Below.setCell ?_ ?_ _); rotate_left; focus (first | omega | (simp; done) | (simp; omega))) | ((with_reducible refine Below.alloc ?_ ?_ _); rotate_left; focus (first | omega | (simp; done) | (simp; omega)))))) x rfl (by simp; omega) ?_)
          intro a4 cap4 w4 hm4 hb4 hz4
          have HM4 := Lib.hid hm4; clear hm4
          go_wp2_with fail
          go_roundw
          case rel => exact ⟨k + 1, a4, cap4, by omega, by go_num, by simp [HFIN.out], by simp [HFIN.out], by rw [HFIN.out]; simpa using HM4.out, by (repeat (first | with_reducible assumption | with_reducible exact Below.refl _ _ | with_reducible refine Below.drew ?_ | with_reducible refine belowDrewN ?_ _ | ((with_reducible refine Below.setCell ?_ ?_ _); rotate_left; focus (first | omega | (simp; done) | (simp; omega))) | ((with_reducible refine Below.alloc ?_ ?_ _); rotate_left; focus (first | omega | (simp; done) | (simp; omega))) | ((with_reducible refine Below.trans ?_ (Below.mono hb3 ?_)); rotate_left; focus (first | omega | (simp; done) | (simp; omega))) | ((with_reducible refine Below.trans ?_ (Below.mono hb4 ?_)); rotate_left; focus (first | omega | (simp; done) | (simp; omega))))), by omega⟩
          case measure => simp [intOf]; omega
        · have hxe : x = n := by omega
          subst hxe
          have hfin : putSt x (l.take (k + 1)) = (o ++ [x], true) := by rw [hst]; simp [putStep]
          have HST := Lib.hid hst; clear hst; have HFIN := Lib.hid hfin; clear hfin
          go_wp2_with (at_builtin; refine wpInts_push rfl _ _ 40 rfl 3 _ Try.underlying40 infoI rfl w.heap.size a' cap' o rfl HM'.out hsz (by (repeat (first | with_reducible assumption | with_reducible exact Below.refl _ _ | with_reducible refine Below.drew ?_ | with_reducible refine belowDrewN ?_ _ | ((with_reducible refine Below.setCell ?_ ?_ _); rotate_left; focus (first | omega | (simp; done) | (simp; omega))) | ((with_reducible refine Below.alloc ?_ ?_ _); rotate_left; focus (first | omega | (simp; done) | (simp; omega)))))) x rfl (by omega) ?_)
          intro a3 cap3 w3 hm3 hb3 hz3
          have HM3 := Lib.hid hm3; clear hm3
          go_wp2_with fail
          go_roundw
          case rel => exact ⟨k + 1, a3, cap3, by omega, by go_num, by simp [HFIN.out], by simp [HFIN.out], by rw [HFIN.out]; exact HM3.out, by (repeat (first | with_reducible assumption | with_reducible exact Below.refl _ _ | with_reducible refine Below.drew ?_ | with_reducible refine belowDrewN ?_ _ | ((with_reducible refine Below.setCell ?_ ?_ _); rotate_left; focus (first | omega | (simp; done) | (simp; omega))) | ((with_reducible refine Below.alloc ?_ ?_ _); rotate_left; focus (first | omega | (simp; done) | (simp; omega))) | ((with_reducible refine Below.trans ?_ (Below.mono hb3 ?_)); rotate_left; focus (first | omega | (simp; done) | (simp; omega))))), by omega⟩
          case measure => simp [intOf]; omega
      · have hfin : putSt n (l.take (k + 1)) = (o ++ [x], dn) := by rw [hst]; unfold putStep; rw [if_neg hd]
        have HST := Lib.hid hst; clear hst; have HFIN := Lib.hid hfin; clear hfin
        cases dn with
        | true =>
          go_wp2_with (at_builtin; refine wpInts_push rfl _ _ 40 rfl 3 _ Try.underlying40 infoI rfl w.heap.size a' cap' o rfl HM'.out hsz (by (repeat (first | with_reducible assumption | with_reducible exact Below.refl _ _ | with_reducible refine Below.drew ?_ | with_reducible refine belowDrewN ?_ _ | ((with_reducible refine Below.setCell ?_ ?_ _); rotate_left; focus (first | omega | (simp; done) | (simp; omega))) | ((with_reducible refine Below.alloc ?_ ?_ _); rotate_left; focus (first | omega | (simp; done) | (simp; omega)))))) x rfl (by omega) ?_)
          intro a3 cap3 w3 hm3 hb3 hz3
          have HM3 := Lib.hid hm3; clear hm3
          go_wp2_with fail
          go_roundw
          case rel => exact ⟨k + 1, a3, cap3, by omega, by go_num, by simp [HFIN.out], by simp [HFIN.out], by rw [HFIN.out]; exact HM3.out, by (repeat (first | with_reducible assumption | with_reducible exact Below.refl _ _ | with_reducible refine Below.drew ?_ | with_reducible refine belowDrewN ?_ _ | ((with_reducible refine Below.setCell ?_ ?_ _); rotate_left; focus (first | omega | (simp; done) | (simp; omega))) | ((with_reducible refine Below.alloc ?_ ?_ _); rotate_left; focus (first | omega | (simp; done) | (simp; omega))) | ((with_reducible refine Below.trans ?_ (Below.mono hb3 ?_)); rotate_left; focus (first | omega | (simp; done) | (simp; omega))))), by omega⟩
          case measure => simp [intOf]; omega
        | false =>
          have hxl : x < n := by simp at hd; omega
          clear hd
          go_wp2_with (at_builtin; refine wpInts_push rfl _ _ 40 rfl 3 _ Try.underlying40 infoI rfl w.heap.size a' cap' o rfl HM'.out hsz (by (repeat (first | with_reducible assumption | with_reducible exact Below.refl _ _ | with_reducible refine Below.drew ?_ | with_reducible refine belowDrewN ?_ _ | ((with_reducible refine Below.setCell ?_ ?_ _); rotate_left; focus (first | omega | (simp; done) | (simp; omega))) | ((with_reducible refine Below.alloc ?_ ?_ _); rotate_left; focus (first | omega | (simp; done) | (simp; omega)))))) x rfl (by omega) ?_)
          intro a3 cap3 w3 hm3 hb3 hz3
          have HM3 := Lib.hid hm3; clear hm3
          go_wp2_with fail
          go_roundw
          case rel => exact ⟨k + 1, a3, cap3, by omega, by go_num, by simp [HFIN.out], by simp [HFIN.out], by rw [HFIN.out]; exact HM3.out, by (repeat (first | with_reducible assumption | with_reducible exact Below.refl _ _ | with_reducible refine Below.drew ?_ | with_reducible refine belowDrewN ?_ _ | ((with_reducible refine Below.setCell ?_ ?_ _); rotate_left; focus (first | omega | (simp; done) | (simp; omega))) | ((with_reducible refine Below.alloc ?_ ?_ _); rotate_left; focus (first | omega | (simp; done) | (simp; omega))) | ((with_reducible refine Below.trans ?_ (Below.mono hb3 ?_)); rotate_left; focus (first | omega | (simp; done) | (simp; omega))))), by omega⟩
          case measure => simp [intOf]; omega
    · have hk2 : k = l.length := by omega
      subst hk2
      rw [List.take_length] at *
      have hput : put n l = if (putSt n l).2 = true then (putSt n l).1 else (putSt n l).1 ++ [n] := rfl
      generalize hgs : putSt n l = st at *
      obtain ⟨o, dn⟩ := st
      simp only at hnt hm' hput
      have HM' := Lib.hid hm'; clear hm'; have HGS := Lib.hid hgs; clear hgs
      cases dn with
      | true =>
        rw [if_pos rfl] at hput
        have HPUT := Lib.hid hput; clear hput
        go_wp2_with fail
        go_ret
        rw [HPUT.out]
        exact ⟨_, _, rfl, HM'.out, hb⟩
      | false =>
        rw [if_neg (by decide)] at hput
        have HPUT := Lib.hid hput; clear hput
        go_wp2_with (at_builtin; refine wpInts_push rfl _ _ 40 rfl 3 _ Try.underlying40 infoI rfl w.heap.size a' cap' o rfl HM'.out hsz (by (repeat (first | with_reducible assumption | with_reducible exact Below.refl _ _ | with_reducible refine Below.drew ?_ | with_reducible refine belowDrewN ?_ _ | ((with_reducible refine Below.setCell ?_ ?_ _); rotate_left; focus (first | omega | (simp; done) | (simp; omega))) | ((with_reducible refine Below.alloc ?_ ?_ _); rotate_left; focus (first | omega | (simp; done) | (simp; omega)))))) n rfl (by omega) ?_)
        intro a3 cap3 w3 hm3 hb3 hz3
        have HM3 := Lib.hid hm3; clear hm3
        go_wp2_with fail
        go_ret
        rw [HPUT.out]
        exact ⟨_, _, by simp, HM3.out, by (repeat (first | with_reducible assumption | with_reducible exact Below.refl _ _ | with_reducible refine Below.drew ?_ | with_reducible refine belowDrewN ?_ _ | ((with_reducible refine Below.setCell ?_ ?_ _); rotate_left; focus (first | omega | (simp; done) | (simp; omega))) | ((with_reducible refine Below.alloc ?_ ?_ _); rotate_left; focus (first | omega | (simp; done) | (simp; omega))) | ((with_reducible refine Below.trans ?_ (Below.mono hb3 ?_)); rotate_left; focus (first | omega | (simp; done) | (simp; omega)))))⟩
end Go.Proofs.Ytoflfamfhpijcaa
