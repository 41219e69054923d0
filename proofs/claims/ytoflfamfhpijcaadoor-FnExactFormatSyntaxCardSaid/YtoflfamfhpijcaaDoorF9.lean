/-
  Walks: the text of scopes. Condition: the library's table of powers of ten reads as laid.
-/
import Derived.Test.YtoflfamfhpijcaaDoorF7
set_option linter.unusedVariables false
set_option linter.unusedSimpArgs false
set_option maxRecDepth 100000
namespace Go.Proofs.YtoflfamfhpijcaaDoor
open Go.RowKit

/-- the text of scopes -/
def scT (x : List Int) : List UInt8 := if x.isEmpty then [] else 123 :: (joinB [44] (x.map Lib.itoa) ++ [125])
theorem scT_nil : scT [] = [] := rfl
theorem scT_cons {x : List Int} (h : x.isEmpty = false) : scT x = 123 :: (joinB [44] (x.map Lib.itoa) ++ [125]) := by unfold scT; rw [h]; rfl
theorem map_take_snoc {x : List Int} {j : Nat} {n : Int} (h : x[j]? = some n) : (x.take (j + 1)).map Lib.itoa = (x.take j).map Lib.itoa ++ [Lib.itoa n] := by
  rw [take_snoc h, List.map_append]; rfl
theorem itoas_sum : ∀ (x : List Int), (∀ z ∈ x, I64 z) → ((x.map Lib.itoa).map fun y => y.length + 1).sum ≤ 22 * x.length
  | [], _ => by simp
  | z :: r, h => by
    have h1 := itoas_sum r fun y hy => h y (List.mem_cons_of_mem _ hy)
    have h2 := h z (List.mem_cons_self ..)
    have h3 := Lib.itoa_length_le z h2.1 h2.2
    simp only [List.map_cons, List.sum_cons, List.length_cons]; omega
theorem scT_length {x : List Int} (h : ∀ z ∈ x, I64 z) : (scT x).length ≤ 22 * x.length + 2 := by
  unfold scT; split
  · simp
  · have h1 := joinB_length [44] (x.map Lib.itoa)
    have h2 := itoas_sum x h
    simp only [List.length_singleton] at h1
    simp only [List.length_cons, List.length_append, List.length_nil]; omega
/-- what stands before the next scope -/
def scP (l : List UInt8) (x : List Int) : List UInt8 := if x.isEmpty then l else l ++ 123 :: joinB [44] (x.map Lib.itoa)
theorem scP_nil (l : List UInt8) : scP l [] = l := rfl
theorem scP_zero (l : List UInt8) {x : List Int} {n : Int} (h : x[0]? = some n) : scP l (x.take (0 + 1)) = (l ++ [123]) ++ Lib.itoa n := by
  have h1 := take_snoc h
  rw [List.take_zero, List.nil_append] at h1
  rw [h1]; simp [scP, joinB]
theorem scP_step (l : List UInt8) {x : List Int} {j : Nat} {n : Int} (hj : 0 < j) (h : x[j]? = some n) : scP l (x.take (j + 1)) = ((scP l (x.take j)) ++ [44]) ++ Lib.itoa n := by
  have hne : (x.take j).isEmpty = false := by
    cases x with
    | nil => simp at h
    | cons y r => cases j with
      | zero => omega
      | succ j => simp
  have hne2 : ((x.take j).map Lib.itoa).isEmpty = false := by simpa using hne
  have hne3 : (x.take (j + 1)).isEmpty = false := by rw [take_snoc h]; simp
  unfold scP
  rw [hne, hne3]
  simp only [Bool.false_eq_true, if_false]
  rw [map_take_snoc h, joinB_snoc, hne2]; simp
theorem scP_end (l : List UInt8) {x : List Int} (h : x.isEmpty = false) : l ++ scT x = scP l x ++ [125] := by
  rw [scT_cons h]; unfold scP; rw [h]; simp
theorem scP_length (l : List UInt8) {x : List Int} (h : ∀ z ∈ x, I64 z) : (scP l x).length ≤ l.length + 22 * x.length + 1 := by
  unfold scP; split
  · omega
  · have h1 := joinB_length [44] (x.map Lib.itoa)
    have h2 := itoas_sum x h
    simp only [List.length_singleton] at h1
    simp only [List.length_cons, List.length_append]; omega
set_option maxHeartbeats 1000000 in
theorem l2Scopes_calls (xa : Option Addr) (xc : Nat) (x : List Int) (w : World) (hB : x.length ≤ 4000000) (hw : ∀ z ∈ x, I64 z) (hx : (M.sl xa xc 1 3 (intM x)).In w) :
    Calls Tryd.prog 67 #[.slice xa x.length xc] w (Ret (.string ⟨(scT x).toArray⟩) w) := by
  have hxl := Ints.len hx
  cases hem : x.isEmpty with
  | true =>
    obtain rfl : x = [] := List.isEmpty_iff.1 hem
    have HX := Lib.hid hx; clear hx; have HEM := Lib.hid hem; clear hem; have HW := Lib.hid hw; clear hw
    go_enter Tryd.func67, Tryd.ntmps67
    go_wp2_with fail
    go_ret
    exact ⟨rfl, by (repeat (first | with_reducible assumption | with_reducible exact Below.refl _ _ | with_reducible refine Below.drew ?_ | with_reducible refine belowDrewN ?_ _ | ((with_reducible refine Below.setCell ?_ ?_ _); rotate_left; focus (first | omega | (simp; done) | (simp; omega))) | ((with_reducible refine Below.alloc ?_ ?_ _); rotate_left; focus (first | omega | (simp; done) | (simp; omega)))))⟩
  | false =>
    have hpos : x.length ≠ 0 := by intro h; rw [List.length_eq_zero_iff.1 h] at hem; cases hem
    have hpb : ((x.length : Int) == 0) = false := beq_eq_false_iff_ne.2 (by omega)
    have hsc := scT_cons hem
    have hsum := itoas_sum x hw
    have HX := Lib.hid hx; clear hx; have HEM := Lib.hid hem; clear hem; have HW := Lib.hid hw; clear hw; have HSC := Lib.hid hsc; clear hsc; have HSUM := Lib.hid hsum; clear hsum
    go_enter Tryd.func67, Tryd.ntmps67
    go_wp2_with fail
    go_loopw [3, 5, 12] (fun t u i wr => ∃ (j : Nat) (a' : Option Addr) (cap' : Nat), j ≤ x.length ∧ i = .int .i64 j ∧ t = .slice a' (tx ((x.take j).map Lib.itoa)).length cap' ∧ (M.sl a' cap' 1 9 (strM (tx ((x.take j).map Lib.itoa)))).Mine wr w.heap.size ∧ Below w.heap.size w wr) (fun _ _ i _ => x.length - (intOf i).toNat)
    case atStart => exact ⟨0, some ⟨w.heap.size, 0, none⟩, 0, Nat.zero_le _, rfl, by simp [tx], by rw [List.take_zero]; have h := Strs.lit w w.heap.size (Nat.le_refl _); simpa [tx] using h, by (repeat (first | with_reducible assumption | with_reducible exact Below.refl _ _ | with_reducible refine Below.drew ?_ | with_reducible refine belowDrewN ?_ _ | ((with_reducible refine Below.setCell ?_ ?_ _); rotate_left; focus (first | omega | (simp; done) | (simp; omega))) | ((with_reducible refine Below.alloc ?_ ?_ _); rotate_left; focus (first | omega | (simp; done) | (simp; omega)))))⟩
    case round =>
      obtain ⟨j, a', cap', hj, rfl, rfl, hm', hb⟩ := hrel
      have hz := hb.size
      by_cases hlt : j < x.length
      · obtain ⟨bb, off, n, rfl, hd, hc⟩ := Ints.elem (HX.out.below hb) j hlt
        have hn := HW.out n (List.mem_of_getElem? hd)
        have hft := map_take_snoc hd
        have hln : ((x.take j).map Lib.itoa).length ≤ j := by simp; omega
        generalize hcur : (x.take j).map Lib.itoa = cur at *
        have HD := Lib.hid hd; clear hd; have HM' := Lib.hid hm'; clear hm'; have HFT := Lib.hid hft; clear hft; have HCUR := Lib.hid hcur; clear hcur; have HN := Lib.hid hn; clear hn
        go_wp2_with fail
        refine (sFormatNumber_calls n _ HN.out).mono ?_
        rintro e w1 ⟨rfl, hb1⟩
        have htx := tx_length cur
        have hsn := tx_snoc cur (Lib.itoa n)
        have HTX := Lib.hid htx; clear htx; have HSN := Lib.hid hsn; clear hsn; have HLN := Lib.hid hln; clear hln
        go_wp2_with (at_builtin; refine wpStrs_push (wr := wr) rfl _ _ 84 rfl 9 _ Tryd.underlying84 infoS rfl w.heap.size a' cap' (tx cur) rfl HM'.out hz (by (repeat (first | with_reducible assumption | with_reducible exact Below.refl _ _ | with_reducible refine Below.drew ?_ | with_reducible refine belowDrewN ?_ _ | ((with_reducible refine Below.setCell ?_ ?_ _); rotate_left; focus (first | omega | (simp; done) | (simp; omega))) | ((with_reducible refine Below.alloc ?_ ?_ _); rotate_left; focus (first | omega | (simp; done) | (simp; omega))) | ((with_reducible refine Below.trans ?_ (Below.mono hb1 ?_)); rotate_left; focus (first | omega | (simp; done) | (simp; omega)))))) ⟨(Lib.itoa n).toArray⟩ (by simp [go_sem]) (by have := HTX.out; have := HLN.out; omega) ?_)
        intro a3 cap3 w3 hm3 hb3 hz3 hk3
        rw [HSN.out] at hm3
        have hlen : (tx cur).length + 1 = (tx (cur ++ [Lib.itoa n])).length := by simp [tx]
        have HM3 := Lib.hid hm3; clear hm3; have HLEN := Lib.hid hlen; clear hlen
        go_wp2_with fail
        go_roundw
        case rel => exact ⟨j + 1, a3, cap3, by omega, by go_num, by rw [HFT.out, ← HLEN.out], by rw [HFT.out]; exact HM3.out, by (repeat (first | with_reducible assumption | with_reducible exact Below.refl _ _ | with_reducible refine Below.drew ?_ | with_reducible refine belowDrewN ?_ _ | ((with_reducible refine Below.setCell ?_ ?_ _); rotate_left; focus (first | omega | (simp; done) | (simp; omega))) | ((with_reducible refine Below.alloc ?_ ?_ _); rotate_left; focus (first | omega | (simp; done) | (simp; omega))) | ((with_reducible refine Below.trans ?_ (Below.mono hb1 ?_)); rotate_left; focus (first | omega | (simp; done) | (simp; omega))) | ((with_reducible refine Below.trans ?_ (Below.mono hb3 ?_)); rotate_left; focus (first | omega | (simp; done) | (simp; omega)))))⟩
        case measure => simp [intOf]; omega
      · have hk2 : j = x.length := by omega
        subst hk2
        rw [List.take_length] at hm'
        rw [List.take_length]
        have hjl := joinB_length [44] (x.map Lib.itoa)
        simp only [List.length_singleton] at hjl
        have hs2 := HSUM.out
        have hns1 : ¬ (9223372036854775807 < 1 + (joinB [44] (x.map Lib.itoa)).length) := by omega
        have hns2 : ¬ (9223372036854775807 < 1 + (joinB [44] (x.map Lib.itoa)).length + 1) := by omega
        have hbd : ((x.map Lib.itoa).map fun y => y.length + [(44 : UInt8)].length).sum ≤ 1000000000000 := by simp only [List.length_singleton]; omega
        have hwr := baWrap 123 125 (joinB [44] (x.map Lib.itoa))
        generalize hall : x.map Lib.itoa = all at *
        have HM' := Lib.hid hm'; clear hm'; have HBD := Lib.hid hbd; clear hbd; have HWR := Lib.hid hwr; clear hwr; have HJL := Lib.hid hjl; clear hjl; have HS2 := Lib.hid hs2; clear hs2; have HALL := Lib.hid hall; clear hall
        go_wp2_with fail
        refine (l1Join_calls a' cap' all [44] _ (HM'.out.in_.below (by (repeat (first | with_reducible assumption | with_reducible exact Below.refl _ _ | with_reducible refine Below.drew ?_ | with_reducible refine belowDrewN ?_ _ | ((with_reducible refine Below.setCell ?_ ?_ _); rotate_left; focus (first | omega | (simp; done) | (simp; omega))) | ((with_reducible refine Below.alloc ?_ ?_ _); rotate_left; focus (first | omega | (simp; done) | (simp; omega))))))) HBD.out (by decide)).mono ?_
        rintro e w1 ⟨rfl, rfl⟩
        go_wp2_with fail
        go_ret
        exact ⟨by first | (rw [HSC.out, ← HWR.out]; rfl) | (rw [HSC.out, HALL.out, ← HWR.out]; rfl), by (repeat (first | with_reducible assumption | with_reducible exact Below.refl _ _ | with_reducible refine Below.drew ?_ | with_reducible refine belowDrewN ?_ _ | ((with_reducible refine Below.setCell ?_ ?_ _); rotate_left; focus (first | omega | (simp; done) | (simp; omega))) | ((with_reducible refine Below.alloc ?_ ?_ _); rotate_left; focus (first | omega | (simp; done) | (simp; omega)))))⟩
theorem appendInt_calls (lo : Nat) (v : Value) (l : List UInt8) (i : Int) (w : World) (h : Bts lo w v l) (hi : I64 i) (hlo : lo ≤ w.heap.size) (hB : l.length + 21 ≤ 100000000000000) (hT : Tab lo w) (l' : List UInt8) (hl' : l' = l ++ Lib.itoa i) :
    Calls Tryd.prog 114 #[v, .int .i64 i, .int .i64 10] w (RetB lo l' w) := by
  refine (Tryd.strconv_AppendInt_10 lo l.length i hi.1 hi.2 v _ w h hlo (by omega) hT).mono ?_
  rintro e w' ⟨v', rfl, h1, h2, h3⟩
  refine ⟨v', rfl, ?_, h2, h3⟩
  subst hl'
  unfold Bts
  rw [Lib.byteCells_append, List.length_append]
  exact h1
set_option maxHeartbeats 2000000 in
theorem writeScopes_calls (xa : Option Addr) (xc : Nat) (x : List Int) (l : List UInt8) (v : Value) (w0 w : World) (hB : x.length ≤ 4000000) (hL : l.length ≤ 2000000000000) (hw : ∀ z ∈ x, I64 z) (hx : (M.sl xa xc 1 3 (intM x)).In w0) (ho : Bts w0.heap.size w v l) (hb0 : Below w0.heap.size w0 w) (hT : Tab w0.heap.size w0) :
    Calls Tryd.prog 70 #[v, .slice xa x.length xc] w (RetB w0.heap.size (l ++ scT x) w) := by
  have hxl := Ints.len hx
  have hz0 := hb0.size
  have HX := Lib.hid hx; clear hx; have HW := Lib.hid hw; clear hw; have HO := Lib.hid ho; clear ho; have HT := Lib.hid hT; clear hT
  go_enter Tryd.func70, Tryd.ntmps70
  go_wp2_with fail
  go_loopw [0, 5, 6, 9] (fun o u y i wr => ∃ (j : Nat) (v' : Value), j ≤ x.length ∧ i = .int .i64 j ∧ v' = o ∧ Bts w0.heap.size wr v' (scP l (x.take j)) ∧ Kb w0.heap.size w wr) (fun _ _ _ i _ => x.length - (intOf i).toNat)
  case atStart => exact ⟨0, v, Nat.zero_le _, rfl, rfl, by rw [List.take_zero, scP_nil]; exact HO.out, Kb.refl _ _⟩
  case round =>
    obtain ⟨j, v', hj, rfl, rfl, hbt, hk⟩ := hrel
    have hzk := hk.size
    by_cases hlt : j < x.length
    · obtain ⟨bb, off, n, rfl, hd, hc⟩ := Ints.elem HX.out j hlt
      have hbl := World.block_lt_of_cell? w0 _ hc
      simp only at hbl
      have hbw : Below w0.heap.size w0 wr := hb0.trans hk.1
      have g0 := (hbw.cell (p := ⟨bb, _, none⟩) hbl).trans hc
      clear hc
      have hn := HW.out n (List.mem_of_getElem? hd)
      have hpl := scP_length l (x := x.take j) fun z hz => HW.out z (List.mem_of_mem_take hz)
      have htl : (x.take j).length ≤ j := by simp; omega
      by_cases hj0 : j = 0
      · subst hj0
        simp only [Nat.add_zero] at g0
        obtain ⟨L1, hL1⟩ : ∃ L, L = l ++ [123] := ⟨_, rfl⟩
        obtain ⟨L2, hL2⟩ : ∃ L, L = L1 ++ Lib.itoa n := ⟨_, rfl⟩
        have hst := scP_zero l hd
        rw [← hL1, ← hL2] at hst
        have hn1 : L1.length = l.length + 1 := by rw [hL1, List.length_append]; rfl
        rw [List.take_zero, scP_nil] at hbt
        have HD := Lib.hid hd; clear hd; have HBT := Lib.hid hbt; clear hbt; have HK := Lib.hid hk; clear hk; have HBW := Lib.hid hbw; clear hbw; have HN := Lib.hid hn; clear hn; have HPL := Lib.hid hpl; clear hpl; have HTL := Lib.hid htl; clear htl; have HST := Lib.hid hst; clear hst; have HL1 := Lib.hid hL1; clear hL1; have HL2 := Lib.hid hL2; clear hL2; have HN1 := Lib.hid hn1; clear hn1
        go_wp2_with (at_builtin; refine wpBts_byte rfl _ _ rfl w0.heap.size v' l rfl HBT.out 123 123 rfl (by first | rfl | (simp [go_sem]; done)) (by omega) (by omega) L1 HL1.out ?_)
        intro v3 w3 h3 hk3
        have hz3 := hk3.size
        have hT3 := HT.out.on (HBW.out.trans hk3.1)
        have H3 := Lib.hid h3; clear h3; have HK3 := Lib.hid hk3; clear hk3; have HT3 := Lib.hid hT3; clear hT3
        go_wp2_with fail
        refine (appendInt_calls w0.heap.size v3 L1 n _ H3.out HN.out (by omega) (by have := HN1.out; omega) HT3.out L2 HL2.out).mono ?_
        rintro e w5 ⟨v5, rfl, h5, hk5⟩
        have H5 := Lib.hid h5; clear h5; have HK5 := Lib.hid hk5; clear hk5
        go_wp2_with fail
        go_roundw
        case rel => exact ⟨0 + 1, v5, by omega, by go_num, rfl, by rw [HST.out]; exact H5.out, (HK.out.trans HK3.out).trans HK5.out⟩
        case measure => simp [intOf]; omega
      · have hpos : 0 < j := by omega
        have hjb : ((j : Int) == 0) = false := by simp; omega
        obtain ⟨L1, hL1⟩ : ∃ L, L = scP l (x.take j) ++ [44] := ⟨_, rfl⟩
        obtain ⟨L2, hL2⟩ : ∃ L, L = L1 ++ Lib.itoa n := ⟨_, rfl⟩
        have hst := scP_step l hpos hd
        rw [← hL1, ← hL2] at hst
        have hn1 : L1.length = (scP l (x.take j)).length + 1 := by rw [hL1, List.length_append]; rfl
        have HD := Lib.hid hd; clear hd; have HBT := Lib.hid hbt; clear hbt; have HK := Lib.hid hk; clear hk; have HBW := Lib.hid hbw; clear hbw; have HN := Lib.hid hn; clear hn; have HPL := Lib.hid hpl; clear hpl; have HTL := Lib.hid htl; clear htl; have HST := Lib.hid hst; clear hst; have HL1 := Lib.hid hL1; clear hL1; have HL2 := Lib.hid hL2; clear hL2; have HN1 := Lib.hid hn1; clear hn1
        go_wp2_with (at_builtin; refine wpBts_byte rfl _ _ rfl w0.heap.size v' _ rfl HBT.out 44 44 rfl (by first | rfl | (simp [go_sem]; done)) (by have := HPL.out; have := HTL.out; omega) (by omega) L1 HL1.out ?_)
        intro v3 w3 h3 hk3
        have hz3 := hk3.size
        have hT3 := HT.out.on (HBW.out.trans hk3.1)
        have H3 := Lib.hid h3; clear h3; have HK3 := Lib.hid hk3; clear hk3; have HT3 := Lib.hid hT3; clear hT3
        go_wp2_with fail
        refine (appendInt_calls w0.heap.size v3 L1 n _ H3.out HN.out (by omega) (by have := HN1.out; have := HPL.out; have := HTL.out; omega) HT3.out L2 HL2.out).mono ?_
        rintro e w5 ⟨v5, rfl, h5, hk5⟩
        have H5 := Lib.hid h5; clear h5; have HK5 := Lib.hid hk5; clear hk5
        go_wp2_with fail
        go_roundw
        case rel => exact ⟨j + 1, v5, by omega, by go_num, rfl, by rw [HST.out]; exact H5.out, (HK.out.trans HK3.out).trans HK5.out⟩
        case measure => simp [intOf]; omega
    · have hk2 : j = x.length := by omega
      subst hk2
      rw [List.take_length] at hbt
      have hpl := scP_length l (x := x) HW.out
      cases hem : x.isEmpty with
      | true =>
        obtain rfl : x = [] := List.isEmpty_iff.1 hem
        rw [scP_nil] at hbt
        have HBT := Lib.hid hbt; clear hbt; have HK := Lib.hid hk; clear hk; have HPL := Lib.hid hpl; clear hpl; have HEM := Lib.hid hem; clear hem
        go_wp2_with fail
        go_ret
        exact ⟨v', rfl, by rw [scT_nil, List.append_nil]; exact HBT.out, HK.out⟩
      | false =>
        have hpos : 0 < x.length := by
          cases x with
          | nil => cases hem
          | cons y r => simp
        obtain ⟨L1, hL1⟩ : ∃ L, L = scP l x ++ [125] := ⟨_, rfl⟩
        have hst := scP_end l hem
        rw [← hL1] at hst
        have HBT := Lib.hid hbt; clear hbt; have HK := Lib.hid hk; clear hk; have HPL := Lib.hid hpl; clear hpl; have HEM := Lib.hid hem; clear hem; have HST := Lib.hid hst; clear hst; have HL1 := Lib.hid hL1; clear hL1
        go_wp2_with (at_builtin; refine wpBts_byte rfl _ _ rfl w0.heap.size v' _ rfl HBT.out 125 125 rfl (by first | rfl | (simp [go_sem]; done)) (by have := HPL.out; omega) (by omega) L1 HL1.out ?_)
        intro v3 w3 h3 hk3
        have H3 := Lib.hid h3; clear h3; have HK3 := Lib.hid hk3; clear hk3
        go_wp2_with fail
        go_ret
        exact ⟨v3, rfl, by rw [HST.out]; exact H3.out, HK.out.trans HK3.out⟩
end Go.Proofs.YtoflfamfhpijcaaDoor
