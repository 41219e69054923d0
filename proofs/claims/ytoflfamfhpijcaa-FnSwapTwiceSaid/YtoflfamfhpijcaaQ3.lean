/-
  Walks: the cursor made; sets of scopes drawn. No condition.
-/
import Derived.Test.YtoflfamfhpijcaaQ2
import Derived.Test.YtoflfamfhpijcaaI4
set_option linter.unusedVariables false
set_option linter.unusedSimpArgs false
set_option maxRecDepth 100000
namespace Go.Proofs.Ytoflfamfhpijcaa
open Go.RowKit

def RetCur (a : Option Addr) (cap : Nat) (l : List Int) (w : World) (e : Ending) (w' : World) : Prop :=
  ∃ pb, e = .returned (.pointer (some ⟨pb, 0, none⟩)) ∧ w.heap.size ≤ pb ∧ Cur pb a cap l w' ∧ Below w.heap.size w w'
theorem l01New_calls (a : Option Addr) (cap : Nat) (l : List Int) (w : World) (hin : (M.sl a cap 1 5 (u8M l)).In w) (hu : ∀ z ∈ l, 0 ≤ z ∧ z ≤ 255) (hlen : l.length ≤ 1048576) :
    Calls Try.prog 60 #[.slice a l.length cap] w (RetCur a cap l w) := by
  have hl := U8s.len hin
  have HIN := Lib.hid hin; clear hin; have HU := Lib.hid hu; clear hu
  go_enter Try.func60, Try.ntmps60
  go_wp2_with fail
  go_loop [3, 4] (fun t i => ∃ (k : Nat) (h : Int), k ≤ l.length ∧ i = .int .i64 k ∧ t = .int .i64 h ∧ 0 ≤ h ∧ h ≤ 1073741823) (fun _ i => l.length - (intOf i).toNat)
  case atStart => exact ⟨0, 3220 + l.length, Nat.zero_le _, rfl, rfl, by omega, by omega⟩
  case round =>
    obtain ⟨k, h, hk, rfl, rfl, h0, h1⟩ := hrel
    by_cases hlt : k < l.length
    · by_cases h4 : (k : Int) < 4000
      · obtain ⟨b, off, z, rfl, hz, hc⟩ := U8s.elem HIN.out k hlt
        have hzr := HU.out z (List.mem_of_getElem? hz)
        have hzw : wrap64 z = z := by unfold wrap64; omega
        have HZ := Lib.hid hz; clear hz
        go_wp2_with fail
        go_round
        case rel => exact ⟨k + 1, _, by omega, by go_num, rfl, (and30 _).1, (and30 _).2⟩
        case measure => simp [intOf]; omega
      · have hlt' : (k : Int) < (l.length : Int) := by omega
        go_wp2_with fail
        go_ret
        refine ⟨w.heap.size, rfl, Nat.le_refl _, ⟨0, h, ?_, ?_, ?_, ?_, ?_, Nat.zero_le _, HIN.out.below (by (repeat (first | with_reducible assumption | with_reducible exact Below.refl _ _ | with_reducible refine Below.drew ?_ | with_reducible refine belowDrewN ?_ _ | ((with_reducible refine Below.setCell ?_ ?_ _); rotate_left; focus (first | omega | (simp; done) | (simp; omega))) | ((with_reducible refine Below.alloc ?_ ?_ _); rotate_left; focus (first | omega | (simp; done) | (simp; omega)))))), ?_, HU.out⟩, by (repeat (first | with_reducible assumption | with_reducible exact Below.refl _ _ | with_reducible refine Below.drew ?_ | with_reducible refine belowDrewN ?_ _ | ((with_reducible refine Below.setCell ?_ ?_ _); rotate_left; focus (first | omega | (simp; done) | (simp; omega))) | ((with_reducible refine Below.alloc ?_ ?_ _); rotate_left; focus (first | omega | (simp; done) | (simp; omega)))))⟩
        · simp [go_sem]
        · simp [go_sem]
        · simp [go_sem]
        · simp [go_sem]
        · simp [go_sem]
        · intro hpos b hb
          obtain ⟨b', off', z, rfl, _, hc⟩ := U8s.elem HIN.out 0 hpos
          simp [addrBlocks] at hb
          subst hb
          exact World.block_lt_of_cell? w _ hc
    · have hlt' : ¬ (k : Int) < (l.length : Int) := by omega
      go_wp2_with fail
      go_ret
      refine ⟨w.heap.size, rfl, Nat.le_refl _, ⟨0, h, ?_, ?_, ?_, ?_, ?_, Nat.zero_le _, HIN.out.below (by (repeat (first | with_reducible assumption | with_reducible exact Below.refl _ _ | with_reducible refine Below.drew ?_ | with_reducible refine belowDrewN ?_ _ | ((with_reducible refine Below.setCell ?_ ?_ _); rotate_left; focus (first | omega | (simp; done) | (simp; omega))) | ((with_reducible refine Below.alloc ?_ ?_ _); rotate_left; focus (first | omega | (simp; done) | (simp; omega)))))), ?_, HU.out⟩, by (repeat (first | with_reducible assumption | with_reducible exact Below.refl _ _ | with_reducible refine Below.drew ?_ | with_reducible refine belowDrewN ?_ _ | ((with_reducible refine Below.setCell ?_ ?_ _); rotate_left; focus (first | omega | (simp; done) | (simp; omega))) | ((with_reducible refine Below.alloc ?_ ?_ _); rotate_left; focus (first | omega | (simp; done) | (simp; omega)))))⟩
      · simp [go_sem]
      · simp [go_sem]
      · simp [go_sem]
      · simp [go_sem]
      · simp [go_sem]
      · intro hpos b hb
        obtain ⟨b', off', z, rfl, _, hc⟩ := U8s.elem HIN.out 0 hpos
        simp [addrBlocks] at hb
        subst hb
        exact World.block_lt_of_cell? w _ hc
/-- a list of numbers drawn -/
def RetSet (m : Nat) (pb : Nat) (a : Option Addr) (cap : Nat) (l : List Int) (w : World) (e : Ending) (w' : World) : Prop :=
  ∃ (L : List Int) (a' : Option Addr) (cap' : Nat), e = .returned (.slice a' L.length cap') ∧ L.length ≤ m ∧ (M.sl a' cap' 1 3 (intM L)).Mine w' w.heap.size ∧ Cur pb a cap l w' ∧ OnlyIn pb (pb + 1) w w'
theorem l2Set_calls (pb : Nat) (a : Option Addr) (cap : Nat) (l : List Int) (w : World) (hc : Cur pb a cap l w) :
    Calls Try.prog 132 #[.pointer (some ⟨pb, 0, none⟩)] w (RetSet 7 pb a cap l w) := by
  have hpl := hc.lt
  have HC := Lib.hid hc; clear hc
  go_enter Try.func132, Try.ntmps132
  go_wp2_with fail
  refine (l01Below_calls 4 pb a cap l _ (HC.out.below (by (repeat (first | with_reducible assumption | with_reducible exact Below.refl _ _ | with_reducible refine Below.drew ?_ | with_reducible refine belowDrewN ?_ _ | ((with_reducible refine Below.setCell ?_ ?_ _); rotate_left; focus (first | omega | (simp; done) | (simp; omega))) | ((with_reducible refine Below.alloc ?_ ?_ _); rotate_left; focus (first | omega | (simp; done) | (simp; omega))))))) (by decide) (by decide)).mono ?_
  rintro e w1 ⟨x, rfl, hx0, hx1, hc1, ho1⟩
  obtain ⟨n0, rfl⟩ := Int.eq_ofNat_of_zero_le hx0
  have hz1 := ho1.size
  simp only [World.size_alloc] at hz1
  have hm1 : (M.sl (some ⟨w.heap.size, 0, none⟩) 0 1 3 (intM [])).Mine w1 w.heap.size := (Ints.lit w w.heap.size (Nat.le_refl _)).keep (fun b h1 h2 => ho1.block b h2 (.inr (by omega)))
  have hoo : OnlyIn pb (pb + 1) w w1 := ((OnlyIn.refl _ _ _).new _).trans ho1
  have hn3 : n0 ≤ 3 := by omega
  have hpw : (([] : List Int).length + 1) * 2 ^ n0 ≤ 8 := by
    have : n0 = 0 ∨ n0 = 1 ∨ n0 = 2 ∨ n0 = 3 := by omega
    rcases this with rfl | rfl | rfl | rfl <;> decide
  have HC1 := Lib.hid hc1; clear hc1; have HO1 := Lib.hid ho1; clear ho1; have HM1 := Lib.hid hm1; clear hm1; have HOO := Lib.hid hoo; clear hoo
  go_wp2_with fail
  go_loopw [3, 4] (fun t i wr => ∃ (L : List Int) (a' : Option Addr) (cap' n : Nat), t = .slice a' L.length cap' ∧ i = .int .i64 n ∧ n ≤ 3 ∧ (L.length + 1) * 2 ^ n ≤ 8 ∧ (M.sl a' cap' 1 3 (intM L)).Mine wr w.heap.size ∧ Cur pb a cap l wr ∧ OnlyIn pb (pb + 1) w wr ∧ w.heap.size ≤ wr.heap.size) (fun _ i _ => (intOf i).toNat)
  case atStart => exact ⟨[], _, _, n0, rfl, rfl, hn3, hpw, HM1.out, HC1.out, HOO.out, by omega⟩
  case round =>
    obtain ⟨L, a', cap', n, rfl, rfl, hn, hLn, hm, hcr, hor, hsz⟩ := hrel
    cases n with
    | zero =>
      simp at hLn
      have HM := Lib.hid hm; clear hm; have HCR := Lib.hid hcr; clear hcr; have HOR := Lib.hid hor; clear hor
      go_wp2_with fail
      go_ret
      exact ⟨L, a', cap', rfl, hLn, HM.out, HCR.out, HOR.out⟩
    | succ n =>
      have hpos : 0 < ((n + 1 : Nat) : Int) := by omega
      have hL8 : L.length ≤ 8 := by
        have : 1 ≤ 2 ^ (n + 1) := Nat.one_le_two_pow
        have := Nat.le_mul_of_pos_right (L.length + 1) (show 0 < 2 ^ (n + 1) by omega)
        omega
      have hlen := Ints.len hm.in_
      have HM := Lib.hid hm; clear hm; have HCR := Lib.hid hcr; clear hcr; have HOR := Lib.hid hor; clear hor
      go_wp2_with fail
      refine (l01Below_calls 9 pb a cap l _ HCR.out (by decide) (by decide)).mono ?_
      rintro e w2 ⟨x, rfl, hx0, hx1, hc2, ho2⟩
      have hz2 := ho2.size
      have hm2 := HM.out.keep (fun b h1 h2 => ho2.block b h2 (.inr (by omega)))
      have HC2 := Lib.hid hc2; clear hc2; have HO2 := Lib.hid ho2; clear ho2; have HM2 := Lib.hid hm2; clear hm2
      go_wp2_with fail
      refine (sPut_calls a' cap' L (1 + x) _ HM2.out.in_ (by omega)).mono ?_
      rintro e w3 ⟨a3, cap3, rfl, hm3, hb3⟩
      have hz3 := hb3.size
      have hput := put_length (1 + x) L
      have hL3 : ((put (1 + x) L).length + 1) * 2 ^ n ≤ 8 := by
        refine Nat.le_trans (Nat.mul_le_mul_right _ (show (put (1 + x) L).length + 1 ≤ (L.length + 1) * 2 by omega)) ?_
        rw [Nat.mul_assoc, ← Nat.pow_succ']
        exact hLn
      have hm3' := hm3.mono (show w.heap.size ≤ w2.heap.size by omega)
      have hc3 := HC2.out.below hb3
      have ho3 := (HOR.out.trans HO2.out).trans (OnlyIn.of_below (lo := pb) (hi := pb + 1) hb3)
      have HM3 := Lib.hid hm3; clear hm3; have HM3' := Lib.hid hm3'; clear hm3'; have HC3 := Lib.hid hc3; clear hc3; have HO3 := Lib.hid ho3; clear ho3; have HB3 := Lib.hid hb3; clear hb3
      go_wp2_with fail
      go_roundw
      case rel => exact ⟨put (1 + x) L, a3, cap3, n, rfl, by go_num, by omega, hL3, HM3'.out, HC3.out, HO3.out, by omega⟩
      case measure => first | (simp [intOf]; done) | (simp [intOf]; omega)
theorem l2AnySet_calls (pb : Nat) (a : Option Addr) (cap : Nat) (l : List Int) (w : World) (hc : Cur pb a cap l w) :
    Calls Try.prog 139 #[.pointer (some ⟨pb, 0, none⟩)] w (RetSet 8 pb a cap l w) := by
  have hpl := hc.lt
  have HC := Lib.hid hc; clear hc
  go_enter Try.func139, Try.ntmps139
  go_wp2_with fail
  refine (l2Set_calls pb a cap l _ HC.out).mono ?_
  rintro e w1 ⟨L, a1, cap1, rfl, hL, hm1, hc1, ho1⟩
  have hz1 := ho1.size
  have hlen := Ints.len hm1.in_
  have HC1 := Lib.hid hc1; clear hc1; have HM1 := Lib.hid hm1; clear hm1
  go_wp2_with fail
  refine (l01Once_calls 6 pb a cap l _ HC1.out (by decide) (by decide)).mono ?_
  rintro e w2 ⟨bb, rfl, hc2, ho2⟩
  have hz2 := ho2.size
  have hm2 := HM1.out.keep (fun b h1 h2 => ho2.block b h2 (.inr (by omega)))
  have ho12 := ho1.trans ho2
  have HC2 := Lib.hid hc2; clear hc2; have HO2 := Lib.hid ho2; clear ho2; have HM2 := Lib.hid hm2; clear hm2; have HO12 := Lib.hid ho12; clear ho12; have HO1 := Lib.hid ho1; clear ho1
  cases bb with
  | false =>
    go_wp2_with fail
    go_ret
    exact ⟨L, a1, cap1, rfl, by omega, HM2.out, HC2.out, HO12.out⟩
  | true =>
    go_wp2_with fail
    refine (l01Int_calls (some ⟨w2.heap.size, 0, none⟩) 5 [0, 1, -1, 99999, 100000] pb a cap l _ (by decide) (M.Mine.new (xs := intM [0, 1, -1, 99999, 100000]) (lo := w2.heap.size) rfl (Nat.le_refl _) (by rw [intM_cells]; rfl) (by decide) (fun y hy => by obtain ⟨v, rfl, _⟩ := intM_one _ y hy; rfl) (by simp [intM_length, maxLen]) ⟨OwnL_iff.2 fun y hy => by obtain ⟨v, rfl, h⟩ := intM_one _ y hy; exact h, by rw [intM_blocks]; exact List.nodup_nil⟩).in_ (by simp [addrBlocks]; omega) (HC2.out.below (by (repeat (first | with_reducible assumption | with_reducible exact Below.refl _ _ | with_reducible refine Below.drew ?_ | with_reducible refine belowDrewN ?_ _ | ((with_reducible refine Below.setCell ?_ ?_ _); rotate_left; focus (first | omega | (simp; done) | (simp; omega))) | ((with_reducible refine Below.alloc ?_ ?_ _); rotate_left; focus (first | omega | (simp; done) | (simp; omega)))))))).mono ?_
    rintro e w3 ⟨x, rfl, hx, hc3, ho3⟩
    have hz3 := ho3.size
    simp only [World.size_alloc] at hz3
    have ho3' : OnlyIn pb (pb + 1) w2 w3 := ((OnlyIn.refl _ _ _).new _).trans ho3
    have hm3 := HM2.out.keep (w' := w3) (fun b h1 h2 => ho3'.block b h2 (.inr (by omega)))
    have ho13 := HO12.out.trans ho3'
    have HC3 := Lib.hid hc3; clear hc3; have HO3 := Lib.hid ho3; clear ho3; have HO3' := Lib.hid ho3'; clear ho3'; have HM3 := Lib.hid hm3; clear hm3; have HO13 := Lib.hid ho13; clear ho13; have HX := Lib.hid hx; clear hx
    go_wp2_with (at_builtin; refine wpInts_push (wr := w3) (w1 := w3) rfl _ _ 40 rfl 3 _ Try.underlying40 infoI rfl w.heap.size a1 cap1 L rfl HM3.out (by omega) (Below.refl _ _) x rfl (by omega) ?_)
    intro a4 cap4 w4 hm4 hb4 hz4
    have hc4 := HC3.out.belowB hb4 hpl
    have ho4 := HO13.out.thenBelow hb4
    have HM4 := Lib.hid hm4; clear hm4; have HC4 := Lib.hid hc4; clear hc4; have HO4 := Lib.hid ho4; clear ho4
    go_wp2_with fail
    go_ret
    exact ⟨L ++ [x], a4, cap4, by simp, by simp; omega, HM4.out, HC4.out, HO4.out⟩
/-- a list of numbers and a number drawn -/
def RetSetN (w : World) (e : Ending) (w' : World) : Prop :=
  ∃ (L : List Int) (a' : Option Addr) (cap' : Nat) (n : Int), e = .returned (.tuple #[.slice a' L.length cap', .int .i64 n]) ∧ L.length ≤ 8 ∧ 0 ≤ n ∧ n ≤ 9 ∧ (M.sl a' cap' 1 3 (intM L)).Mine w' w.heap.size ∧ Below w.heap.size w w'
end Go.Proofs.Ytoflfamfhpijcaa
