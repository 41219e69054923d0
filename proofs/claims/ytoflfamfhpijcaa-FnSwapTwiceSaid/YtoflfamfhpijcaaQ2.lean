/-
  Walks: numbers drawn. No condition.
-/
import Derived.Test.YtoflfamfhpijcaaQ1
set_option linter.unusedVariables false
set_option linter.unusedSimpArgs false
set_option maxRecDepth 100000
namespace Go.Proofs.Ytoflfamfhpijcaa
open Go.RowKit

theorem l01Below_calls (n : Int) (pb : Nat) (a : Option Addr) (cap : Nat) (l : List Int) (w : World) (hc : Cur pb a cap l w) (h1 : 1 ≤ n) (h9 : n ≤ 9223372036854775807) :
    Calls Try.prog 96 #[.pointer (some ⟨pb, 0, none⟩), .int .i64 n] w (Drawn 0 (n - 1) pb a cap l w) := by
  have hne : ¬ n = 0 := by omega
  by_cases h256 : n ≤ 256
  · go_enter Try.func96, Try.ntmps96
    go_wp2_with fail
    refine (l01Byte_calls pb a cap l _ hc).mono ?_
    rintro e w1 ⟨x, rfl, hx0, hx1, hc1, ho1⟩
    have hm1 := Int.tmod_nonneg n hx0
    have hm2 := Int.tmod_lt_of_pos x (show 0 < n by omega)
    have HC1 := Lib.hid hc1; clear hc1; have HO1 := Lib.hid ho1; clear ho1
    go_wp2_with fail
    go_ret
    exact ⟨_, rfl, by first | exact hm1 | (rw [← Int.tmod_eq_emod_of_nonneg hx0]; exact hm1), by first | (have := hm2; omega) | (rw [← Int.tmod_eq_emod_of_nonneg hx0]; omega), HC1.out, HO1.out⟩
  · go_enter Try.func96, Try.ntmps96
    go_wp2_with fail
    refine (l01Byte_calls pb a cap l _ hc).mono ?_
    rintro e w1 ⟨x, rfl, hx0, hx1, hc1, ho1⟩
    have HO1 := Lib.hid ho1; clear ho1
    go_wp2_with fail
    refine (l01Byte_calls pb a cap l _ hc1).mono ?_
    rintro e w2 ⟨y, rfl, hy0, hy1, hc2, ho2⟩
    have HO2 := Lib.hid ho2; clear ho2; have HC1 := Lib.hid hc1; clear hc1
    go_wp2_with fail
    refine (l01Byte_calls pb a cap l _ hc2).mono ?_
    rintro e w3 ⟨z, rfl, hz0, hz1, hc3, ho3⟩
    have HO3 := Lib.hid ho3; clear ho3; have HC2 := Lib.hid hc2; clear hc2
    go_wp2_with fail
    refine (l01Byte_calls pb a cap l _ hc3).mono ?_
    rintro e w4 ⟨v, rfl, hv0, hv1, hc4, ho4⟩
    have hs0 : 0 ≤ x * 16777216 + y * 65536 + z * 256 + v := by omega
    have hm1 := Int.tmod_nonneg n hs0
    have hm2 := Int.tmod_lt_of_pos (x * 16777216 + y * 65536 + z * 256 + v) (show 0 < n by omega)
    have HO4 := Lib.hid ho4; clear ho4; have HC3 := Lib.hid hc3; clear hc3; have HC4 := Lib.hid hc4; clear hc4
    go_wp2_with fail
    go_ret
    exact ⟨_, rfl, by first | exact hm1 | (rw [← Int.tmod_eq_emod_of_nonneg hs0]; exact hm1), by first | (have := hm2; omega) | (rw [← Int.tmod_eq_emod_of_nonneg hs0]; omega), HC4.out, ((HO1.out.trans HO2.out).trans HO3.out).trans HO4.out⟩
def DrawnB (pb : Nat) (a : Option Addr) (cap : Nat) (l : List Int) (w : World) (e : Ending) (w' : World) : Prop :=
  ∃ b : Bool, e = .returned (.bool b) ∧ Cur pb a cap l w' ∧ OnlyIn pb (pb + 1) w w'
theorem l01Once_calls (n : Int) (pb : Nat) (a : Option Addr) (cap : Nat) (l : List Int) (w : World) (hc : Cur pb a cap l w) (h1 : 1 ≤ n) (h9 : n ≤ 9223372036854775807) :
    Calls Try.prog 130 #[.pointer (some ⟨pb, 0, none⟩), .int .i64 n] w (DrawnB pb a cap l w) := by
  have HC := Lib.hid hc; clear hc
  go_enter Try.func130, Try.ntmps130
  go_wp2_with fail
  refine (l01Below_calls n pb a cap l _ HC.out h1 h9).mono ?_
  rintro e w1 ⟨x, rfl, hx0, hx1, hc1, ho1⟩
  have HC1 := Lib.hid hc1; clear hc1; have HO1 := Lib.hid ho1; clear ho1
  go_wp2_with fail
  go_ret
  exact ⟨_, rfl, HC1.out, HO1.out⟩
theorem Ints.onlyIn {lo hi : Nat} {w w' : World} {a : Option Addr} {cap : Nat} {e : TypeId} {l : List Int} (h : (M.sl a cap 1 e (intM l)).In w) (k : OnlyIn lo hi w w') (hl : ∀ b ∈ addrBlocks a, b < lo ∨ hi ≤ b) : (M.sl a cap 1 e (intM l)).In w' := by
  obtain ⟨⟨hh, hu⟩, hx⟩ := h
  refine ⟨⟨⟨hh.len, hh.pos, hh.le, hh.max, hh.nil, fun ad had j u hj => ?_⟩, hu⟩, M.InL_of fun x hx => by simp [intM] at hx; obtain ⟨n, _, rfl⟩ := hx; trivial⟩
  have hc := hh.cell ad had j u hj
  have hb : (ad.add j).block = ad.block := by unfold Addr.add; split <;> rfl
  refine (World.cell?_of_block (k.block _ (World.block_lt_of_cell? w _ hc) ?_)).trans hc
  rw [hb]
  exact hl _ (by rw [had]; simp [addrBlocks])
/-- one of a list's numbers -/
def DrawnI (L : List Int) (pb : Nat) (a : Option Addr) (cap : Nat) (l : List Int) (w : World) (e : Ending) (w' : World) : Prop :=
  ∃ x : Int, e = .returned (.int .i64 x) ∧ x ∈ L ∧ Cur pb a cap l w' ∧ OnlyIn pb (pb + 1) w w'
theorem l01Int_calls (la : Option Addr) (lc : Nat) (L : List Int) (pb : Nat) (a : Option Addr) (cap : Nat) (l : List Int) (w : World) (hL : 0 < L.length) (hin : (M.sl la lc 1 3 (intM L)).In w) (hla : ∀ b ∈ addrBlocks la, b < pb ∨ pb + 1 ≤ b) (hc : Cur pb a cap l w) :
    Calls Try.prog 115 #[.pointer (some ⟨pb, 0, none⟩), .slice la L.length lc] w (DrawnI L pb a cap l w) := by
  have hl := Ints.len hin
  have HC := Lib.hid hc; clear hc; have HIN := Lib.hid hin; clear hin
  go_enter Try.func115, Try.ntmps115
  go_wp2_with fail
  refine (l01Below_calls L.length pb a cap l _ HC.out (by omega) (by omega)).mono ?_
  rintro e w1 ⟨x, rfl, hx0, hx1, hc1, ho1⟩
  obtain ⟨k, rfl⟩ := Int.eq_ofNat_of_zero_le hx0
  have hin1 := Ints.onlyIn HIN.out ho1 hla
  obtain ⟨b, off, z, rfl, hz, hcz⟩ := Ints.elem hin1 k (by omega)
  have hkl : k < L.length := by omega
  have hzm := List.mem_of_getElem? hz
  have HC1 := Lib.hid hc1; clear hc1; have HO1 := Lib.hid ho1; clear ho1; have HIN1 := Lib.hid hin1; clear hin1; have HZ := Lib.hid hz; clear hz; have HZM := Lib.hid hzm; clear hzm; have HLA := Lib.hid hla; clear hla
  go_wp2_with fail
  go_ret
  exact ⟨_, rfl, HZM.out, HC1.out, HO1.out⟩
end Go.Proofs.Ytoflfamfhpijcaa
