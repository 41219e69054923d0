/-
  Walks: texts drawn. No condition.
-/
import Derived.Test.YtoflfamfhpijcaaQ3
import Derived.Test.YtoflfamfhpijcaaStrP
set_option linter.unusedVariables false
set_option linter.unusedSimpArgs false
set_option maxRecDepth 100000
namespace Go.Proofs.Ytoflfamfhpijcaa
open Go.RowKit

/-- a short text drawn -/
def DrawnT (pb : Nat) (a : Option Addr) (cap : Nat) (l : List Int) (w : World) (e : Ending) (w' : World) : Prop :=
  ∃ x : ByteArray, e = .returned (.string x) ∧ x.size ≤ 100 ∧ Cur pb a cap l w' ∧ OnlyIn pb (pb + 1) w w'
def Texts (cs : Array Value) : Prop := ∀ v ∈ cs.toList, ∃ s : ByteArray, v = .string s ∧ s.size ≤ 100
theorem l01Pick_lit (cs : Array Value) (n : Nat) (pb : Nat) (a : Option Addr) (cap : Nat) (l : List Int) (w : World) (hc : Cur pb a cap l w) (hn : cs.size = n) (h0 : 0 < n) (h1 : n ≤ 1000) (ht : Texts cs) :
    Calls Try.prog 62 #[.pointer (some ⟨pb, 0, none⟩), .slice (some ⟨w.heap.size, 0, none⟩) n n] (w.alloc (.cells cs 9)) (DrawnT pb a cap l w) := by
  have hp := hc.lt
  have hcell : ∀ k, k < n → ∃ s : ByteArray, (w.alloc (.cells cs 9)).cell? ⟨w.heap.size, k, none⟩ = some (.string s) ∧ s.size ≤ 100 := by
    intro k hk
    obtain ⟨s, hs, hz⟩ := ht cs[k] (by simp)
    refine ⟨s, ?_, hz⟩
    rw [World.cell?_alloc_new]
    rw [← hs]
    simp
  have HC := Lib.hid hc; clear hc; have HCELL := Lib.hid hcell; clear hcell; have HT := Lib.hid ht; clear ht
  go_enter Try.func62, Try.ntmps62
  go_wp2_with fail
  refine (l01Below_calls n pb a cap l _ (HC.out.below (by (repeat (first | with_reducible assumption | with_reducible exact Below.refl _ _ | with_reducible refine Below.drew ?_ | with_reducible refine belowDrewN ?_ _ | ((with_reducible refine Below.setCell ?_ ?_ _); rotate_left; focus (first | omega | (simp; done) | (simp; omega))) | ((with_reducible refine Below.alloc ?_ ?_ _); rotate_left; focus (first | omega | (simp; done) | (simp; omega))))))) (by omega) (by omega)).mono ?_
  rintro e w1 ⟨x, rfl, hx0, hx1, hc1, ho1⟩
  obtain ⟨k, rfl⟩ := Int.eq_ofNat_of_zero_le hx0
  obtain ⟨s, hs, hz⟩ := HCELL.out k (by omega)
  have hkl : k < n := by omega
  have hs1 : w1.cell? ⟨w.heap.size, k, none⟩ = some (.string s) := (World.cell?_of_block (ho1.block w.heap.size (by simp) (.inr (by omega)))).trans hs
  have hoo : OnlyIn pb (pb + 1) w w1 := ((OnlyIn.refl _ _ _).new _).trans ho1
  have HC1 := Lib.hid hc1; clear hc1; have HO1 := Lib.hid ho1; clear ho1; have HOO := Lib.hid hoo; clear hoo; have HS := Lib.hid hs; clear hs
  go_wp2_with fail
  go_ret
  exact ⟨s, rfl, hz, HC1.out, HOO.out⟩
/-- a number of the machine drawn -/
def DrawnN (m : Int) (pb : Nat) (a : Option Addr) (cap : Nat) (l : List Int) (w : World) (e : Ending) (w' : World) : Prop :=
  ∃ x : Int, e = .returned (.int .i64 x) ∧ I64 x ∧ Cur pb a cap l w' ∧ OnlyIn pb (pb + 1) w w'
def Nums (cs : Array Value) : Prop := ∀ v ∈ cs.toList, ∃ s : Int, v = .int .i64 s ∧ I64 s
theorem l01Int_lit (cs : Array Value) (n : Nat) (pb : Nat) (a : Option Addr) (cap : Nat) (l : List Int) (w : World) (hc : Cur pb a cap l w) (hn : cs.size = n) (h0 : 0 < n) (h1 : n ≤ 1000) (ht : Nums cs) :
    Calls Try.prog 115 #[.pointer (some ⟨pb, 0, none⟩), .slice (some ⟨w.heap.size, 0, none⟩) n n] (w.alloc (.cells cs 3)) (DrawnN 0 pb a cap l w) := by
  have hp := hc.lt
  have hcell : ∀ k, k < n → ∃ s : Int, (w.alloc (.cells cs 3)).cell? ⟨w.heap.size, k, none⟩ = some (.int .i64 s) ∧ I64 s := by
    intro k hk
    obtain ⟨s, hs, hz⟩ := ht cs[k] (by simp)
    refine ⟨s, ?_, hz⟩
    rw [World.cell?_alloc_new]
    rw [← hs]
    simp
  have HC := Lib.hid hc; clear hc; have HCELL := Lib.hid hcell; clear hcell; have HT := Lib.hid ht; clear ht
  go_enter Try.func115, Try.ntmps115
  go_wp2_with fail
  refine (l01Below_calls n pb a cap l _ (HC.out.below (by (repeat (first | with_reducible assumption | with_reducible exact Below.refl _ _ | with_reducible refine Below.drew ?_ | with_reducible refine belowDrewN ?_ _ | ((with_reducible refine Below.setCell ?_ ?_ _); rotate_left; focus (first | omega | (simp; done) | (simp; omega))) | ((with_reducible refine Below.alloc ?_ ?_ _); rotate_left; focus (first | omega | (simp; done) | (simp; omega))))))) (by omega) (by omega)).mono ?_
  rintro e w1 ⟨x, rfl, hx0, hx1, hc1, ho1⟩
  obtain ⟨k, rfl⟩ := Int.eq_ofNat_of_zero_le hx0
  obtain ⟨s, hs, hz⟩ := HCELL.out k (by omega)
  have hkl : k < n := by omega
  have hs1 : w1.cell? ⟨w.heap.size, k, none⟩ = some (.int .i64 s) := (World.cell?_of_block (ho1.block w.heap.size (by simp) (.inr (by omega)))).trans hs
  have hoo : OnlyIn pb (pb + 1) w w1 := ((OnlyIn.refl _ _ _).new _).trans ho1
  have HC1 := Lib.hid hc1; clear hc1; have HO1 := Lib.hid ho1; clear ho1; have HOO := Lib.hid hoo; clear hoo; have HS := Lib.hid hs; clear hs; have HZ := Lib.hid hz; clear hz
  go_wp2_with fail
  go_ret
  exact ⟨s, rfl, HZ.out, HC1.out, HOO.out⟩
end Go.Proofs.Ytoflfamfhpijcaa
