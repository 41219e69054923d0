/-
  Walks: the cursor made; sets of scopes drawn. No condition.
-/
import Derived.Test.YtoflfamfhpijcaaDoorQ2
import Derived.Test.YtoflfamfhpijcaaDoorI4
set_option linter.unusedVariables false
set_option linter.unusedSimpArgs false
set_option maxRecDepth 100000
namespace Go.Proofs.YtoflfamfhpijcaaDoor
open Go.RowKit

def RetCur (a : Option Addr) (cap : Nat) (l : List Int) (w : World) (e : Ending) (w' : World) : Prop :=
  ∃ pb, e = .returned (.pointer (some ⟨pb, 0, none⟩)) ∧ w.heap.size ≤ pb ∧ Cur pb a cap l w' ∧ Below w.heap.size w w'
theorem l01New_calls (a : Option Addr) (cap : Nat) (l : List Int) (w : World) (hin : (M.sl a cap 1 5 (u8M l)).In w) (hu : ∀ z ∈ l, 0 ≤ z ∧ z ≤ 255) (hlen : l.length ≤ 1048576) :
    Calls Tryd.prog 56 #[.slice a l.length cap] w (RetCur a cap l w) := by
  have hl := U8s.len hin
  have HIN := Lib.hid hin; clear hin; have HU := Lib.hid hu; clear hu
  go_enter Tryd.func56, Tryd.ntmps56
  go_wp2_with fail
  go_loop [3, 4] (fun t i => ∃ (k : Nat) (h : Int), k ≤ l.length ∧ i = .int .i64 k ∧ t = .int .i64 h ∧ 0 ≤ h ∧ h ≤ 1073741823) (fun _ i => l.length - (intOf i).toNat)
  case atStart => exact ⟨0, 3220 + l.length, Nat.zero_le _, rfl, rfl, by omega, by omega⟩
  case round =>
    obtain ⟨k, h, hk, rfl, rfl, h0, h1⟩ := hrel
    by_cases hlt : k < l.length
    · by_cases h4 : (k : Int) < 4000
      · obtain ⟨b, off, z, rfl, hz, hc⟩ := U8s.elem HIN.out k hlt
        have hzr := HU.out z (List.mem_of_getElem? hz)
        have hzw : wrap64 z = z := by unfold wrap64; omega
        have HZ := Lib.hid hz; clear hz
        go_wp2_with fail
        go_round
        case rel => exact ⟨k + 1, _, by omega, by go_num, rfl, (and30 _).1, (and30 _).2⟩
        case measure => simp [intOf]; omega
      · have hlt' : (k : Int) < (l.length : Int) := by omega
        go_wp2_with fail
        go_ret
        refine ⟨w.heap.size, rfl, Nat.le_refl _, ⟨0, h, ?_, ?_, ?_, ?_, ?_, Nat.zero_le _, HIN.out.below (by (repeat (first | with_reducible assumption | with_reducible exact Below.refl _ _ | with_reducible refine Below.drew ?_ | with_reducible refine belowDrewN ?_ _ | ((with_reducible refine Below.setCell ?_ ?_ _); rotate_left; focus (first | omega | (simp; done) | (simp; omega))) | ((with_reducible refine Below.alloc ?_ ?_ _); rotate_left; focus (first | omega | (simp; done) | (simp; omega)))))), ?_, HU.out⟩, by (repeat (first | with_reducible assumption | with_reducible exact Below.refl _ _ | with_reducible refine Below.drew ?_ | with_reducible refine belowDrewN ?_ _ | ((with_reducible refine Below.setCell ?_ ?_ _); rotate_left; focus (first | omega | (simp; done) | (simp; omega))) | ((with_reducible refine Below.alloc ?_ ?_ _); rotate_left; focus (first | omega | (simp; done) | (simp; omega)))))⟩
        · simp [go_sem]
        · simp [go_sem]
        · simp [go_sem]
        · simp [go_sem]
        · simp [go_sem]
        · intro hpos b hb
          obtain ⟨b', off', z, rfl, _, hc⟩ := U8s.elem HIN.out 0 hpos
          simp [addrBlocks] at hb
          subst hb
          exact World.block_lt_of_cell? w _ hc
    · have hlt' : ¬ (k : Int) < (l.length : Int) := by omega
      go_wp2_with fail
      go_ret
      refine ⟨w.heap.size, rfl, Nat.le_refl _, ⟨0, h, ?_, ?_, ?_, ?_, ?_, Nat.zero_le _, HIN.out.below (by (repeat (first | with_reducible assumption | with_reducible exact Below.refl _ _ | with_reducible refine Below.drew ?_ | with_reducible refine belowDrewN ?_ _ | ((with_reducible refine Below.setCell ?_ ?_ _); rotate_left; focus (first | omega | (simp; done) | (simp; omega))) | ((with_reducible refine Below.alloc ?_ ?_ _); rotate_left; focus (first | omega | (simp; done) | (simp; omega)))))), ?_, HU.out⟩, by (repeat (first | with_reducible assumption | with_reducible exact Below.refl _ _ | with_reducible refine Below.drew ?_ | with_reducible refine belowDrewN ?_ _ | ((with_reducible refine Below.setCell ?_ ?_ _); rotate_left; focus (first | omega | (simp; done) | (simp; omega))) | ((with_reducible refine Below.alloc ?_ ?_ _); rotate_left; focus (first | omega | (simp; done) | (simp; omega)))))⟩
      · simp [go_sem]
      · simp [go_sem]
      · simp [go_sem]
      · simp [go_sem]
      · simp [go_sem]
      · intro hpos b hb
        obtain ⟨b', off', z, rfl, _, hc⟩ := U8s.elem HIN.out 0 hpos
        simp [addrBlocks] at hb
        subst hb
        exact World.block_lt_of_cell? w _ hc
/-- a list of numbers drawn -/
def RetSet (m : Nat) (pb : Nat) (a : Option Addr) (cap : Nat) (l : List Int) (w : World) (e : Ending) (w' : World) : Prop :=
  ∃ (L : List Int) (a' : Option Addr) (cap' : Nat), e = .returned (.slice a' L.length cap') ∧ L.length ≤ m ∧ (M.sl a' cap' 1 3 (intM L)).Mine w' w.heap.size ∧ Cur pb a cap l w' ∧ OnlyIn pb (pb + 1) w w'
/-- a list of numbers and a number drawn -/
def RetSetN (w : World) (e : Ending) (w' : World) : Prop :=
  ∃ (L : List Int) (a' : Option Addr) (cap' : Nat) (n : Int), e = .returned (.tuple #[.slice a' L.length cap', .int .i64 n]) ∧ L.length ≤ 8 ∧ 0 ≤ n ∧ n ≤ 9 ∧ (M.sl a' cap' 1 3 (intM L)).Mine w' w.heap.size ∧ Below w.heap.size w w'
end Go.Proofs.YtoflfamfhpijcaaDoor
