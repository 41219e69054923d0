/-
  Walks: syntax counted. No condition.
-/
import Derived.Test.YtdfekdeojahmmaaSyn
import Derived.Test.YtdfekdeojahmmaaW5
set_option linter.unusedVariables false
set_option linter.unusedSimpArgs false
set_option maxRecDepth 100000
namespace Go.Proofs.Ytdfekdeojahmmaa
open Go.RowKit

def sCS (ds : List Syn) : Prop := ∀ (k n : Int) (s : ByteArray) (x : List Int) (xa : Option Addr) (xc : Nat) (a : Option Addr) (cap : Nat) (ms : List M) (w : World), Syn.countL ds ≤ 1000000000 → Syn.IsL 39 ds ms → (M.sl a cap 5 39 ms).In w →
    Calls Try.prog 70 #[.agg #[.int .i64 k, .int .i64 n, .string s, .slice xa x.length xc, .slice a ms.length cap]] w (Ret (.int .i64 ((1 + Syn.countL ds : Nat) : Int)) w)
theorem sCountSyntax_calls : ∀ ds, sCS ds := by
  refine Syn.inductL fun ds ih => ?_
  intro k n s x xa xc a cap ms w hB hi hin
  have hln := hi.length
  have hcapm := hin.len
  have IH := Lib.hid ih; clear ih; have HIN := Lib.hid hin; clear hin; have HI := Lib.hid hi; clear hi; have HLN := Lib.hid hln; clear hln
  go_enter Try.func70, Try.ntmps70
  go_wp2
  go_loopw [3, 9] (fun t i wr => ∃ k : Nat, k ≤ ms.length ∧ i = .int .i64 k ∧ t = .int .i64 ((1 + Syn.countL (ds.take k) : Nat) : Int) ∧ Below w.heap.size w wr ∧ w.heap.size ≤ wr.heap.size) (fun _ i _ => ms.length - (intOf i).toNat)
  case atStart => exact ⟨0, Nat.zero_le _, rfl, by simp [Syn.countL], (Below.refl _ _).alloc (Nat.le_refl _) _, by simp⟩
  case round =>
    obtain ⟨k', hk, rfl, rfl, hb, hsz⟩ := hrel
    by_cases hlt : k' < ms.length
    · obtain ⟨b, off, k1, n1, s1, x1, ds1, xa1, xc1, a1, cap1, ms1, rfl, hd, hi1, hx1, hin1, c0, c1, c2, c3, c4⟩ := Syn.elem (HIN.out.below hb) HI.out k' hlt
      obtain ⟨ht, hle⟩ := Syn.countL_le ds k' _ hd
      simp only [Syn.count] at hle
      have HI1 := Lib.hid hi1; clear hi1; have HIN1 := Lib.hid hin1; clear hin1; have HX1 := Lib.hid hx1; clear hx1; have HT := Lib.hid ht; clear ht; have HD := Lib.hid hd; clear hd
      go_wp2_with fail
      refine (IH.out k1 n1 s1 x1 ds1 (List.mem_of_getElem? HD.out) k1 n1 s1 x1 xa1 xc1 a1 cap1 ms1 _ (by omega) HI1.out (HIN1.out.below ((Below.refl _ _).alloc (Nat.le_refl _) _))).mono ?_
      rintro e w1 ⟨rfl, hb1⟩
      go_wp2_with fail
      go_roundw
      case rel => exact ⟨k' + 1, by omega, by go_num, by rw [HT.out, Syn.count]; go_num, by (repeat (first | with_reducible assumption | with_reducible exact Below.refl _ _ | with_reducible refine Below.drew ?_ | with_reducible refine belowDrewN ?_ _ | ((with_reducible refine Below.setCell ?_ ?_ _); rotate_left; focus (first | omega | (simp; done) | (simp; omega))) | ((with_reducible refine Below.alloc ?_ ?_ _); rotate_left; focus (first | omega | (simp; done) | (simp; omega))) | ((with_reducible refine Below.trans ?_ (Below.mono hb1 ?_)); rotate_left; focus (first | omega | (simp; done) | (simp; omega))))), by have := hb1.size; simp at this; omega⟩
      case measure => simp [intOf]; omega
    · go_wp2
      go_ret
      have hk2 : k' = ms.length := by omega
      subst hk2
      refine ⟨?_, hb⟩
      rw [HLN.out, List.take_length]; rfl
def iCS (ds : List Syn) : Prop := ∀ (k n : Int) (s : ByteArray) (x : List Int) (xa : Option Addr) (xc : Nat) (a : Option Addr) (cap : Nat) (ms : List M) (w : World), Syn.countL ds ≤ 1000000000 → Syn.IsL 39 ds ms → (M.sl a cap 5 39 ms).In w →
    Calls Try.prog 72 #[.agg #[.int .i64 k, .int .i64 n, .string s, .slice xa x.length xc, .slice a ms.length cap]] w (Ret (.int .i64 ((1 + Syn.countL ds : Nat) : Int)) w)
theorem iCountSyntax_calls : ∀ ds, iCS ds := by
  refine Syn.inductL fun ds ih => ?_
  intro k n s x xa xc a cap ms w hB hi hin
  have hln := hi.length
  have hcapm := hin.len
  have IH := Lib.hid ih; clear ih; have HIN := Lib.hid hin; clear hin; have HI := Lib.hid hi; clear hi; have HLN := Lib.hid hln; clear hln
  go_enter Try.func72, Try.ntmps72
  go_wp2
  go_loopw [3, 9] (fun t i wr => ∃ k : Nat, k ≤ ms.length ∧ i = .int .i64 k ∧ t = .int .i64 ((1 + Syn.countL (ds.take k) : Nat) : Int) ∧ Below w.heap.size w wr ∧ w.heap.size ≤ wr.heap.size) (fun _ i _ => ms.length - (intOf i).toNat)
  case atStart => exact ⟨0, Nat.zero_le _, rfl, by simp [Syn.countL], (Below.refl _ _).alloc (Nat.le_refl _) _, by simp⟩
  case round =>
    obtain ⟨k', hk, rfl, rfl, hb, hsz⟩ := hrel
    by_cases hlt : k' < ms.length
    · obtain ⟨b, off, k1, n1, s1, x1, ds1, xa1, xc1, a1, cap1, ms1, rfl, hd, hi1, hx1, hin1, c0, c1, c2, c3, c4⟩ := Syn.elem (HIN.out.below hb) HI.out k' hlt
      obtain ⟨ht, hle⟩ := Syn.countL_le ds k' _ hd
      simp only [Syn.count] at hle
      have HI1 := Lib.hid hi1; clear hi1; have HIN1 := Lib.hid hin1; clear hin1; have HX1 := Lib.hid hx1; clear hx1; have HT := Lib.hid ht; clear ht; have HD := Lib.hid hd; clear hd
      go_wp2_with fail
      refine (IH.out k1 n1 s1 x1 ds1 (List.mem_of_getElem? HD.out) k1 n1 s1 x1 xa1 xc1 a1 cap1 ms1 _ (by omega) HI1.out (HIN1.out.below ((Below.refl _ _).alloc (Nat.le_refl _) _))).mono ?_
      rintro e w1 ⟨rfl, hb1⟩
      go_wp2_with fail
      go_roundw
      case rel => exact ⟨k' + 1, by omega, by go_num, by rw [HT.out, Syn.count]; go_num, by (repeat (first | with_reducible assumption | with_reducible exact Below.refl _ _ | with_reducible refine Below.drew ?_ | with_reducible refine belowDrewN ?_ _ | ((with_reducible refine Below.setCell ?_ ?_ _); rotate_left; focus (first | omega | (simp; done) | (simp; omega))) | ((with_reducible refine Below.alloc ?_ ?_ _); rotate_left; focus (first | omega | (simp; done) | (simp; omega))) | ((with_reducible refine Below.trans ?_ (Below.mono hb1 ?_)); rotate_left; focus (first | omega | (simp; done) | (simp; omega))))), by have := hb1.size; simp at this; omega⟩
      case measure => simp [intOf]; omega
    · go_wp2
      go_ret
      have hk2 : k' = ms.length := by omega
      subst hk2
      refine ⟨?_, hb⟩
      rw [HLN.out, List.take_length]; rfl
end Go.Proofs.Ytdfekdeojahmmaa
