/-
  Walks: two lists of scopes compared. No condition.
-/
import Derived.Test.YtigmgfinjapchaaY4
set_option linter.unusedVariables false
set_option linter.unusedSimpArgs false
set_option maxRecDepth 100000
namespace Go.Proofs.Ytigmgfinjapchaa
open Go.RowKit

/-- It hands back v and only draws. -/
def RetQ (v : Value) (w : World) (e : Ending) (w' : World) : Prop := e = .returned v ∧ ∃ m, w' = w.drewN m
theorem RetQ.ret {v : Value} {w : World} {e : Ending} {w' : World} (h : RetQ v w e w') : Ret v w e w' := by
  obtain ⟨h1, m, rfl⟩ := h
  exact ⟨h1, belowDrewN (Below.refl _ _) m⟩
theorem drewN2 (w : World) (m n : Nat) : ∃ k, (w.drewN m).drewN n = w.drewN k := ⟨m + n, World.drewN_drewN ..⟩
theorem below_ex {w wr : World} (h : ∃ m, wr = w.drewN m) : Below w.heap.size w wr := by obtain ⟨m, rfl⟩ := h; exact belowDrewN (Below.refl _ _) m
theorem ex_drew {w wr : World} (h : ∃ m, wr = w.drewN m) (n : Nat) : ∃ m, wr.drewN n = w.drewN m := by obtain ⟨m, rfl⟩ := h; exact drewN2 w m n
theorem l2SameInts_q (a : Option Addr) (cap : Nat) (l : List Int) (a2 : Option Addr) (cap2 : Nat) (r : List Int) (w : World) (h : (M.sl a cap 1 3 (intM l)).In w) (h2 : (M.sl a2 cap2 1 3 (intM r)).In w) :
    Calls Try.prog 53 #[.slice a l.length cap, .slice a2 r.length cap2] w (RetQ (.bool (eqL l r)) w) := by
  have hl := Ints.len h
  have hr := Ints.len h2
  by_cases he : l.length = r.length
  · have hb : ((l.length : Int) != (r.length : Int)) = false := by simp [he]
    have H := Lib.hid h; clear h; have H2 := Lib.hid h2; clear h2; have HE := Lib.hid he; clear he
    go_enter Try.func53, Try.ntmps53
    go_wp2
    go_loopw [13] (fun i wr => ∃ k : Nat, k ≤ l.length ∧ i = .int .i64 k ∧ l.take k = r.take k ∧ ∃ m, wr = w.drewN m) (fun i _ => l.length - (intOf i).toNat)
    case atStart => exact ⟨0, Nat.zero_le _, rfl, by simp, 0, rfl⟩
    case round =>
      obtain ⟨k, hk, rfl, hno, hex⟩ := hrel
      have hbl := below_ex hex
      have HNO := Lib.hid hno; clear hno
      by_cases hlt : k < l.length
      · have hlt2 : k < r.length := by have := HE.out; omega
        obtain ⟨b, off, x, rfl, hx, hc⟩ := Ints.elem (H.out.below hbl) k hlt
        obtain ⟨b2, off2, y, rfl, hy, hc2⟩ := Ints.elem (H2.out.below hbl) k hlt2
        have HX := Lib.hid hx; clear hx; have HY := Lib.hid hy; clear hy
        by_cases hxy : x = y
        · have e1 : (x != y) = false := by simp [hxy]
          have HXY := Lib.hid hxy; clear hxy
          go_wp2_with fail
          go_quiet (fail)
          go_wp2_with fail
          have hnx : l.take (k + 1) = r.take (k + 1) := take_eq_succ HNO.out HX.out HY.out HXY.out
          go_roundw
          case rel => exact ⟨k + 1, by omega, by go_num, hnx, ex_drew hex _⟩
          case measure => simp [intOf]; omega
        · have e1 : (x != y) = true := by simp [hxy]
          have HXY := Lib.hid hxy; clear hxy
          go_wp2_with fail
          go_quiet (fail)
          go_wp2_with fail
          go_ret
          exact ⟨ret_b ((eqL_not _ _).2 (ne_of_get HX.out HY.out HXY.out)).symm, ex_drew hex _⟩
      · go_wp2
        go_ret
        have hk2 : k = l.length := by omega
        subst hk2
        refine ⟨ret_b ((eqL_iff _ _).2 ?_).symm, hex⟩
        have h := HNO.out
        rw [List.take_length, HE.out, List.take_length] at h
        exact h
  · have hb : ((l.length : Int) != (r.length : Int)) = true := by simp; omega
    have H := Lib.hid h; clear h; have H2 := Lib.hid h2; clear h2; have HE := Lib.hid he; clear he
    go_enter Try.func53, Try.ntmps53
    go_wp2
    go_ret
    exact ⟨ret_b ((eqL_not _ _).2 (fun e => HE.out (by rw [e]))).symm, 0, rfl⟩
theorem l2SameInts_calls (a : Option Addr) (cap : Nat) (l : List Int) (a2 : Option Addr) (cap2 : Nat) (r : List Int) (w : World) (h : (M.sl a cap 1 3 (intM l)).In w) (h2 : (M.sl a2 cap2 1 3 (intM r)).In w) :
    Calls Try.prog 53 #[.slice a l.length cap, .slice a2 r.length cap2] w (Ret (.bool (eqL l r)) w) := (l2SameInts_q a cap l a2 cap2 r w h h2).mono fun _ _ h => h.ret
theorem sameInts_q (a : Option Addr) (cap : Nat) (l : List Int) (a2 : Option Addr) (cap2 : Nat) (r : List Int) (w : World) (h : (M.sl a cap 1 3 (intM l)).In w) (h2 : (M.sl a2 cap2 1 3 (intM r)).In w) :
    Calls Try.prog 66 #[.slice a l.length cap, .slice a2 r.length cap2] w (RetQ (.bool (eqL l r)) w) := by
  have hl := Ints.len h
  have hr := Ints.len h2
  by_cases he : l.length = r.length
  · have hb : ((l.length : Int) != (r.length : Int)) = false := by simp [he]
    have H := Lib.hid h; clear h; have H2 := Lib.hid h2; clear h2; have HE := Lib.hid he; clear he
    go_enter Try.func66, Try.ntmps66
    go_wp2
    go_loopw [13] (fun i wr => ∃ k : Nat, k ≤ l.length ∧ i = .int .i64 k ∧ l.take k = r.take k ∧ ∃ m, wr = w.drewN m) (fun i _ => l.length - (intOf i).toNat)
    case atStart => exact ⟨0, Nat.zero_le _, rfl, by simp, 0, rfl⟩
    case round =>
      obtain ⟨k, hk, rfl, hno, hex⟩ := hrel
      have hbl := below_ex hex
      have HNO := Lib.hid hno; clear hno
      by_cases hlt : k < l.length
      · have hlt2 : k < r.length := by have := HE.out; omega
        obtain ⟨b, off, x, rfl, hx, hc⟩ := Ints.elem (H.out.below hbl) k hlt
        obtain ⟨b2, off2, y, rfl, hy, hc2⟩ := Ints.elem (H2.out.below hbl) k hlt2
        have HX := Lib.hid hx; clear hx; have HY := Lib.hid hy; clear hy
        by_cases hxy : x = y
        · have e1 : (x != y) = false := by simp [hxy]
          have HXY := Lib.hid hxy; clear hxy
          go_wp2_with fail
          go_quiet (fail)
          go_wp2_with fail
          have hnx : l.take (k + 1) = r.take (k + 1) := take_eq_succ HNO.out HX.out HY.out HXY.out
          go_roundw
          case rel => exact ⟨k + 1, by omega, by go_num, hnx, ex_drew hex _⟩
          case measure => simp [intOf]; omega
        · have e1 : (x != y) = true := by simp [hxy]
          have HXY := Lib.hid hxy; clear hxy
          go_wp2_with fail
          go_quiet (fail)
          go_wp2_with fail
          go_ret
          exact ⟨ret_b ((eqL_not _ _).2 (ne_of_get HX.out HY.out HXY.out)).symm, ex_drew hex _⟩
      · go_wp2
        go_ret
        have hk2 : k = l.length := by omega
        subst hk2
        refine ⟨ret_b ((eqL_iff _ _).2 ?_).symm, hex⟩
        have h := HNO.out
        rw [List.take_length, HE.out, List.take_length] at h
        exact h
  · have hb : ((l.length : Int) != (r.length : Int)) = true := by simp; omega
    have H := Lib.hid h; clear h; have H2 := Lib.hid h2; clear h2; have HE := Lib.hid he; clear he
    go_enter Try.func66, Try.ntmps66
    go_wp2
    go_ret
    exact ⟨ret_b ((eqL_not _ _).2 (fun e => HE.out (by rw [e]))).symm, 0, rfl⟩
theorem sameInts_calls (a : Option Addr) (cap : Nat) (l : List Int) (a2 : Option Addr) (cap2 : Nat) (r : List Int) (w : World) (h : (M.sl a cap 1 3 (intM l)).In w) (h2 : (M.sl a2 cap2 1 3 (intM r)).In w) :
    Calls Try.prog 66 #[.slice a l.length cap, .slice a2 r.length cap2] w (Ret (.bool (eqL l r)) w) := (sameInts_q a cap l a2 cap2 r w h h2).mono fun _ _ h => h.ret
theorem lawInts_q (a : Option Addr) (cap : Nat) (l : List Int) (a2 : Option Addr) (cap2 : Nat) (r : List Int) (w : World) (h : (M.sl a cap 1 3 (intM l)).In w) (h2 : (M.sl a2 cap2 1 3 (intM r)).In w) :
    Calls Try.prog 16 #[.slice a l.length cap, .slice a2 r.length cap2] w (RetQ (.bool (eqL l r)) w) := by
  have hl := Ints.len h
  have hr := Ints.len h2
  by_cases he : l.length = r.length
  · have hb : ((l.length : Int) != (r.length : Int)) = false := by simp [he]
    have H := Lib.hid h; clear h; have H2 := Lib.hid h2; clear h2; have HE := Lib.hid he; clear he
    go_enter Try.func16, Try.ntmps16
    go_wp2
    go_loopw [13] (fun i wr => ∃ k : Nat, k ≤ l.length ∧ i = .int .i64 k ∧ l.take k = r.take k ∧ ∃ m, wr = w.drewN m) (fun i _ => l.length - (intOf i).toNat)
    case atStart => exact ⟨0, Nat.zero_le _, rfl, by simp, 0, rfl⟩
    case round =>
      obtain ⟨k, hk, rfl, hno, hex⟩ := hrel
      have hbl := below_ex hex
      have HNO := Lib.hid hno; clear hno
      by_cases hlt : k < l.length
      · have hlt2 : k < r.length := by have := HE.out; omega
        obtain ⟨b, off, x, rfl, hx, hc⟩ := Ints.elem (H.out.below hbl) k hlt
        obtain ⟨b2, off2, y, rfl, hy, hc2⟩ := Ints.elem (H2.out.below hbl) k hlt2
        have HX := Lib.hid hx; clear hx; have HY := Lib.hid hy; clear hy
        by_cases hxy : x = y
        · have e1 : (x != y) = false := by simp [hxy]
          have HXY := Lib.hid hxy; clear hxy
          go_wp2_with fail
          go_quiet (fail)
          go_wp2_with fail
          have hnx : l.take (k + 1) = r.take (k + 1) := take_eq_succ HNO.out HX.out HY.out HXY.out
          go_roundw
          case rel => exact ⟨k + 1, by omega, by go_num, hnx, ex_drew hex _⟩
          case measure => simp [intOf]; omega
        · have e1 : (x != y) = true := by simp [hxy]
          have HXY := Lib.hid hxy; clear hxy
          go_wp2_with fail
          go_quiet (fail)
          go_wp2_with fail
          go_ret
          exact ⟨ret_b ((eqL_not _ _).2 (ne_of_get HX.out HY.out HXY.out)).symm, ex_drew hex _⟩
      · go_wp2
        go_ret
        have hk2 : k = l.length := by omega
        subst hk2
        refine ⟨ret_b ((eqL_iff _ _).2 ?_).symm, hex⟩
        have h := HNO.out
        rw [List.take_length, HE.out, List.take_length] at h
        exact h
  · have hb : ((l.length : Int) != (r.length : Int)) = true := by simp; omega
    have H := Lib.hid h; clear h; have H2 := Lib.hid h2; clear h2; have HE := Lib.hid he; clear he
    go_enter Try.func16, Try.ntmps16
    go_wp2
    go_ret
    exact ⟨ret_b ((eqL_not _ _).2 (fun e => HE.out (by rw [e]))).symm, 0, rfl⟩
theorem lawInts_calls (a : Option Addr) (cap : Nat) (l : List Int) (a2 : Option Addr) (cap2 : Nat) (r : List Int) (w : World) (h : (M.sl a cap 1 3 (intM l)).In w) (h2 : (M.sl a2 cap2 1 3 (intM r)).In w) :
    Calls Try.prog 16 #[.slice a l.length cap, .slice a2 r.length cap2] w (Ret (.bool (eqL l r)) w) := (lawInts_q a cap l a2 cap2 r w h h2).mono fun _ _ h => h.ret
end Go.Proofs.Ytigmgfinjapchaa
