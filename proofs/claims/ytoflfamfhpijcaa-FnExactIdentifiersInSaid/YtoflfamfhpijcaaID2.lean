/-
  Walks: is an identifier in a list. No condition.
-/
import Derived.Test.YtoflfamfhpijcaaID1
import Derived.Test.YtoflfamfhpijcaaM5
set_option linter.unusedVariables false
set_option linter.unusedSimpArgs false
set_option maxRecDepth 100000
namespace Go.Proofs.Ytoflfamfhpijcaa
open Go.RowKit

set_option maxHeartbeats 1000000 in
theorem l2HasId_calls (acc : List Syn) (a : Option Addr) (cap : Nat) (ms : List M) (k n : Int) (s : ByteArray) (x : List Int) (xa : Option Addr) (xc : Nat) (ia : Option Addr) (il ic : Nat) (w : World) (hi : Syn.IsL 43 acc ms) (hin : (M.sl a cap 5 43 ms).In w) (hx : (M.sl xa xc 1 3 (intM x)).In w) :
    Calls Try.prog 134 #[.slice a ms.length cap, .agg #[.int .i64 k, .int .i64 n, .string s, .slice xa x.length xc, .slice ia il ic]] w (Ret (.bool (hasIdB acc s x)) w) := by
  have hl := hi.length
  have hcap := hin.len
  have hxl := Ints.len hx
  have HI := Lib.hid hi; clear hi; have HIN := Lib.hid hin; clear hin; have HX := Lib.hid hx; clear hx; have HL := Lib.hid hl; clear hl
  go_enter Try.func134, Try.ntmps134
  go_wp2_with fail
  go_loopw [9] (fun i wr => ∃ j : Nat, j ≤ ms.length ∧ i = .int .i64 j ∧ ¬ HasId (acc.take j) s x ∧ SBox w.heap.size k n s (.slice xa x.length xc) (.slice ia il ic) wr ∧ Below w.heap.size w wr ∧ w.heap.size + 1 ≤ wr.heap.size) (fun i _ => ms.length - (intOf i).toNat)
  case atStart => exact ⟨0, Nat.zero_le _, rfl, noId_nil _ _, SBox.new _ _ _ _ _ _, by (repeat (first | with_reducible assumption | with_reducible exact Below.refl _ _ | with_reducible refine Below.drew ?_ | with_reducible refine belowDrewN ?_ _ | ((with_reducible refine Below.setCell ?_ ?_ _); rotate_left; focus (first | omega | (simp; done) | (simp; omega))) | ((with_reducible refine Below.alloc ?_ ?_ _); rotate_left; focus (first | omega | (simp; done) | (simp; omega))))), by simp⟩
  case round =>
    obtain ⟨j, hj, rfl, hno, hq, hb, hsz⟩ := hrel
    have p0 := hq.lt
    have hq0 := hq
    obtain ⟨q0, q1, q2, q3, q4, f0, f1, f2, f3, f4⟩ := hq
    by_cases hlt : j < ms.length
    · obtain ⟨b, off, k1, n1, s1, x1, ds1, xa1, xc1, a1, cap1, ms1, rfl, hd, hi1, hx1, hin1, c0, c1, c2, c3, c4⟩ := Syn.elem (HIN.out.below hb) HI.out j hlt
      have hbA : Below wr.heap.size wr (wr.alloc (.cells #[.int .i64 k1, .int .i64 n1, .string s1, .slice xa1 x1.length xc1, .slice a1 ms1.length cap1] 43)) := by (repeat (first | with_reducible assumption | with_reducible exact Below.refl _ _ | with_reducible refine Below.drew ?_ | with_reducible refine belowDrewN ?_ _ | ((with_reducible refine Below.setCell ?_ ?_ _); rotate_left; focus (first | omega | (simp; done) | (simp; omega))) | ((with_reducible refine Below.alloc ?_ ?_ _); rotate_left; focus (first | omega | (simp; done) | (simp; omega)))))
      have hq1' := hq0.below hbA p0
      cases hv : sameIdB s1 s x1 x with
      | true =>
        have hy : HasId acc s x := by
          simp only [sameIdB, Bool.and_eq_true, eqL_iff] at hv
          exact ⟨_, List.mem_of_getElem? hd, by simpa [eqTx] using hv.1, hv.2⟩
        have hyb := (hasIdB_iff _ _ _).2 hy
        have HNO := Lib.hid hno; clear hno; have HD := Lib.hid hd; clear hd; have HX1 := Lib.hid hx1; clear hx1; have HIN1 := Lib.hid hin1; clear hin1; have HI1 := Lib.hid hi1; clear hi1; have HY := Lib.hid hy; clear hy; have HYB := Lib.hid hyb; clear hyb; have HQ0 := Lib.hid hq0; clear hq0; have HQ1' := Lib.hid hq1'; clear hq1'
        go_wp2_with fail
        refine (l2Same_calls k1 n1 s1 x1 xa1 xc1 a1 ms1.length cap1 k n s x xa xc ia il ic _ (HX1.out.below (by (repeat (first | with_reducible assumption | with_reducible exact Below.refl _ _ | with_reducible refine Below.drew ?_ | with_reducible refine belowDrewN ?_ _ | ((with_reducible refine Below.setCell ?_ ?_ _); rotate_left; focus (first | omega | (simp; done) | (simp; omega))) | ((with_reducible refine Below.alloc ?_ ?_ _); rotate_left; focus (first | omega | (simp; done) | (simp; omega))))))) (HX.out.below (by (repeat (first | with_reducible assumption | with_reducible exact Below.refl _ _ | with_reducible refine Below.drew ?_ | with_reducible refine belowDrewN ?_ _ | ((with_reducible refine Below.setCell ?_ ?_ _); rotate_left; focus (first | omega | (simp; done) | (simp; omega))) | ((with_reducible refine Below.alloc ?_ ?_ _); rotate_left; focus (first | omega | (simp; done) | (simp; omega))) | ((with_reducible refine Below.trans ?_ (Below.mono hb ?_)); rotate_left; focus (first | omega | (simp; done) | (simp; omega)))))))).mono ?_
        rintro e w1 ⟨rfl, hb1⟩
        go_wp2_with fail
        go_ret
        exact ⟨ret_b HYB.out.symm, by (repeat (first | with_reducible assumption | with_reducible exact Below.refl _ _ | with_reducible refine Below.drew ?_ | with_reducible refine belowDrewN ?_ _ | ((with_reducible refine Below.setCell ?_ ?_ _); rotate_left; focus (first | omega | (simp; done) | (simp; omega))) | ((with_reducible refine Below.alloc ?_ ?_ _); rotate_left; focus (first | omega | (simp; done) | (simp; omega))) | ((with_reducible refine Below.trans ?_ (Below.mono hb ?_)); rotate_left; focus (first | omega | (simp; done) | (simp; omega))) | ((with_reducible refine Below.trans ?_ (Below.mono hb1 ?_)); rotate_left; focus (first | omega | (simp; done) | (simp; omega)))))⟩
      | false =>
        have hn2 : ¬ (s1 = s ∧ x1 = x) := by
          rintro ⟨rfl, rfl⟩
          have : sameIdB s1 s1 x1 x1 = true := by simp [sameIdB, eqTx, eqL_iff]
          rw [hv] at this; cases this
        have hno2 := noId_step hno hd hn2
        have HNO := Lib.hid hno; clear hno; have HD := Lib.hid hd; clear hd; have HX1 := Lib.hid hx1; clear hx1; have HIN1 := Lib.hid hin1; clear hin1; have HI1 := Lib.hid hi1; clear hi1; have HN2 := Lib.hid hn2; clear hn2; have HNO2 := Lib.hid hno2; clear hno2; have HQ0 := Lib.hid hq0; clear hq0; have HQ1' := Lib.hid hq1'; clear hq1'
        go_wp2_with fail
        refine (l2Same_calls k1 n1 s1 x1 xa1 xc1 a1 ms1.length cap1 k n s x xa xc ia il ic _ (HX1.out.below (by (repeat (first | with_reducible assumption | with_reducible exact Below.refl _ _ | with_reducible refine Below.drew ?_ | with_reducible refine belowDrewN ?_ _ | ((with_reducible refine Below.setCell ?_ ?_ _); rotate_left; focus (first | omega | (simp; done) | (simp; omega))) | ((with_reducible refine Below.alloc ?_ ?_ _); rotate_left; focus (first | omega | (simp; done) | (simp; omega))))))) (HX.out.below (by (repeat (first | with_reducible assumption | with_reducible exact Below.refl _ _ | with_reducible refine Below.drew ?_ | with_reducible refine belowDrewN ?_ _ | ((with_reducible refine Below.setCell ?_ ?_ _); rotate_left; focus (first | omega | (simp; done) | (simp; omega))) | ((with_reducible refine Below.alloc ?_ ?_ _); rotate_left; focus (first | omega | (simp; done) | (simp; omega))) | ((with_reducible refine Below.trans ?_ (Below.mono hb ?_)); rotate_left; focus (first | omega | (simp; done) | (simp; omega)))))))).mono ?_
        rintro e w1 ⟨rfl, hb1⟩
        have hz1 := hb1.size
        simp only [World.size_alloc] at hz1
        have hq2' := HQ1'.out.below hb1 (by simp; omega)
        have HQ2' := Lib.hid hq2'; clear hq2'
        go_wp2_with fail
        go_roundw
        case rel => exact ⟨j + 1, by omega, by go_num, HNO2.out, HQ2'.out, by (repeat (first | with_reducible assumption | with_reducible exact Below.refl _ _ | with_reducible refine Below.drew ?_ | with_reducible refine belowDrewN ?_ _ | ((with_reducible refine Below.setCell ?_ ?_ _); rotate_left; focus (first | omega | (simp; done) | (simp; omega))) | ((with_reducible refine Below.alloc ?_ ?_ _); rotate_left; focus (first | omega | (simp; done) | (simp; omega))) | ((with_reducible refine Below.trans ?_ (Below.mono hb ?_)); rotate_left; focus (first | omega | (simp; done) | (simp; omega))) | ((with_reducible refine Below.trans ?_ (Below.mono hb1 ?_)); rotate_left; focus (first | omega | (simp; done) | (simp; omega))))), by omega⟩
        case measure => simp [intOf]; omega
    · have hj2 : j = ms.length := by omega
      subst hj2
      rw [HL.out, List.take_length] at hno
      have hyb := (hasIdB_not _ _ _).2 hno
      have HNO := Lib.hid hno; clear hno; have HYB := Lib.hid hyb; clear hyb; have HQ0 := Lib.hid hq0; clear hq0
      go_wp2_with fail
      go_ret
      exact ⟨ret_b HYB.out.symm, hb⟩
end Go.Proofs.Ytoflfamfhpijcaa
