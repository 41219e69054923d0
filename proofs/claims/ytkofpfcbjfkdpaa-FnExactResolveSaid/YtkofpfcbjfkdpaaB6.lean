/-
  Walks: the reference's Candidates. No condition.
-/
import Derived.Test.YtkofpfcbjfkdpaaB5
set_option linter.unusedVariables false
set_option linter.unusedSimpArgs false
set_option maxRecDepth 100000
namespace Go.Proofs.Ytkofpfcbjfkdpaa
open Go.RowKit

set_option maxHeartbeats 2000000 in
theorem sCandidates_calls (ds : List Bnd) (a : Option Addr) (cap : Nat) (ms : List M) (k n : Int) (s : ByteArray) (x : List Int) (es : List Syn) (xa : Option Addr) (xc : Nat) (ia : Option Addr) (ic : Nat) (ims : List M) (w : World) (hwf : Bnd.wfL ds)
    (hB : ds.length + Bnd.wtX ds ≤ 4000000) (hi : Bnd.IsL ds ms) (hin : (M.sl a cap 4 49 ms).In w) (hwf2 : (Syn.mk k n s x es).wf) (hcB : Syn.countL es ≤ 1000000000) (hi2 : Syn.IsL 43 es ims) (hown : (SynOwn 43 xa xc x ia ic ims).In w) :
    Calls Try.prog 86 #[.slice a ms.length cap, .agg #[.int .i64 k, .int .i64 n, .string s, .slice xa x.length xc, .slice ia ims.length ic]] w (RetBnds 49 (candG (areB ds && isIdB k n s x es) s x ds) w) := by
  have hl := hi.length
  have hcap := hin.len
  have hx := SynIn_x hown
  have hxl := Ints.len hx
  have hcB2 : (cands s x ds).length + Bnd.wtX (cands s x ds) ≤ 4000000 := by
    have h1 := cands_length s x ds; have h2 : Bnd.wtX (cands s x ds) ≤ Bnd.wtX ds := Bnd.wtX_filter _ _; omega
  have HI := Lib.hid hi; clear hi; have HIN := Lib.hid hin; clear hin; have HX := Lib.hid hx; clear hx; have HWF := Lib.hid hwf; clear hwf; have HL := Lib.hid hl; clear hl; have HI2 := Lib.hid hi2; clear hi2; have HOWN := Lib.hid hown; clear hown; have HWF2 := Lib.hid hwf2; clear hwf2; have HCB2 := Lib.hid hcB2; clear hcB2
  go_enter Try.func86, Try.ntmps86
  go_wp2_with fail
  refine (sAreBindings_calls ds a cap ms _ HWF.out HI.out (HIN.out.below (by (repeat (first | with_reducible assumption | with_reducible exact Below.refl _ _ | with_reducible refine Below.drew ?_ | with_reducible refine belowDrewN ?_ _ | ((with_reducible refine Below.setCell ?_ ?_ _); rotate_left; focus (first | omega | (simp; done) | (simp; omega))) | ((with_reducible refine Below.alloc ?_ ?_ _); rotate_left; focus (first | omega | (simp; done) | (simp; omega)))))))).mono ?_
  rintro e w1 ⟨rfl, hb1⟩
  have hq1 : SBox w.heap.size k n s (.slice xa x.length xc) (.slice ia ims.length ic) w1 := (SBox.new k n s (.slice xa x.length xc) (.slice ia ims.length ic) w).below hb1 (by simp)
  have hz1 := hb1.size
  simp only [World.size_alloc] at hz1
  cases hA : areB ds with
  | false =>
    have hno : candG (areB ds && isIdB k n s x es) s x ds = [] := by rw [hA]; rfl
    have HA := Lib.hid hA; clear hA; have HNO := Lib.hid hno; clear hno
    clear hq1
    go_wp2_with fail
    go_ret
    exact ⟨none, 0, [], rfl, by rw [HNO.out]; rfl, M.Mine.nil _ _ _ _ (by decide), by (repeat (first | with_reducible assumption | with_reducible exact Below.refl _ _ | with_reducible refine Below.drew ?_ | with_reducible refine belowDrewN ?_ _ | ((with_reducible refine Below.setCell ?_ ?_ _); rotate_left; focus (first | omega | (simp; done) | (simp; omega))) | ((with_reducible refine Below.alloc ?_ ?_ _); rotate_left; focus (first | omega | (simp; done) | (simp; omega))) | ((with_reducible refine Below.trans ?_ (Below.mono hb1 ?_)); rotate_left; focus (first | omega | (simp; done) | (simp; omega)))))⟩
  | true =>
    have p0 := hq1.lt
    obtain ⟨q0, q1, q2, q3, q4, f0, f1, f2, f3, f4⟩ := hq1
    go_wp2_with fail
    refine (sIsIdentifier_calls k n s x es xa xc ia ic ims _ HWF2.out hcB HI2.out (HOWN.out.below (by (repeat (first | with_reducible assumption | with_reducible exact Below.refl _ _ | with_reducible refine Below.drew ?_ | with_reducible refine belowDrewN ?_ _ | ((with_reducible refine Below.setCell ?_ ?_ _); rotate_left; focus (first | omega | (simp; done) | (simp; omega))) | ((with_reducible refine Below.alloc ?_ ?_ _); rotate_left; focus (first | omega | (simp; done) | (simp; omega))) | ((with_reducible refine Below.trans ?_ (Below.mono hb1 ?_)); rotate_left; focus (first | omega | (simp; done) | (simp; omega)))))))).mono ?_
    rintro e w2 ⟨rfl, hb2⟩
    have hq2 : SBox w.heap.size k n s (.slice xa x.length xc) (.slice ia ims.length ic) w2 := SBox.below ⟨q0, q1, q2, q3, q4, f0, f1, f2, f3, f4⟩ hb2 p0
    clear q0 q1 q2 q3 q4 f0 f1 f2 f3 f4
    have hz2 := hb2.size
    cases hid : isIdB k n s x es with
    | false =>
      have hno : candG (areB ds && isIdB k n s x es) s x ds = [] := by rw [hA, hid]; rfl
      have HA := Lib.hid hA; clear hA; have HID := Lib.hid hid; clear hid; have HNO := Lib.hid hno; clear hno
      clear hq2
      go_wp2_with fail
      go_ret
      exact ⟨none, 0, [], rfl, by rw [HNO.out]; rfl, M.Mine.nil _ _ _ _ (by decide), by (repeat (first | with_reducible assumption | with_reducible exact Below.refl _ _ | with_reducible refine Below.drew ?_ | with_reducible refine belowDrewN ?_ _ | ((with_reducible refine Below.setCell ?_ ?_ _); rotate_left; focus (first | omega | (simp; done) | (simp; omega))) | ((with_reducible refine Below.alloc ?_ ?_ _); rotate_left; focus (first | omega | (simp; done) | (simp; omega))) | ((with_reducible refine Below.trans ?_ (Below.mono hb1 ?_)); rotate_left; focus (first | omega | (simp; done) | (simp; omega))) | ((with_reducible refine Below.trans ?_ (Below.mono hb2 ?_)); rotate_left; focus (first | omega | (simp; done) | (simp; omega)))))⟩
    | true =>
      have hno : candG (areB ds && isIdB k n s x es) s x ds = cands s x ds := by rw [hA, hid]; rfl
      have hbz : Below w.heap.size w w2 := by (repeat (first | with_reducible assumption | with_reducible exact Below.refl _ _ | with_reducible refine Below.drew ?_ | with_reducible refine belowDrewN ?_ _ | ((with_reducible refine Below.setCell ?_ ?_ _); rotate_left; focus (first | omega | (simp; done) | (simp; omega))) | ((with_reducible refine Below.alloc ?_ ?_ _); rotate_left; focus (first | omega | (simp; done) | (simp; omega))) | ((with_reducible refine Below.trans ?_ (Below.mono hb1 ?_)); rotate_left; focus (first | omega | (simp; done) | (simp; omega))) | ((with_reducible refine Below.trans ?_ (Below.mono hb2 ?_)); rotate_left; focus (first | omega | (simp; done) | (simp; omega)))))
      obtain ⟨q0, q1, q2, q3, q4, f0, f1, f2, f3, f4⟩ := hq2
      have HA := Lib.hid hA; clear hA; have HID := Lib.hid hid; clear hid; have HNO := Lib.hid hno; clear hno
      go_wp2_with fail
      refine (l3Candidates_calls ds a cap ms k n s x xa xc ia ims.length ic _ hB HI.out (HIN.out.below (by (repeat (first | with_reducible assumption | with_reducible exact Below.refl _ _ | with_reducible refine Below.drew ?_ | with_reducible refine belowDrewN ?_ _ | ((with_reducible refine Below.setCell ?_ ?_ _); rotate_left; focus (first | omega | (simp; done) | (simp; omega))) | ((with_reducible refine Below.alloc ?_ ?_ _); rotate_left; focus (first | omega | (simp; done) | (simp; omega))) | ((with_reducible refine Below.trans ?_ (Below.mono hbz ?_)); rotate_left; focus (first | omega | (simp; done) | (simp; omega))))))) (HX.out.below (by (repeat (first | with_reducible assumption | with_reducible exact Below.refl _ _ | with_reducible refine Below.drew ?_ | with_reducible refine belowDrewN ?_ _ | ((with_reducible refine Below.setCell ?_ ?_ _); rotate_left; focus (first | omega | (simp; done) | (simp; omega))) | ((with_reducible refine Below.alloc ?_ ?_ _); rotate_left; focus (first | omega | (simp; done) | (simp; omega))) | ((with_reducible refine Below.trans ?_ (Below.mono hbz ?_)); rotate_left; focus (first | omega | (simp; done) | (simp; omega)))))))).mono ?_
      rintro e w3 ⟨a3, cap3, ms3, rfl, hi3, hin3, hb3⟩
      have HI3 := Lib.hid hi3; clear hi3; have HIN3 := Lib.hid hin3; clear hin3
      go_wp2_with fail
      refine (l3Copy_calls (cands s x ds) a3 cap3 ms3 _ HCB2.out HI3.out (HIN3.out.below (by (repeat (first | with_reducible assumption | with_reducible exact Below.refl _ _ | with_reducible refine Below.drew ?_ | with_reducible refine belowDrewN ?_ _ | ((with_reducible refine Below.setCell ?_ ?_ _); rotate_left; focus (first | omega | (simp; done) | (simp; omega))) | ((with_reducible refine Below.alloc ?_ ?_ _); rotate_left; focus (first | omega | (simp; done) | (simp; omega)))))))).mono ?_
      rintro e w4 ⟨a4, cap4, ms4, rfl, hi4, hm4, hb4⟩
      have hz3 := hb3.size
      have HI4 := Lib.hid hi4; clear hi4; have HM4 := Lib.hid hm4; clear hm4
      go_wp2_with fail
      go_ret
      exact ⟨a4, cap4, ms4, rfl, by rw [HNO.out]; exact HI4.out, by (exact M.Mine.mono (M.Mine.keep HM4.out (fun b hb1 hb2 => by (try simp at hb1); simp (disch := (first | omega | (simp; omega))) only [heapSet, heapNew, heapDrew, heapDrewN])) (by first | omega | (simp; done) | (simp; omega))), by (repeat (first | with_reducible assumption | with_reducible exact Below.refl _ _ | with_reducible refine Below.drew ?_ | with_reducible refine belowDrewN ?_ _ | ((with_reducible refine Below.setCell ?_ ?_ _); rotate_left; focus (first | omega | (simp; done) | (simp; omega))) | ((with_reducible refine Below.alloc ?_ ?_ _); rotate_left; focus (first | omega | (simp; done) | (simp; omega))) | ((with_reducible refine Below.trans ?_ (Below.mono hbz ?_)); rotate_left; focus (first | omega | (simp; done) | (simp; omega))) | ((with_reducible refine Below.trans ?_ (Below.mono hb3 ?_)); rotate_left; focus (first | omega | (simp; done) | (simp; omega))) | ((with_reducible refine Below.trans ?_ (Below.mono hb4 ?_)); rotate_left; focus (first | omega | (simp; done) | (simp; omega)))))⟩
end Go.Proofs.Ytkofpfcbjfkdpaa
