/-
  Walks: data measured and compared. No condition.
-/
import Derived.Test.YtigmgfinjapchaaDat
import Derived.Test.YtigmgfinjapchaaW5
set_option linter.unusedVariables false
set_option linter.unusedSimpArgs false
set_option maxRecDepth 100000
namespace Go.Proofs.Ytigmgfinjapchaa
open Go.RowKit


def sDO (ds : List Dat) : Prop := ∀ (k n : Int) (s : ByteArray) (a : Option Addr) (cap : Nat) (ms : List M) (w : World), Dat.depthL ds ≤ 1000000000 → Dat.IsL 58 ds ms → (M.sl a cap 4 58 ms).In w →
    Calls Try.prog 78 #[.agg #[.int .i64 k, .int .i64 n, .string s, .slice a ms.length cap]] w (Ret (.int .i64 ((Dat.depthL ds + 1 : Nat) : Int)) w)
theorem sDepthOf_calls : ∀ ds, sDO ds := by
  refine Dat.inductL fun ds ih => ?_
  intro k n s a cap ms w hB hi hin
  have hln := hi.length
  have hcapm := hin.len
  have IH := Lib.hid ih; clear ih; have HIN := Lib.hid hin; clear hin; have HI := Lib.hid hi; clear hi; have HLN := Lib.hid hln; clear hln
  go_enter Try.func78, Try.ntmps78
  go_wp2
  go_loopw [3, 9] (fun t i wr => ∃ (k g : Nat), k ≤ ms.length ∧ i = .int .i64 k ∧ t = .int .i64 (g : Int) ∧ g = Dat.depthL (ds.take k) ∧ g ≤ 1000000000 ∧ Below w.heap.size w wr ∧ w.heap.size ≤ wr.heap.size) (fun _ i _ => ms.length - (intOf i).toNat)
  case atStart => exact ⟨0, 0, Nat.zero_le _, rfl, rfl, by simp [Dat.depthL], by omega, (Below.refl _ _).alloc (Nat.le_refl _) _, by simp⟩
  case round =>
    obtain ⟨k', g, hk, rfl, rfl, hg, hgB, hb, hsz⟩ := hrel
    by_cases hlt : k' < ms.length
    · obtain ⟨b, off, k1, n1, s1, ds1, a1, cap1, ms1, rfl, hd, hi1, hin1, c0, c1, c2, c3⟩ := Dat.elem (HIN.out.below hb) HI.out k' hlt
      have ht := Dat.depthL_take hd
      have hle := Dat.depthL_get hd
      simp only [Dat.depth] at hle ht
      rw [← hg] at ht
      have HI1 := Lib.hid hi1; clear hi1; have HIN1 := Lib.hid hin1; clear hin1; have HT := Lib.hid ht; clear ht; have HD := Lib.hid hd; clear hd; have HG := Lib.hid hg; clear hg
      go_wp2_with fail
      refine (IH.out k1 n1 s1 ds1 (List.mem_of_getElem? HD.out) k1 n1 s1 a1 cap1 ms1 _ (by omega) HI1.out (HIN1.out.below ((Below.refl _ _).alloc (Nat.le_refl _) _))).mono ?_
      rintro e w1 ⟨rfl, hb1⟩
      generalize hD_ : Dat.depthL ds1 = D at *
      have HD_ := Lib.hid hD_; clear hD_
      go_wp2_with fail
      have e : (if (g : Int) < (D : Int) + 1 then (D : Int) + 1 else (g : Int)) = ((max g (D + 1) : Nat) : Int) := by split <;> omega
      go_roundw
      case rel => exact ⟨k' + 1, max g (D + 1), by omega, by go_num, by rw [e], by rw [HT.out], by omega, by (repeat (first | with_reducible assumption | with_reducible exact Below.refl _ _ | with_reducible refine Below.drew ?_ | with_reducible refine belowDrewN ?_ _ | ((with_reducible refine Below.setCell ?_ ?_ _); rotate_left; focus (first | omega | (simp; done) | (simp; omega))) | ((with_reducible refine Below.alloc ?_ ?_ _); rotate_left; focus (first | omega | (simp; done) | (simp; omega))) | ((with_reducible refine Below.trans ?_ (Below.mono hb1 ?_)); rotate_left; focus (first | omega | (simp; done) | (simp; omega))))), by have := hb1.size; simp at this; omega⟩
      case measure => simp [intOf]; omega
    · go_wp2
      go_ret
      have hk2 : k' = ms.length := by omega
      subst hk2
      refine ⟨?_, hb⟩
      rw [hg, HLN.out, List.take_length]; rfl

end Go.Proofs.Ytigmgfinjapchaa
