/-
  Walks: the law's own measure, copies and comparison of bindings. No condition.
-/
import Derived.Test.YtkofpfcbjfkdpaaGnd
import Derived.Test.YtkofpfcbjfkdpaaY2
import Derived.Test.YtkofpfcbjfkdpaaMk
set_option linter.unusedVariables false
set_option linter.unusedSimpArgs false
set_option maxRecDepth 100000
namespace Go.Proofs.Ytkofpfcbjfkdpaa
open Go.RowKit

theorem szBinding_calls (s : ByteArray) (x : List Int) (k n : Int) (xa : Option Addr) (xc : Nat) (left : Int) (w : World) (h0 : 0 ≤ left) (h1 : left ≤ 1048576) (hwf : (Bnd.mk s x k n).wf)
    (hx : (M.sl xa xc 1 3 (intM x)).In w) :
    Calls Try.prog 54 #[.agg #[.string s, .slice xa x.length xc, .int .i64 k, .int .i64 n], .int .i64 left] w (SzPost (Bnd.mk s x k n).wt left w) := by
  have hs := hwf.1
  have hxl := Ints.len hx
  have hwt : (Bnd.mk s x k n).wt = s.size + x.length := rfl
  have HWF := Lib.hid hwf; clear hwf; have HX := Lib.hid hx; clear hx; have HWT := Lib.hid hwt; clear hwt
  by_cases hn : left - (s.size : Int) < 0
  · go_enter Try.func54, Try.ntmps54
    go_wp2_with fail
    go_ret
    exact ⟨-1, rfl, by omega, by omega, by omega, by (repeat (first | with_reducible assumption | with_reducible exact Below.refl _ _ | with_reducible refine Below.drew ?_ | with_reducible refine belowDrewN ?_ _ | ((with_reducible refine Below.setCell ?_ ?_ _); rotate_left; focus (first | omega | (simp; done) | (simp; omega))) | ((with_reducible refine Below.alloc ?_ ?_ _); rotate_left; focus (first | omega | (simp; done) | (simp; omega)))))⟩
  · go_enter Try.func54, Try.ntmps54
    go_wp2_with fail
    refine (szIntS_calls xa xc x.length _ _ (by omega) (by omega) (by omega)).mono ?_
    rintro e w1 ⟨r, rfl, hr1, hr2, hr3, hb1⟩
    have HR3 := Lib.hid hr3; clear hr3
    by_cases hr : r < 0
    · go_wp2_with fail
      go_ret
      exact ⟨-1, rfl, by omega, by omega, by omega, by (repeat (first | with_reducible assumption | with_reducible exact Below.refl _ _ | with_reducible refine Below.drew ?_ | with_reducible refine belowDrewN ?_ _ | ((with_reducible refine Below.setCell ?_ ?_ _); rotate_left; focus (first | omega | (simp; done) | (simp; omega))) | ((with_reducible refine Below.alloc ?_ ?_ _); rotate_left; focus (first | omega | (simp; done) | (simp; omega))) | ((with_reducible refine Below.trans ?_ (Below.mono hb1 ?_)); rotate_left; focus (first | omega | (simp; done) | (simp; omega)))))⟩
    · go_wp2_with fail
      go_ret
      exact ⟨r, rfl, by omega, by omega, fun _ => by have := HR3.out (by omega); rw [HWT.out]; push_cast; omega, by (repeat (first | with_reducible assumption | with_reducible exact Below.refl _ _ | with_reducible refine Below.drew ?_ | with_reducible refine belowDrewN ?_ _ | ((with_reducible refine Below.setCell ?_ ?_ _); rotate_left; focus (first | omega | (simp; done) | (simp; omega))) | ((with_reducible refine Below.alloc ?_ ?_ _); rotate_left; focus (first | omega | (simp; done) | (simp; omega))) | ((with_reducible refine Below.trans ?_ (Below.mono hb1 ?_)); rotate_left; focus (first | omega | (simp; done) | (simp; omega)))))⟩
theorem szBindingS_calls (ds : List Bnd) (a : Option Addr) (cap : Nat) (ms : List M) (left : Int) (w : World) (h0 : 0 ≤ left) (h1 : left ≤ 1048576) (hwf : Bnd.wfL ds) (hi : Bnd.IsL ds ms) (hin : (M.sl a cap 4 72 ms).In w) :
    Calls Try.prog 53 #[.slice a ms.length cap, .int .i64 left] w (SzPost (ds.length + Bnd.wtX ds) left w) := by
  have hln := hi.length
  have hcapm := hin.len
  have HIN := Lib.hid hin; clear hin; have HI := Lib.hid hi; clear hi; have HWF := Lib.hid hwf; clear hwf; have HLN := Lib.hid hln; clear hln
  by_cases hn : left - (ms.length : Int) < 0
  · go_enter Try.func53, Try.ntmps53
    go_wp2_with fail
    go_ret
    exact ⟨-1, rfl, by omega, by omega, by omega, Below.refl _ _⟩
  · go_enter Try.func53, Try.ntmps53
    go_wp2_with fail
    go_loopw [1, 5] (fun t i wr => ∃ (k : Nat) (r : Int), k ≤ ms.length ∧ i = .int .i64 k ∧ t = .int .i64 r ∧ 0 ≤ r ∧ r + (Bnd.wtX (ds.take k) : Int) ≤ left - (ms.length : Int) ∧ Below w.heap.size w wr ∧ w.heap.size ≤ wr.heap.size) (fun _ i _ => ms.length - (intOf i).toNat)
    case atStart => exact ⟨0, _, Nat.zero_le _, rfl, rfl, by omega, by simp [Bnd.wtX], Below.refl _ _, Nat.le_refl _⟩
    case round =>
      obtain ⟨k', r, hk, rfl, rfl, hr0, hr, hb, hsz⟩ := hrel
      by_cases hlt : k' < ms.length
      · obtain ⟨b, off, s1, x1, k1, n1, xa1, xc1, rfl, hd, hx1, c0, c1, c2, c3⟩ := Bnd.elem (HIN.out.below hb) HI.out k' hlt
        have ht := Bnd.wtX_take hd
        have hrl : r ≤ 1048576 := by omega
        have HT := Lib.hid ht; clear ht; have HD := Lib.hid hd; clear hd; have HR := Lib.hid hr; clear hr; have HX1 := Lib.hid hx1; clear hx1
        go_wp2_with fail
        refine (szBinding_calls s1 x1 k1 n1 xa1 xc1 _ _ hr0 hrl (Bnd.wfL_get HWF.out HD.out) HX1.out).mono ?_
        rintro e w1 ⟨r1, rfl, hr1, hr2, hr3, hb1⟩
        have HR3 := Lib.hid hr3; clear hr3
        have hz1 := hb1.size
        by_cases hr : r1 < 0
        · go_wp2_with fail
          go_ret
          exact ⟨-1, rfl, by omega, by omega, by omega, by (repeat (first | with_reducible assumption | with_reducible exact Below.refl _ _ | with_reducible refine Below.drew ?_ | with_reducible refine belowDrewN ?_ _ | ((with_reducible refine Below.setCell ?_ ?_ _); rotate_left; focus (first | omega | (simp; done) | (simp; omega))) | ((with_reducible refine Below.alloc ?_ ?_ _); rotate_left; focus (first | omega | (simp; done) | (simp; omega))) | ((with_reducible refine Below.trans ?_ (Below.mono hb1 ?_)); rotate_left; focus (first | omega | (simp; done) | (simp; omega)))))⟩
        · go_wp2_with fail
          go_roundw
          case rel => exact ⟨k' + 1, r1, by omega, by go_num, rfl, by omega, by have := HR3.out (by omega); have := HR.out; rw [HT.out]; push_cast; omega, by (repeat (first | with_reducible assumption | with_reducible exact Below.refl _ _ | with_reducible refine Below.drew ?_ | with_reducible refine belowDrewN ?_ _ | ((with_reducible refine Below.setCell ?_ ?_ _); rotate_left; focus (first | omega | (simp; done) | (simp; omega))) | ((with_reducible refine Below.alloc ?_ ?_ _); rotate_left; focus (first | omega | (simp; done) | (simp; omega))) | ((with_reducible refine Below.trans ?_ (Below.mono hb1 ?_)); rotate_left; focus (first | omega | (simp; done) | (simp; omega))))), by omega⟩
          case measure => simp [intOf]; omega
      · go_wp2
        go_ret
        have hk2 : k' = ms.length := by omega
        subst hk2
        rw [HLN.out, List.take_length] at hr
        exact ⟨r, rfl, by omega, by omega, fun _ => by push_cast; omega, hb⟩
def zeroB : Bnd := .mk ⟨#[]⟩ [] 0 0
def zeroBM : M := bndM ⟨#[]⟩ none 0 [] 0 0
theorem zeroBM_own (w : World) (lo : Nat) : zeroBM.Own w lo := (bndM_mine (M.Mine.nil w lo 1 3 (by decide)) _ _ _).own
theorem zeroB_is : zeroB.Is zeroBM := ⟨none, 0, rfl⟩
theorem infoBnd : (Try.prog.info? 49).map (fun i => (i.zero, i.size, i.bytes)) = some (some (.agg #[.string ⟨#[]⟩, .slice none 0 0, .int .i64 0, .int .i64 0]), 4, 56) := by kernel_rfl
theorem toBinding_calls (s : ByteArray) (x : List Int) (k n : Int) (xa : Option Addr) (xc : Nat) (w : World) (hB : x.length ≤ 1048576) (hx : (M.sl xa xc 1 3 (intM x)).In w) :
    Calls Try.prog 57 #[.agg #[.string s, .slice xa x.length xc, .int .i64 k, .int .i64 n]] w (RetBnd (.mk s x k n) w) := by
  have HX := Lib.hid hx; clear hx
  go_enter Try.func57, Try.ntmps57
  go_wp2_with fail
  refine (toIntS_calls xa xc x _ (HX.out.below (by (repeat (first | with_reducible assumption | with_reducible exact Below.refl _ _ | with_reducible refine Below.drew ?_ | with_reducible refine belowDrewN ?_ _ | ((with_reducible refine Below.setCell ?_ ?_ _); rotate_left; focus (first | omega | (simp; done) | (simp; omega))) | ((with_reducible refine Below.alloc ?_ ?_ _); rotate_left; focus (first | omega | (simp; done) | (simp; omega))))))) hB).mono ?_
  rintro e w1 ⟨a1, cap1, rfl, hm1, hb1⟩
  obtain ⟨hc1, hf1⟩ := bcell hb1; have hz1 := hb1.size; (try simp only [World.size_alloc, World.size_setCell, World.size_drew, sizeDrewN] at hz1 hc1 hf1); have hp1_0 : w.heap.size < w1.heap.size := (by omega); have hp1_1 : w.heap.size + 1 < w1.heap.size := (by omega); have hp1_2 : w.heap.size + 2 < w1.heap.size := (by omega)
  go_wp2_with fail
  refine bodyPost_ret (v := .agg #[.string s, .slice a1 x.length cap1, .int .i64 k, .int .i64 n]) (by simp (disch := first | omega | (simp; done) | (simp; omega)) [results, Try.results57, go_sem, hc1]) rfl ?_
  refine ⟨a1, cap1, rfl, ?_, ?_⟩
  · (exact M.Mine.mono (M.Mine.keep hm1 (fun b hb1 hb2 => by (try simp at hb1); simp (disch := (first | omega | (simp; omega))) only [heapSet, heapNew, heapDrew, heapDrewN])) (by first | omega | (simp; done) | (simp; omega)))
  · (repeat (first | with_reducible assumption | with_reducible exact Below.refl _ _ | with_reducible refine Below.drew ?_ | with_reducible refine belowDrewN ?_ _ | ((with_reducible refine Below.setCell ?_ ?_ _); rotate_left; focus (first | omega | (simp; done) | (simp; omega))) | ((with_reducible refine Below.alloc ?_ ?_ _); rotate_left; focus (first | omega | (simp; done) | (simp; omega))) | ((with_reducible refine Below.trans ?_ (Below.mono hb1 ?_)); rotate_left; focus (first | omega | (simp; done) | (simp; omega)))))
theorem toBindingS_calls (ds : List Bnd) (a : Option Addr) (cap : Nat) (ms : List M) (w : World) (hB : ds.length + Bnd.wtX ds ≤ 1048576) (hi : Bnd.IsL ds ms) (hin : (M.sl a cap 4 72 ms).In w) :
    Calls Try.prog 56 #[.slice a ms.length cap] w (RetBnds 49 ds w) := by
  have hln := hi.length
  have hcapm := hin.len
  have hml : ms.length ≤ 1048576 := by omega
  obtain ⟨i0, hi0, hz0, hz1, hz2⟩ := info_parts infoBnd
  have HIN := Lib.hid hin; clear hin; have HI := Lib.hid hi; clear hi; have HLN := Lib.hid hln; clear hln; have HB := Lib.hid hB; clear hB
  go_enter Try.func56, Try.ntmps56
  go_wp2_with (at_make; refine wpList_make_full _ rfl _ _ 39 rfl w.heap.size 49 i0 _ 4 Try.underlying39 hi0 hz0 hz1 _ _ _ _ ms.length rfl rfl rfl rfl ?b2 ?b3 ?b4 ?_)
  case b2 => rw [hz2]; omega
  case b3 => unfold maxLen; omega
  case b4 => omega
  intro w1 hown hgrow
  have hm : (M.sl (some ⟨w.heap.size, 0, none⟩) ms.length 4 49 (List.replicate ms.length zeroBM)).Mine w1 w.heap.size :=
    M.Mine.made zeroBM rfl rfl (by decide) rfl (fun _ _ => zeroBM_own _ _) hown
  have hb1 : Below w.heap.size w w1 := ⟨hgrow.os, hgrow.tape, hgrow.output, hgrow.size, fun k hk => hgrow.block k hk (by simp)⟩
  have HOWN := Lib.hid hown; clear hown; have HGROW := Lib.hid hgrow; clear hgrow; have HM := Lib.hid hm; clear hm
  go_wp2_with fail
  go_loopw [4] (fun i wr => ∃ (k : Nat) (ns : List M), k ≤ ms.length ∧ i = .int .i64 k ∧ ns.length = ms.length ∧ Bnd.IsL (ds.take k ++ List.replicate (ms.length - k) zeroB) ns ∧ (M.sl (some ⟨w.heap.size, 0, none⟩) ms.length 4 49 ns).Mine wr w.heap.size ∧ Below w.heap.size w wr ∧ w.heap.size ≤ wr.heap.size) (fun i _ => ms.length - (intOf i).toNat)
  case atStart => exact ⟨0, _, Nat.zero_le _, rfl, by simp, by simpa using Bnd.IsL.replicate zeroB_is _, HM.out, hb1, hb1.size⟩
  case round =>
    obtain ⟨k', ns, hk, rfl, hnl, hns, hmine, hb, hsz⟩ := hrel
    by_cases hlt : k' < ms.length
    · obtain ⟨b, off, s1, x1, k1, n1, xa1, xc1, rfl, hd, hx1, c0, c1, c2, c3⟩ := Bnd.elem (HIN.out.below hb) HI.out k' hlt
      have hle : x1.length ≤ 1048576 := by have := Bnd.wt_le hd; have := HB.out; simp only [Bnd.wt] at *; omega
      obtain ⟨g', hg', _, hgl⟩ := hmine.addr (by omega)
      simp only [Option.some.injEq, Addr.mk.injEq, and_true] at hg'
      subst hg'
      have HX1 := Lib.hid hx1; clear hx1; have HD := Lib.hid hd; clear hd; have HNL := Lib.hid hnl; clear hnl; have HNS := Lib.hid hns; clear hns
      have HMI := Lib.hid hmine
      clear hmine
      go_wp2_with fail
      refine (toBinding_calls s1 x1 k1 n1 xa1 xc1 _ hle HX1.out).mono ?_
      rintro e w2 ⟨xa2, xc2, rfl, hm2, hb2⟩
      obtain ⟨hc2, hf2⟩ := bcell hb2; have hz2 := hb2.size; (try simp only [World.size_alloc, World.size_setCell, World.size_drew, sizeDrewN] at hz2 hc2 hf2)
      have hmi2 := HMI.out.below hb2
      obtain ⟨⟨u0, r0⟩, f0⟩ := HMI.out.row (k' * 4) (by rw [HNL.out]; omega)
      obtain ⟨⟨u1, r1⟩, f1⟩ := HMI.out.row (k' * 4 + 1) (by rw [HNL.out]; omega)
      obtain ⟨⟨u2, r2⟩, f2⟩ := HMI.out.row (k' * 4 + 2) (by rw [HNL.out]; omega)
      obtain ⟨⟨u3, r3⟩, f3⟩ := HMI.out.row (k' * 4 + 3) (by rw [HNL.out]; omega)
      simp only [Bnd.k_mk, Bnd.n_mk, Bnd.s_mk, Bnd.x_mk] at *
      have hset := hmi2.setElem k' (by rw [HNL.out]; exact hlt) (bndM s1 xa2 xc2 x1 k1 n1) rfl ((bndM_mine hm2 s1 k1 n1).mono hsz) (fun b hb => by
        have h1 := hm2.lt b (by rw [bndM_blocks] at hb; simp [M.blocks, hb])
        have h2 := HMI.out.lt_size
        simp only [M.blocks] at h2
        exact ⟨by omega, .inr fun hn => by have := h2 b (List.mem_append.2 (.inr hn)); omega⟩)
      rw [bndM_cells] at hset
      have hns2 := HNS.out.set k' (d := .mk s1 x1 k1 n1) (m := bndM s1 xa2 xc2 x1 k1 n1) ⟨xa2, xc2, rfl⟩
      rw [set_take HD.out HLN.out] at hns2
      have HM2 := Lib.hid hm2; clear hm2; have HMI2 := Lib.hid hmi2; clear hmi2; have HSET := Lib.hid hset; clear hset; have HNS2 := Lib.hid hns2; clear hns2
      go_wp2_with fail
      go_roundw
      case rel => exact ⟨k' + 1, _, by omega, by go_num, by rw [List.length_set]; exact HNL.out, HNS2.out, HSET.out, by (repeat (first | with_reducible assumption | with_reducible exact Below.refl _ _ | with_reducible refine Below.drew ?_ | with_reducible refine belowDrewN ?_ _ | ((with_reducible refine Below.setCell ?_ ?_ _); rotate_left; focus (first | omega | (simp; done) | (simp; omega))) | ((with_reducible refine Below.alloc ?_ ?_ _); rotate_left; focus (first | omega | (simp; done) | (simp; omega))) | ((with_reducible refine Below.trans ?_ (Below.mono hb2 ?_)); rotate_left; focus (first | omega | (simp; done) | (simp; omega))))), by simp; omega⟩
      case measure => simp [intOf]; omega
    · go_wp2
      go_ret
      have hk2 : k' = ms.length := by omega
      subst hk2
      refine ⟨_, _, ns, by rw [hnl]; rfl, ?_, hmine, hb⟩
      rw [Nat.sub_self, HLN.out, List.take_length] at hns
      simpa using hns
theorem eqBinding_calls (s : ByteArray) (x : List Int) (k n : Int) (xa : Option Addr) (xc : Nat) (xa' : Option Addr) (xc' : Nat) (w : World)
    (hx : (M.sl xa xc 1 3 (intM x)).In w) (hx' : (M.sl xa' xc' 1 3 (intM x)).In w) :
    Calls Try.prog 59 #[.agg #[.string s, .slice xa x.length xc, .int .i64 k, .int .i64 n], .agg #[.string s, .slice xa' x.length xc', .int .i64 k, .int .i64 n]] w (Ret (.bool true) w) := by
  have HX := Lib.hid hx; clear hx; have HX' := Lib.hid hx'; clear hx'
  go_enter Try.func59, Try.ntmps59
  go_wp2_with fail
  refine (eqIntS_same xa xc x xa' xc' _ (HX.out.below (by (repeat (first | with_reducible assumption | with_reducible exact Below.refl _ _ | with_reducible refine Below.drew ?_ | with_reducible refine belowDrewN ?_ _ | ((with_reducible refine Below.setCell ?_ ?_ _); rotate_left; focus (first | omega | (simp; done) | (simp; omega))) | ((with_reducible refine Below.alloc ?_ ?_ _); rotate_left; focus (first | omega | (simp; done) | (simp; omega))))))) (HX'.out.below (by (repeat (first | with_reducible assumption | with_reducible exact Below.refl _ _ | with_reducible refine Below.drew ?_ | with_reducible refine belowDrewN ?_ _ | ((with_reducible refine Below.setCell ?_ ?_ _); rotate_left; focus (first | omega | (simp; done) | (simp; omega))) | ((with_reducible refine Below.alloc ?_ ?_ _); rotate_left; focus (first | omega | (simp; done) | (simp; omega)))))))).mono ?_
  rintro e w1 ⟨rfl, hb1⟩
  obtain ⟨hc1, hf1⟩ := bcell hb1; have hz1 := hb1.size; (try simp only [World.size_alloc, World.size_setCell, World.size_drew, sizeDrewN] at hz1 hc1 hf1); have hp1_0 : w.heap.size < w1.heap.size := (by omega); have hp1_1 : w.heap.size + 1 < w1.heap.size := (by omega)
  go_wp2_with fail
  go_ret
  exact ⟨rfl, by (repeat (first | with_reducible assumption | with_reducible exact Below.refl _ _ | with_reducible refine Below.drew ?_ | with_reducible refine belowDrewN ?_ _ | ((with_reducible refine Below.setCell ?_ ?_ _); rotate_left; focus (first | omega | (simp; done) | (simp; omega))) | ((with_reducible refine Below.alloc ?_ ?_ _); rotate_left; focus (first | omega | (simp; done) | (simp; omega))) | ((with_reducible refine Below.trans ?_ (Below.mono hb1 ?_)); rotate_left; focus (first | omega | (simp; done) | (simp; omega)))))⟩
theorem Bnd.elem2 {w : World} {a : Option Addr} {cap : Nat} {e : TypeId} {ds : List Bnd} {ms : List M} (h : (M.sl a cap 4 e ms).In w) (hi : Bnd.IsL ds ms)
    {a' : Option Addr} {cap' : Nat} {e' : TypeId} {ms' : List M} (h' : (M.sl a' cap' 4 e' ms').In w) (hi' : Bnd.IsL ds ms') (k : Nat) (hk : k < ms.length) :
    ∃ b off b' off' s1 x1 k1 n1 xa1 xc1 xa1' xc1', a = some ⟨b, off, none⟩ ∧ a' = some ⟨b', off', none⟩ ∧ ds[k]? = some (.mk s1 x1 k1 n1) ∧ (M.sl xa1 xc1 1 3 (intM x1)).In w ∧ (M.sl xa1' xc1' 1 3 (intM x1)).In w ∧
      w.cell? ⟨b, off + k * 4, none⟩ = some (.string s1) ∧ w.cell? ⟨b, off + k * 4 + 1, none⟩ = some (.slice xa1 x1.length xc1) ∧
      w.cell? ⟨b, off + k * 4 + 2, none⟩ = some (.int .i64 k1) ∧ w.cell? ⟨b, off + k * 4 + 3, none⟩ = some (.int .i64 n1) ∧
      w.cell? ⟨b', off' + k * 4, none⟩ = some (.string s1) ∧ w.cell? ⟨b', off' + k * 4 + 1, none⟩ = some (.slice xa1' x1.length xc1') ∧
      w.cell? ⟨b', off' + k * 4 + 2, none⟩ = some (.int .i64 k1) ∧ w.cell? ⟨b', off' + k * 4 + 3, none⟩ = some (.int .i64 n1) := by
  obtain ⟨b, off, s1, x1, k1, n1, xa1, xc1, ha, hd, hx1, c0, c1, c2, c3⟩ := Bnd.elem h hi k hk
  obtain ⟨b', off', s1', x1', k1', n1', xa1', xc1', ha', hd', hx1', c0', c1', c2', c3'⟩ := Bnd.elem h' hi' k (by rw [hi'.length, ← hi.length]; exact hk)
  rw [hd] at hd'
  simp only [Option.some.injEq, Bnd.mk.injEq] at hd'
  obtain ⟨rfl, rfl, rfl, rfl⟩ := hd'
  exact ⟨b, off, b', off', s1, x1, k1, n1, xa1, xc1, xa1', xc1', ha, ha', hd, hx1, hx1', c0, c1, c2, c3, c0', c1', c2', c3'⟩
theorem eqBindingS_calls (ds : List Bnd) (a : Option Addr) (cap : Nat) (ms : List M) (a' : Option Addr) (cap' : Nat) (ms' : List M) (w : World) (hi : Bnd.IsL ds ms) (hin : (M.sl a cap 4 49 ms).In w) (hi' : Bnd.IsL ds ms') (hin' : (M.sl a' cap' 4 49 ms').In w) :
    Calls Try.prog 58 #[.slice a ms.length cap, .slice a' ms'.length cap'] w (Ret (.bool true) w) := by
  have hln := hi.length
  have hln' := hi'.length
  have hcapm := hin.len
  have hl2 : ms'.length = ms.length := by omega
  rw [hl2]
  have HIN := Lib.hid hin; clear hin; have HI := Lib.hid hi; clear hi; have HIN' := Lib.hid hin'; clear hin'; have HI' := Lib.hid hi'; clear hi'; have HLN := Lib.hid hln; clear hln; have HLN' := Lib.hid hln'; clear hln'; have HL2 := Lib.hid hl2; clear hl2
  go_enter Try.func58, Try.ntmps58
  go_wp2_with fail
  go_loopw [5] (fun i wr => ∃ k : Nat, k ≤ ms.length ∧ i = .int .i64 k ∧ Below w.heap.size w wr ∧ w.heap.size ≤ wr.heap.size) (fun i _ => ms.length - (intOf i).toNat)
  case atStart => exact ⟨0, Nat.zero_le _, rfl, Below.refl _ _, Nat.le_refl _⟩
  case round =>
    obtain ⟨k', hk, rfl, hb, hsz⟩ := hrel
    by_cases hlt : k' < ms.length
    · obtain ⟨b, off, b', off', s1, x1, k1, n1, xa1, xc1, xa1', xc1', rfl, rfl, hd, hx1, hx1', c0, c1, c2, c3, c0', c1', c2', c3'⟩ := Bnd.elem2 (HIN.out.below hb) HI.out (HIN'.out.below hb) HI'.out k' hlt
      have hbl := World.block_lt_of_cell? wr _ c0
      have hbl' := World.block_lt_of_cell? wr _ c0'
      have HD := Lib.hid hd; clear hd; have HX1 := Lib.hid hx1; clear hx1; have HX1' := Lib.hid hx1'; clear hx1'
      go_wp2_with fail
      go_region_held3 (fun w' => w'.cell? ⟨b, off + k' * 4, none⟩ = some (.string s1) ∧ w'.cell? ⟨b, off + k' * 4 + 1, none⟩ = some (.slice xa1 x1.length xc1) ∧ w'.cell? ⟨b, off + k' * 4 + 2, none⟩ = some (.int .i64 k1) ∧ w'.cell? ⟨b, off + k' * 4 + 3, none⟩ = some (.int .i64 n1) ∧ w'.cell? ⟨b', off' + k' * 4, none⟩ = some (.string s1) ∧ w'.cell? ⟨b', off' + k' * 4 + 1, none⟩ = some (.slice xa1' x1.length xc1') ∧ w'.cell? ⟨b', off' + k' * 4 + 2, none⟩ = some (.int .i64 k1) ∧ w'.cell? ⟨b', off' + k' * 4 + 3, none⟩ = some (.int .i64 n1))
        (first | exact ⟨c0, c1, c2, c3, c0', c1', c2', c3'⟩ | exact ⟨(hc1 _ _ hbl).trans c0, (hc1 _ _ hbl).trans c1, (hc1 _ _ hbl).trans c2, (hc1 _ _ hbl).trans c3, (hc1 _ _ hbl').trans c0', (hc1 _ _ hbl').trans c1', (hc1 _ _ hbl').trans c2', (hc1 _ _ hbl').trans c3'⟩)
        (first | (go_at_call 59; refine (eqBinding_calls s1 x1 k1 n1 xa1 xc1 xa1' xc1' _ (HX1.out.below (by (repeat (first | with_reducible assumption | with_reducible exact Below.refl _ _ | with_reducible refine Below.drew ?_ | with_reducible refine belowDrewN ?_ _ | ((with_reducible refine Below.setCell ?_ ?_ _); rotate_left; focus (first | omega | (simp; done) | (simp; omega))) | ((with_reducible refine Below.alloc ?_ ?_ _); rotate_left; focus (first | omega | (simp; done) | (simp; omega))))))) (HX1'.out.below (by (repeat (first | with_reducible assumption | with_reducible exact Below.refl _ _ | with_reducible refine Below.drew ?_ | with_reducible refine belowDrewN ?_ _ | ((with_reducible refine Below.setCell ?_ ?_ _); rotate_left; focus (first | omega | (simp; done) | (simp; omega))) | ((with_reducible refine Below.alloc ?_ ?_ _); rotate_left; focus (first | omega | (simp; done) | (simp; omega)))))))).mono ?_; rintro e w1 ⟨rfl, hb1⟩; obtain ⟨hc1, hf1⟩ := bcell hb1))
      have hz1 := hb1.size
      simp only [World.size_drew] at hz1
      go_wp2_with fail
      go_roundw
      case rel => exact ⟨k' + 1, by omega, by go_num, by (repeat (first | with_reducible assumption | with_reducible exact Below.refl _ _ | with_reducible refine Below.drew ?_ | with_reducible refine belowDrewN ?_ _ | ((with_reducible refine Below.setCell ?_ ?_ _); rotate_left; focus (first | omega | (simp; done) | (simp; omega))) | ((with_reducible refine Below.alloc ?_ ?_ _); rotate_left; focus (first | omega | (simp; done) | (simp; omega))) | ((with_reducible refine Below.trans ?_ (Below.mono hb1 ?_)); rotate_left; focus (first | omega | (simp; done) | (simp; omega))))), by omega⟩
      case measure => simp [intOf]; omega
    · go_wp2
      go_ret
      exact ⟨rfl, hb⟩
end Go.Proofs.Ytkofpfcbjfkdpaa
