/-
  Walks: StripUses. No condition. (printed by wip/tools/mkm5.py)
-/
import Derived.Test.YtkofpfcbjfkdpaaM5
set_option linter.unusedVariables false
set_option linter.unusedSimpArgs false
set_option maxRecDepth 100000
namespace Go.Proofs.Ytkofpfcbjfkdpaa
open Go.RowKit

theorem isSynB_ok {k n : Int} {s : ByteArray} {x : List Int} {ds : List Syn} (h : isSynB k n s x ds = true) : (Syn.mk k n s x ds).ok := by classical (have h2 : IsSynP k n s x ds := by unfold isSynB at h; simpa using h); exact h2.2.2
theorem strip_same : ∀ y, ssB y = true → noUse y = woUse y := fun y hy => by simp [woUse, hy]
set_option maxHeartbeats 1000000 in
theorem iStripUses_calls (k n : Int) (s : ByteArray) (x : List Int) (ds : List Syn) (xa : Option Addr) (xc : Nat) (a : Option Addr) (cap : Nat) (ms : List M) (w : World) (hwf : (Syn.mk k n s x ds).wf) (hcB : Syn.countL ds ≤ 1000000000) (hB : s.size + (x.length + (ds.length + Syn.wtX ds)) ≤ 2000000) (hi : Syn.IsL 43 ds ms) (hown : (SynOwn 43 xa xc x a cap ms).In w) :
    Calls Try.prog 68 #[.agg #[.int .i64 k, .int .i64 n, .string s, .slice xa x.length xc, .slice a ms.length cap]] w (RetSyn 43 (.mk k n s (mapGx (isSynB k n s x ds) (woUse) k x) (mapGd (isSynB k n s x ds) (woUse) ds)) w) := by
  have hx := SynIn_x hown
  have hin := SynIn_ms hown
  have hcap := hin.len
  have hxl := Ints.len hx
  have HI := Lib.hid hi; clear hi; have HX := Lib.hid hx; clear hx; have HIN := Lib.hid hin; clear hin; have HOWN := Lib.hid hown; clear hown; have HWF := Lib.hid hwf; clear hwf
  go_enter Try.func68, Try.ntmps68
  go_wp2_with fail
  refine (iIsSyntax_calls k n s x ds xa xc a cap ms _ HWF.out hcB HI.out (HOWN.out.below (by (repeat (first | with_reducible assumption | with_reducible exact Below.refl _ _ | with_reducible refine Below.drew ?_ | with_reducible refine belowDrewN ?_ _ | ((with_reducible refine Below.setCell ?_ ?_ _); rotate_left; focus (first | omega | (simp; done) | (simp; omega))) | ((with_reducible refine Below.alloc ?_ ?_ _); rotate_left; focus (first | omega | (simp; done) | (simp; omega)))))))).mono ?_
  rintro e w1 ⟨rfl, hb1⟩
  obtain ⟨hc1, hf1⟩ := bcell hb1; have hz1 := hb1.size; (try simp only [World.size_alloc, World.size_setCell, World.size_drew, sizeDrewN] at hz1 hc1 hf1)
  have p0 : w.heap.size < w1.heap.size := by omega
  have p1 : w.heap.size + 1 < w1.heap.size := by omega
  have hq : SBox w.heap.size k n s (.slice xa x.length xc) (.slice a ms.length cap) w1 := by constructor <;> first | (simp (disch := omega) [hc1, hf1, go_sem]; done) | (simp (disch := omega) [hc1, hf1, go_sem]; rfl)
  have hr : SBox (w.heap.size + 1) 0 0 ⟨#[]⟩ (.slice none 0 0) (.slice none 0 0) w1 := by constructor <;> first | (simp (disch := omega) [hc1, hf1, go_sem]; done) | (simp (disch := omega) [hc1, hf1, go_sem]; rfl)
  obtain ⟨q0, q1, q2, q3, q4, e0, e1, e2, e3, e4⟩ := hq
  obtain ⟨r0, r1, r2, r3, r4, g0, g1, g2, g3, g4⟩ := hr
  clear hc1 hf1
  cases hv : isSynB k n s x ds with
  | false =>
    have hno : (isSynB k n s x ds) = false := by rw [hv]
    have HV := Lib.hid hv; clear hv; have HNO := Lib.hid hno; clear hno
    go_wp2_with fail
    refine (copySyntax_calls k n s x ds xa xc a cap ms _ hB HI.out (HX.out.below (by (repeat (first | with_reducible assumption | with_reducible exact Below.refl _ _ | with_reducible refine Below.drew ?_ | with_reducible refine belowDrewN ?_ _ | ((with_reducible refine Below.setCell ?_ ?_ _); rotate_left; focus (first | omega | (simp; done) | (simp; omega))) | ((with_reducible refine Below.alloc ?_ ?_ _); rotate_left; focus (first | omega | (simp; done) | (simp; omega))) | ((with_reducible refine Below.trans ?_ (Below.mono hb1 ?_)); rotate_left; focus (first | omega | (simp; done) | (simp; omega))))))) (HIN.out.below (by (repeat (first | with_reducible assumption | with_reducible exact Below.refl _ _ | with_reducible refine Below.drew ?_ | with_reducible refine belowDrewN ?_ _ | ((with_reducible refine Below.setCell ?_ ?_ _); rotate_left; focus (first | omega | (simp; done) | (simp; omega))) | ((with_reducible refine Below.alloc ?_ ?_ _); rotate_left; focus (first | omega | (simp; done) | (simp; omega))) | ((with_reducible refine Below.trans ?_ (Below.mono hb1 ?_)); rotate_left; focus (first | omega | (simp; done) | (simp; omega)))))))).mono ?_
    rintro e w2 ⟨xa2, xc2, a2, cap2, ms2, rfl, hi2, hm2, hb2⟩
    obtain ⟨hc2, hf2⟩ := bcell hb2; have hz2 := hb2.size; (try simp only [World.size_alloc, World.size_setCell, World.size_drew, sizeDrewN] at hz2 hc2 hf2)
    simp only [Syn.k_mk, Syn.n_mk, Syn.s_mk, Syn.x_mk, Syn.ds_mk] at hi2 hm2 ⊢
    have hr : SBox (w.heap.size + 1) 0 0 ⟨#[]⟩ (.slice none 0 0) (.slice none 0 0) w2 := SBox.below ⟨r0, r1, r2, r3, r4, g0, g1, g2, g3, g4⟩ hb2 (by omega)
    obtain ⟨s0, s1, s2, s3, s4, h0, h1, h2, h3, h4⟩ := hr
    have HI2 := Lib.hid hi2; clear hi2; have HM2 := Lib.hid hm2; clear hm2
    clear hc2 hf2
    go_wp2_with fail
    refine bodyPost_ret (v := .agg #[.int .i64 k, .int .i64 n, .string s, .slice xa2 (x).length xc2, .slice a2 ms2.length cap2]) (by simp [results, Try.results68, go_sem, s0, s1, s2, s3, s4]) rfl ?_
    rw [HV.out, mapGx_no, mapGd_no]
    exact ⟨xa2, xc2, a2, cap2, ms2, rfl, HI2.out, by (exact M.Mine.mono (M.Mine.keep HM2.out (fun b hb1 hb2 => by (try simp at hb1); simp (disch := (first | omega | (simp; omega))) only [heapSet, heapNew, heapDrew, heapDrewN])) (by first | omega | (simp; done) | (simp; omega))), by (repeat (first | with_reducible assumption | with_reducible exact Below.refl _ _ | with_reducible refine Below.drew ?_ | with_reducible refine belowDrewN ?_ _ | ((with_reducible refine Below.setCell ?_ ?_ _); rotate_left; focus (first | omega | (simp; done) | (simp; omega))) | ((with_reducible refine Below.alloc ?_ ?_ _); rotate_left; focus (first | omega | (simp; done) | (simp; omega))) | ((with_reducible refine Below.trans ?_ (Below.mono hb1 ?_)); rotate_left; focus (first | omega | (simp; done) | (simp; omega))) | ((with_reducible refine Below.trans ?_ (Below.mono hb2 ?_)); rotate_left; focus (first | omega | (simp; done) | (simp; omega)))))⟩
  | true =>
    have HV := Lib.hid hv; clear hv
    go_wp2_with fail
    refine (iMapStrip_calls ds k n s x xa xc a cap ms _ hB HI.out (HX.out.below (by (repeat (first | with_reducible assumption | with_reducible exact Below.refl _ _ | with_reducible refine Below.drew ?_ | with_reducible refine belowDrewN ?_ _ | ((with_reducible refine Below.setCell ?_ ?_ _); rotate_left; focus (first | omega | (simp; done) | (simp; omega))) | ((with_reducible refine Below.alloc ?_ ?_ _); rotate_left; focus (first | omega | (simp; done) | (simp; omega))) | ((with_reducible refine Below.trans ?_ (Below.mono hb1 ?_)); rotate_left; focus (first | omega | (simp; done) | (simp; omega))))))) (HIN.out.below (by (repeat (first | with_reducible assumption | with_reducible exact Below.refl _ _ | with_reducible refine Below.drew ?_ | with_reducible refine belowDrewN ?_ _ | ((with_reducible refine Below.setCell ?_ ?_ _); rotate_left; focus (first | omega | (simp; done) | (simp; omega))) | ((with_reducible refine Below.alloc ?_ ?_ _); rotate_left; focus (first | omega | (simp; done) | (simp; omega))) | ((with_reducible refine Below.trans ?_ (Below.mono hb1 ?_)); rotate_left; focus (first | omega | (simp; done) | (simp; omega)))))))).mono ?_
    rintro e w2 ⟨xa2, xc2, a2, cap2, ms2, rfl, hi2, hm2, hb2⟩
    obtain ⟨hc2, hf2⟩ := bcell hb2; have hz2 := hb2.size; (try simp only [World.size_alloc, World.size_setCell, World.size_drew, sizeDrewN] at hz2 hc2 hf2)
    simp only [Syn.k_mk, Syn.n_mk, Syn.s_mk, Syn.x_mk, Syn.ds_mk] at hi2 hm2 ⊢
    have hr : SBox (w.heap.size + 1) 0 0 ⟨#[]⟩ (.slice none 0 0) (.slice none 0 0) w2 := SBox.below ⟨r0, r1, r2, r3, r4, g0, g1, g2, g3, g4⟩ hb2 (by omega)
    obtain ⟨s0, s1, s2, s3, s4, h0, h1, h2, h3, h4⟩ := hr
    have HI2 := Lib.hid hi2; clear hi2; have HM2 := Lib.hid hm2; clear hm2
    clear hc2 hf2
    go_wp2_with fail
    refine bodyPost_ret (v := .agg #[.int .i64 k, .int .i64 n, .string s, .slice xa2 (mapX (woUse) k x).length xc2, .slice a2 ms2.length cap2]) (by simp [results, Try.results68, go_sem, s0, s1, s2, s3, s4]) rfl ?_
    rw [HV.out, mapGx_yes, mapGd_yes]
    exact ⟨xa2, xc2, a2, cap2, ms2, rfl, HI2.out, by (exact M.Mine.mono (M.Mine.keep HM2.out (fun b hb1 hb2 => by (try simp at hb1); simp (disch := (first | omega | (simp; omega))) only [heapSet, heapNew, heapDrew, heapDrewN])) (by first | omega | (simp; done) | (simp; omega))), by (repeat (first | with_reducible assumption | with_reducible exact Below.refl _ _ | with_reducible refine Below.drew ?_ | with_reducible refine belowDrewN ?_ _ | ((with_reducible refine Below.setCell ?_ ?_ _); rotate_left; focus (first | omega | (simp; done) | (simp; omega))) | ((with_reducible refine Below.alloc ?_ ?_ _); rotate_left; focus (first | omega | (simp; done) | (simp; omega))) | ((with_reducible refine Below.trans ?_ (Below.mono hb1 ?_)); rotate_left; focus (first | omega | (simp; done) | (simp; omega))) | ((with_reducible refine Below.trans ?_ (Below.mono hb2 ?_)); rotate_left; focus (first | omega | (simp; done) | (simp; omega)))))⟩
set_option maxHeartbeats 1000000 in
theorem sStripUses_calls (k n : Int) (s : ByteArray) (x : List Int) (ds : List Syn) (xa : Option Addr) (xc : Nat) (a : Option Addr) (cap : Nat) (ms : List M) (w : World) (hwf : (Syn.mk k n s x ds).wf) (hcB : Syn.countL ds ≤ 1000000000) (hB : s.size + (x.length + (ds.length + Syn.wtX ds)) ≤ 2000000) (hi : Syn.IsL 43 ds ms) (hown : (SynOwn 43 xa xc x a cap ms).In w) :
    Calls Try.prog 67 #[.agg #[.int .i64 k, .int .i64 n, .string s, .slice xa x.length xc, .slice a ms.length cap]] w (RetSyn 43 (.mk k n s (mapGx (isSynB k n s x ds) (woUse) k x) (mapGd (isSynB k n s x ds) (woUse) ds)) w) := by
  have hx := SynIn_x hown
  have hin := SynIn_ms hown
  have hcap := hin.len
  have hxl := Ints.len hx
  have hsame : isSynB k n s x ds = true → mapX (noUse) k x = mapX (woUse) k x ∧ mapSynL (noUse) ds = mapSynL (woUse) ds := by
    intro hv
    have hok := (isSynB_ok hv)
    have h0 : ∀ y, ssB y = true → (noUse) y = (woUse) y := strip_same
    exact ⟨by unfold mapX; rw [h0 x (Syn.ok_set hok)], mapSynL_ok h0 ds (Syn.ok_items hok)⟩
  have HI := Lib.hid hi; clear hi; have HX := Lib.hid hx; clear hx; have HIN := Lib.hid hin; clear hin; have HOWN := Lib.hid hown; clear hown; have HWF := Lib.hid hwf; clear hwf; have HSAME := Lib.hid hsame; clear hsame
  go_enter Try.func67, Try.ntmps67
  go_wp2_with fail
  refine (sIsSyntax_calls k n s x ds xa xc a cap ms _ HWF.out hcB HI.out (HOWN.out.below (by (repeat (first | with_reducible assumption | with_reducible exact Below.refl _ _ | with_reducible refine Below.drew ?_ | with_reducible refine belowDrewN ?_ _ | ((with_reducible refine Below.setCell ?_ ?_ _); rotate_left; focus (first | omega | (simp; done) | (simp; omega))) | ((with_reducible refine Below.alloc ?_ ?_ _); rotate_left; focus (first | omega | (simp; done) | (simp; omega)))))))).mono ?_
  rintro e w1 ⟨rfl, hb1⟩
  obtain ⟨hc1, hf1⟩ := bcell hb1; have hz1 := hb1.size; (try simp only [World.size_alloc, World.size_setCell, World.size_drew, sizeDrewN] at hz1 hc1 hf1)
  have p0 : w.heap.size < w1.heap.size := by omega
  have p1 : w.heap.size + 1 < w1.heap.size := by omega
  have hq : SBox w.heap.size k n s (.slice xa x.length xc) (.slice a ms.length cap) w1 := by constructor <;> first | (simp (disch := omega) [hc1, hf1, go_sem]; done) | (simp (disch := omega) [hc1, hf1, go_sem]; rfl)
  have hr : SBox (w.heap.size + 1) 0 0 ⟨#[]⟩ (.slice none 0 0) (.slice none 0 0) w1 := by constructor <;> first | (simp (disch := omega) [hc1, hf1, go_sem]; done) | (simp (disch := omega) [hc1, hf1, go_sem]; rfl)
  obtain ⟨q0, q1, q2, q3, q4, e0, e1, e2, e3, e4⟩ := hq
  obtain ⟨r0, r1, r2, r3, r4, g0, g1, g2, g3, g4⟩ := hr
  clear hc1 hf1
  cases hv : isSynB k n s x ds with
  | false =>
    have hno : (isSynB k n s x ds) = false := by rw [hv]
    have HV := Lib.hid hv; clear hv; have HNO := Lib.hid hno; clear hno
    go_wp2_with fail
    refine (l2Copy_calls k n s x ds xa xc a cap ms _ hB HI.out (HX.out.below (by (repeat (first | with_reducible assumption | with_reducible exact Below.refl _ _ | with_reducible refine Below.drew ?_ | with_reducible refine belowDrewN ?_ _ | ((with_reducible refine Below.setCell ?_ ?_ _); rotate_left; focus (first | omega | (simp; done) | (simp; omega))) | ((with_reducible refine Below.alloc ?_ ?_ _); rotate_left; focus (first | omega | (simp; done) | (simp; omega))) | ((with_reducible refine Below.trans ?_ (Below.mono hb1 ?_)); rotate_left; focus (first | omega | (simp; done) | (simp; omega))))))) (HIN.out.below (by (repeat (first | with_reducible assumption | with_reducible exact Below.refl _ _ | with_reducible refine Below.drew ?_ | with_reducible refine belowDrewN ?_ _ | ((with_reducible refine Below.setCell ?_ ?_ _); rotate_left; focus (first | omega | (simp; done) | (simp; omega))) | ((with_reducible refine Below.alloc ?_ ?_ _); rotate_left; focus (first | omega | (simp; done) | (simp; omega))) | ((with_reducible refine Below.trans ?_ (Below.mono hb1 ?_)); rotate_left; focus (first | omega | (simp; done) | (simp; omega)))))))).mono ?_
    rintro e w2 ⟨xa2, xc2, a2, cap2, ms2, rfl, hi2, hm2, hb2⟩
    obtain ⟨hc2, hf2⟩ := bcell hb2; have hz2 := hb2.size; (try simp only [World.size_alloc, World.size_setCell, World.size_drew, sizeDrewN] at hz2 hc2 hf2)
    simp only [Syn.k_mk, Syn.n_mk, Syn.s_mk, Syn.x_mk, Syn.ds_mk] at hi2 hm2 ⊢
    have hr : SBox (w.heap.size + 1) 0 0 ⟨#[]⟩ (.slice none 0 0) (.slice none 0 0) w2 := SBox.below ⟨r0, r1, r2, r3, r4, g0, g1, g2, g3, g4⟩ hb2 (by omega)
    obtain ⟨s0, s1, s2, s3, s4, h0, h1, h2, h3, h4⟩ := hr
    have HI2 := Lib.hid hi2; clear hi2; have HM2 := Lib.hid hm2; clear hm2
    clear hc2 hf2
    go_wp2_with fail
    refine bodyPost_ret (v := .agg #[.int .i64 k, .int .i64 n, .string s, .slice xa2 (x).length xc2, .slice a2 ms2.length cap2]) (by simp [results, Try.results67, go_sem, s0, s1, s2, s3, s4]) rfl ?_
    rw [HV.out, mapGx_no, mapGd_no]
    exact ⟨xa2, xc2, a2, cap2, ms2, rfl, HI2.out, by (exact M.Mine.mono (M.Mine.keep HM2.out (fun b hb1 hb2 => by (try simp at hb1); simp (disch := (first | omega | (simp; omega))) only [heapSet, heapNew, heapDrew, heapDrewN])) (by first | omega | (simp; done) | (simp; omega))), by (repeat (first | with_reducible assumption | with_reducible exact Below.refl _ _ | with_reducible refine Below.drew ?_ | with_reducible refine belowDrewN ?_ _ | ((with_reducible refine Below.setCell ?_ ?_ _); rotate_left; focus (first | omega | (simp; done) | (simp; omega))) | ((with_reducible refine Below.alloc ?_ ?_ _); rotate_left; focus (first | omega | (simp; done) | (simp; omega))) | ((with_reducible refine Below.trans ?_ (Below.mono hb1 ?_)); rotate_left; focus (first | omega | (simp; done) | (simp; omega))) | ((with_reducible refine Below.trans ?_ (Below.mono hb2 ?_)); rotate_left; focus (first | omega | (simp; done) | (simp; omega)))))⟩
  | true =>
    have HV := Lib.hid hv; clear hv
    go_wp2_with fail
    refine (sMapStrip_calls ds k n s x xa xc a cap ms 0 _ hB HI.out (HX.out.below (by (repeat (first | with_reducible assumption | with_reducible exact Below.refl _ _ | with_reducible refine Below.drew ?_ | with_reducible refine belowDrewN ?_ _ | ((with_reducible refine Below.setCell ?_ ?_ _); rotate_left; focus (first | omega | (simp; done) | (simp; omega))) | ((with_reducible refine Below.alloc ?_ ?_ _); rotate_left; focus (first | omega | (simp; done) | (simp; omega))) | ((with_reducible refine Below.trans ?_ (Below.mono hb1 ?_)); rotate_left; focus (first | omega | (simp; done) | (simp; omega))))))) (HIN.out.below (by (repeat (first | with_reducible assumption | with_reducible exact Below.refl _ _ | with_reducible refine Below.drew ?_ | with_reducible refine belowDrewN ?_ _ | ((with_reducible refine Below.setCell ?_ ?_ _); rotate_left; focus (first | omega | (simp; done) | (simp; omega))) | ((with_reducible refine Below.alloc ?_ ?_ _); rotate_left; focus (first | omega | (simp; done) | (simp; omega))) | ((with_reducible refine Below.trans ?_ (Below.mono hb1 ?_)); rotate_left; focus (first | omega | (simp; done) | (simp; omega)))))))).mono ?_
    rintro e w2 ⟨xa2, xc2, a2, cap2, ms2, rfl, hi2, hm2, hb2⟩
    obtain ⟨hc2, hf2⟩ := bcell hb2; have hz2 := hb2.size; (try simp only [World.size_alloc, World.size_setCell, World.size_drew, sizeDrewN] at hz2 hc2 hf2)
    simp only [Syn.k_mk, Syn.n_mk, Syn.s_mk, Syn.x_mk, Syn.ds_mk] at hi2 hm2 ⊢
    have hr : SBox (w.heap.size + 1) 0 0 ⟨#[]⟩ (.slice none 0 0) (.slice none 0 0) w2 := SBox.below ⟨r0, r1, r2, r3, r4, g0, g1, g2, g3, g4⟩ hb2 (by omega)
    obtain ⟨s0, s1, s2, s3, s4, h0, h1, h2, h3, h4⟩ := hr
    have HI2 := Lib.hid hi2; clear hi2; have HM2 := Lib.hid hm2; clear hm2
    clear hc2 hf2
    go_wp2_with fail
    refine bodyPost_ret (v := .agg #[.int .i64 k, .int .i64 n, .string s, .slice xa2 (mapX (noUse) k x).length xc2, .slice a2 ms2.length cap2]) (by simp [results, Try.results67, go_sem, s0, s1, s2, s3, s4]) rfl ?_
    rw [HV.out, mapGx_yes, mapGd_yes]; rw [← (HSAME.out HV.out).1, ← (HSAME.out HV.out).2]
    exact ⟨xa2, xc2, a2, cap2, ms2, rfl, HI2.out, by (exact M.Mine.mono (M.Mine.keep HM2.out (fun b hb1 hb2 => by (try simp at hb1); simp (disch := (first | omega | (simp; omega))) only [heapSet, heapNew, heapDrew, heapDrewN])) (by first | omega | (simp; done) | (simp; omega))), by (repeat (first | with_reducible assumption | with_reducible exact Below.refl _ _ | with_reducible refine Below.drew ?_ | with_reducible refine belowDrewN ?_ _ | ((with_reducible refine Below.setCell ?_ ?_ _); rotate_left; focus (first | omega | (simp; done) | (simp; omega))) | ((with_reducible refine Below.alloc ?_ ?_ _); rotate_left; focus (first | omega | (simp; done) | (simp; omega))) | ((with_reducible refine Below.trans ?_ (Below.mono hb1 ?_)); rotate_left; focus (first | omega | (simp; done) | (simp; omega))) | ((with_reducible refine Below.trans ?_ (Below.mono hb2 ?_)); rotate_left; focus (first | omega | (simp; done) | (simp; omega)))))⟩
end Go.Proofs.Ytkofpfcbjfkdpaa
