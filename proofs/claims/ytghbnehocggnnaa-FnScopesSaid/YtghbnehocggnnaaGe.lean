/-
  Texts set together by wip/tools/merge.py: M0, M1, M2, M3, M5, M6, M7, M8, ID2. No condition beyond those told with each.
-/
import Derived.Test.YtghbnehocggnnaaGd
import Derived.Deep.DeepCutAuto
/-
  Walks: scopes mapped (Copy). No condition. (printed by wip/tools/mkms.py)
-/
set_option linter.unusedVariables false
set_option linter.unusedSimpArgs false
set_option maxRecDepth 100000
namespace Go.Proofs.Ytghbnehocggnnaa
open Go.RowKit

def iMCopySs (ds : List Syn) : Prop := ∀ (k n : Int) (s : ByteArray) (x : List Int) (xa : Option Addr) (xc : Nat) (a : Option Addr) (cap : Nat) (ms : List M) (w : World), s.size + (x.length + (ds.length + Syn.wtX ds)) ≤ 2000000 → Syn.IsL 27 ds ms → (M.sl xa xc 1 3 (intM x)).In w → (M.sl a cap 5 27 ms).In w → 
    Calls Try.prog 60 #[.agg #[.int .i64 k, .int .i64 n, .string s, .slice xa x.length xc, .slice a ms.length cap], .func (.func 85) #[] #[]] w (RetSyn 27 (.mk k n s (mapX (id) k x) (mapSynL (id) ds)) w)
set_option maxHeartbeats 4000000 in
theorem iMapCopy_calls : ∀ ds, iMCopySs ds := by
  refine Syn.inductL fun ds ih => ?_
  intro k n s x xa xc a cap ms w hB hi hx hin
  have hl := hi.length
  have hcap := hin.len
  have hxl := Ints.len hx
  have IH := Lib.hid ih; clear ih; have HIN := Lib.hid hin; clear hin; have HX := Lib.hid hx; clear hx; have HI := Lib.hid hi; clear hi; have HL := Lib.hid hl; clear hl
  go_enter Try.func60, Try.ntmps60
  go_upto_region 1 with (fail)
  go_cut [5] (fun s5 wx => ∃ (g : Nat) (a7 : Option Addr) (cap7 : Nat), s5 = .pointer (some ⟨g, 0, none⟩) ∧ SBox g k n s (.slice a7 x.length cap7) (.slice none 0 0) wx ∧ SBox (w.heap.size + 1) 0 0 ⟨#[]⟩ (.slice none 0 0) (.slice none 0 0) wx ∧ SBox w.heap.size k n s (.slice xa x.length xc) (.slice a ms.length cap) wx ∧
      (M.sl a7 cap7 1 3 (intM x)).Free (w.heap.size + 1 + 1) wx.heap.size g wx ∧ w.heap.size + 1 < g ∧ Below w.heap.size w wx)
  case first =>
    have hs0 : (((w.alloc (.cells #[.int .i64 k, .int .i64 n, .string s, .slice xa x.length xc, .slice a ms.length cap] 27)).alloc (.cells #[.int .i64 0, .int .i64 0, .string ⟨#[]⟩, .slice none 0 0, .slice none 0 0] 27)).cell? ⟨w.heap.size, 0, none⟩ = some (.int .i64 k) ∧ ((w.alloc (.cells #[.int .i64 k, .int .i64 n, .string s, .slice xa x.length xc, .slice a ms.length cap] 27)).alloc (.cells #[.int .i64 0, .int .i64 0, .string ⟨#[]⟩, .slice none 0 0, .slice none 0 0] 27)).cell? ⟨w.heap.size, 1, none⟩ = some (.int .i64 n) ∧ ((w.alloc (.cells #[.int .i64 k, .int .i64 n, .string s, .slice xa x.length xc, .slice a ms.length cap] 27)).alloc (.cells #[.int .i64 0, .int .i64 0, .string ⟨#[]⟩, .slice none 0 0, .slice none 0 0] 27)).cell? ⟨w.heap.size, 2, none⟩ = some (.string s) ∧ ((w.alloc (.cells #[.int .i64 k, .int .i64 n, .string s, .slice xa x.length xc, .slice a ms.length cap] 27)).alloc (.cells #[.int .i64 0, .int .i64 0, .string ⟨#[]⟩, .slice none 0 0, .slice none 0 0] 27)).cell? ⟨w.heap.size, 3, none⟩ = some (.slice xa x.length xc)) := by refine ⟨?_, ?_, ?_, ?_⟩ <;> first | (simp [go_sem]; done) | (simp [go_sem]; rfl)
    have hq0 : SBox w.heap.size k n s (.slice xa x.length xc) (.slice a ms.length cap) ((w.alloc (.cells #[.int .i64 k, .int .i64 n, .string s, .slice xa x.length xc, .slice a ms.length cap] 27)).alloc (.cells #[.int .i64 0, .int .i64 0, .string ⟨#[]⟩, .slice none 0 0, .slice none 0 0] 27)) := by constructor <;> first | (simp [go_sem]; done) | (simp [go_sem]; rfl)
    have hr0 : SBox (w.heap.size + 1) 0 0 ⟨#[]⟩ (.slice none 0 0) (.slice none 0 0) ((w.alloc (.cells #[.int .i64 k, .int .i64 n, .string s, .slice xa x.length xc, .slice a ms.length cap] 27)).alloc (.cells #[.int .i64 0, .int .i64 0, .string ⟨#[]⟩, .slice none 0 0, .slice none 0 0] 27)) := by constructor <;> first | (simp [go_sem]; done) | (simp [go_sem]; rfl)
    have hz0 : SBox (w.heap.size + 1 + 1) 0 0 ⟨#[]⟩ (.slice none 0 0) (.slice none 0 0) (((w.alloc (.cells #[.int .i64 k, .int .i64 n, .string s, .slice xa x.length xc, .slice a ms.length cap] 27)).alloc (.cells #[.int .i64 0, .int .i64 0, .string ⟨#[]⟩, .slice none 0 0, .slice none 0 0] 27)).alloc (.cells #[.int .i64 0, .int .i64 0, .string ⟨#[]⟩, .slice none 0 0, .slice none 0 0] 27)) := by constructor <;> first | (simp [go_sem]; done) | (simp [go_sem]; rfl)
    go_region_held3 (fun w' => w'.cell? ⟨w.heap.size, 0, none⟩ = some (.int .i64 k) ∧ w'.cell? ⟨w.heap.size, 1, none⟩ = some (.int .i64 n) ∧ w'.cell? ⟨w.heap.size, 2, none⟩ = some (.string s) ∧ w'.cell? ⟨w.heap.size, 3, none⟩ = some (.slice xa x.length xc))
      (first | (with_reducible exact hs0) | (with_reducible exact hs7) | (with_reducible exact ⟨cellNew hs0.1, cellNew hs0.2.1, cellNew hs0.2.2.1, cellNew hs0.2.2.2⟩) | (with_reducible exact ⟨cellNew hs7.1, cellNew hs7.2.1, cellNew hs7.2.2.1, cellNew hs7.2.2.2⟩) | (simp only [World.cell?_drew]; first | (with_reducible exact hs0) | (with_reducible exact hs7) | (with_reducible exact ⟨cellNew hs0.1, cellNew hs0.2.1, cellNew hs0.2.2.1, cellNew hs0.2.2.2⟩) | (with_reducible exact ⟨cellNew hs7.1, cellNew hs7.2.1, cellNew hs7.2.2.1, cellNew hs7.2.2.2⟩)) | (with_reducible exact ⟨far5 (by omega) hs7.1, far5 (by omega) hs7.2.1, far5 (by omega) hs7.2.2.1, far5 (by omega) hs7.2.2.2⟩) | (simp (disch := omega) only [hs7, and_self, go_sem, World.cell?_drew]; done) | (simp (disch := omega) [hs7, go_sem]; done))
      (first | (go_at_call 85; refine (icopyInts_calls xa xc x _ (HX.out.below (by (repeat (first | with_reducible assumption | with_reducible exact Below.refl _ _ | with_reducible refine Below.drew ?_ | with_reducible refine belowDrewN ?_ _ | ((with_reducible refine Below.setCell ?_ ?_ _); rotate_left; focus (first | omega | (simp; done) | (simp; omega))) | ((with_reducible refine Below.alloc ?_ ?_ _); rotate_left; focus (first | omega | (simp; done) | (simp; omega))))))) (by omega)).mono ?_; rintro e w7 ⟨a7, cap7, rfl, hm7, hb7⟩; obtain ⟨hc7, hf7⟩ := bcell hb7; have hz7 := hb7.size; (try simp only [World.size_alloc, World.size_setCell, World.size_drew, sizeDrewN] at hz7 hc7 hf7); have hp7_0 : w.heap.size < w7.heap.size := (by omega); have hp7_1 : w.heap.size + 1 < w7.heap.size := (by omega); have hs7 : (w7.cell? ⟨w.heap.size, 0, none⟩ = some (.int .i64 k) ∧ w7.cell? ⟨w.heap.size, 1, none⟩ = some (.int .i64 n) ∧ w7.cell? ⟨w.heap.size, 2, none⟩ = some (.string s) ∧ w7.cell? ⟨w.heap.size, 3, none⟩ = some (.slice xa x.length xc)) := (by (try simp only [World.cell?_drew] at hc7); first | (with_reducible exact ⟨(hc7 _ _ (by omega)).trans hs0.1, (hc7 _ _ (by omega)).trans hs0.2.1, (hc7 _ _ (by omega)).trans hs0.2.2.1, (hc7 _ _ (by omega)).trans hs0.2.2.2⟩) | (with_reducible exact ⟨(hc7 _ _ (by omega)).trans (cellNew hs0.1), (hc7 _ _ (by omega)).trans (cellNew hs0.2.1), (hc7 _ _ (by omega)).trans (cellNew hs0.2.2.1), (hc7 _ _ (by omega)).trans (cellNew hs0.2.2.2)⟩))))
    all_goals
      go_wp2_with fail
      have e0 : ∀ b, b < w.heap.size + 1 + 1 → w7.heap[b]? = ((w.alloc (.cells #[.int .i64 k, .int .i64 n, .string s, .slice xa x.length xc, .slice a ms.length cap] 27)).alloc (.cells #[.int .i64 0, .int .i64 0, .string ⟨#[]⟩, .slice none 0 0, .slice none 0 0] 27)).heap[b]? := fun b h => (hb7.block b (by simp; omega)).trans (by first | rfl | exact heapNew _ _ _ (by simp; omega))
      go_meet
      refine ⟨_, a7, cap7, rfl, ?_, ?_, ?_, ⟨?_, fun b hb => ?_, Nat.le_refl _⟩, ?_, ?_⟩
      · first
          | (with_reducible exact SBox.new _ _ _ _ _ _)
          | exact (hz0.of (w' := w7) (hb7.block _ (by simp))).set5 _ _ _ _ _
      · refine SBox.of (w := w7) (hr0.of (e0 _ (by omega))) ?_
        simp (disch := (first | omega | (simp; done) | (simp; omega))) only [heapSet, heapNew, heapDrew, heapDrewN]
      · refine SBox.of (w := w7) (hq0.of (e0 _ (by omega))) ?_
        simp (disch := (first | omega | (simp; done) | (simp; omega))) only [heapSet, heapNew, heapDrew, heapDrewN]
      · (exact M.Mine.mono (M.Mine.keep hm7 (fun b hb1 hb2 => by (try simp at hb1); simp (disch := (first | omega | (simp; omega))) only [heapSet, heapNew, heapDrew, heapDrewN])) (by first | omega | (simp; done) | (simp; omega)))
      · have := hm7.lt b hb; simp at this ⊢; omega
      · first | omega | (simp; omega)
      · (repeat (first | with_reducible assumption | with_reducible exact Below.refl _ _ | with_reducible refine Below.drew ?_ | with_reducible refine belowDrewN ?_ _ | ((with_reducible refine Below.setCell ?_ ?_ _); rotate_left; focus (first | omega | (simp; done) | (simp; omega))) | ((with_reducible refine Below.alloc ?_ ?_ _); rotate_left; focus (first | omega | (simp; done) | (simp; omega))) | ((with_reducible refine Below.trans ?_ (Below.mono hb7 ?_)); rotate_left; focus (first | omega | (simp; done) | (simp; omega)))))
  case rest =>
    obtain ⟨g, a7, cap7, rfl, hg7, hr7, hs7, hm7, hgl, hb7⟩ := hcut
    have hgs := hg7.lt
    have hrs := hr7.lt
    have hz7 := hb7.size
    obtain ⟨z0, z1, z2, z3, z4, y0, y1, y2, y3, y4⟩ := hs7
    have HG7 := Lib.hid hg7; clear hg7; have HR7 := Lib.hid hr7; clear hr7; have HM7 := Lib.hid hm7; clear hm7
    by_cases hk : k = 1
    · subst hk
      have hmx : mapX (id) 1 x = (id) x := mapX_one _ _
      have HMX := Lib.hid hmx; clear hmx
      go_wp2_with fail
      refine (icopyInts_calls xa xc x _ (HX.out.below (by (repeat (first | with_reducible assumption | with_reducible exact Below.refl _ _ | with_reducible refine Below.drew ?_ | with_reducible refine belowDrewN ?_ _ | ((with_reducible refine Below.setCell ?_ ?_ _); rotate_left; focus (first | omega | (simp; done) | (simp; omega))) | ((with_reducible refine Below.alloc ?_ ?_ _); rotate_left; focus (first | omega | (simp; done) | (simp; omega))) | ((with_reducible refine Below.trans ?_ (Below.mono hb7 ?_)); rotate_left; focus (first | omega | (simp; done) | (simp; omega))))))) (by omega)).mono ?_
      rintro e w8 ⟨a8, cap8, rfl, hm8, hb8⟩
      obtain ⟨hc8, hf8⟩ := bcell hb8; have hz8 := hb8.size; (try simp only [World.size_alloc, World.size_setCell, World.size_drew, sizeDrewN] at hz8 hc8 hf8)
      have hg8 := (HG7.out.below hb8 hgs).set3 (.slice a8 (id x).length cap8)
      have hr8 := (HR7.out.below hb8 hrs).far (a := ⟨g, 3, none⟩) (.slice a8 (id x).length cap8) (by simp; omega)
      have hg8' := HG7.out.below hb8 hgs
      obtain ⟨v0, v1, v2, v3, v4, u0, u1, u2, u3, u4⟩ := hg8'
      have hsc0 : (M.sl a8 cap8 1 3 (intM (id x))).Free (w.heap.size + 1 + 1) w8.heap.size g (w8.setCell ⟨g, 3, none⟩ (.slice a8 (id x).length cap8)) :=
        ⟨by (exact M.Mine.mono (M.Mine.keep hm8 (fun b hb1 hb2 => by (try simp at hb1); simp (disch := (first | omega | (simp; omega))) only [heapSet, heapNew, heapDrew, heapDrewN])) (by first | omega | (simp; done) | (simp; omega))), fun b hb => by have := hm8.lt b hb; omega, by simp⟩
      have hz8 : wc.heap.size ≤ w8.heap.size := by omega
      have hbb8 : Below w.heap.size w (w8.setCell ⟨g, 3, none⟩ (.slice a8 (id x).length cap8)) := by (repeat (first | with_reducible assumption | with_reducible exact Below.refl _ _ | with_reducible refine Below.drew ?_ | with_reducible refine belowDrewN ?_ _ | ((with_reducible refine Below.setCell ?_ ?_ _); rotate_left; focus (first | omega | (simp; done) | (simp; omega))) | ((with_reducible refine Below.alloc ?_ ?_ _); rotate_left; focus (first | omega | (simp; done) | (simp; omega))) | ((with_reducible refine Below.trans ?_ (Below.mono hb7 ?_)); rotate_left; focus (first | omega | (simp; done) | (simp; omega))) | ((with_reducible refine Below.trans ?_ (Below.mono hb8 ?_)); rotate_left; focus (first | omega | (simp; done) | (simp; omega)))))
      clear hm8
      have HSC0 := Lib.hid hsc0; clear hsc0; have HG8 := Lib.hid hg8; clear hg8; have HR8 := Lib.hid hr8; clear hr8
      clear hc8 hf8
      have c4 : w8.cell? ⟨w.heap.size, 4, none⟩ = some (.slice a ms.length cap) := (hb8.cell (p := ⟨w.heap.size, 4, none⟩) (by show w.heap.size < wc.heap.size; omega)).trans z4
      go_wp2_with fail
      go_loopw [29] (fun i wr => ∃ (j : Nat) (a' : Option Addr) (cap' : Nat) (ms' : List M), j ≤ ms.length ∧ i = .int .i64 j ∧ ms'.length = j ∧ Syn.IsL 27 (mapSynL (id) (ds.take j)) ms' ∧ (M.sl a' cap' 5 27 ms').Mine wr (w8.heap.size) ∧
          SBox (g) 1 n s (.slice a8 (id x).length cap8) (.slice a' ms'.length cap') wr ∧ SBox (w.heap.size + 1) 0 0 ⟨#[]⟩ (.slice none 0 0) (.slice none 0 0) wr ∧ (M.sl a8 cap8 1 3 (intM (id x))).Free (w.heap.size + 1 + 1) w8.heap.size g wr ∧ Below w.heap.size w wr ∧ w8.heap.size ≤ wr.heap.size) (fun i _ => ms.length - (intOf i).toNat)
      case atStart => exact ⟨0, none, 0, [], Nat.zero_le _, rfl, rfl, by simp [mapSynL, Syn.IsL], M.Mine.nil _ _ _ _ (by decide), HG8.out, HR8.out, HSC0.out, hbb8, by simp⟩
      case round =>
        obtain ⟨j, a', cap', ms', hj, rfl, hj', hi', hm', hq, hr, hsc, hb, hsz⟩ := hrel
        obtain ⟨q0, q1, q2, q3, q4, e0, e1, e2, e3, e4⟩ := hq
        obtain ⟨r0, r1, r2, r3, r4, g0, g1, g2, g3, g4⟩ := hr
        have hq : SBox (g) 1 n s (.slice a8 (id x).length cap8) (.slice a' ms'.length cap') wr := ⟨q0, q1, q2, q3, q4, e0, e1, e2, e3, e4⟩
        have hr : SBox (w.heap.size + 1) 0 0 ⟨#[]⟩ (.slice none 0 0) (.slice none 0 0) wr := ⟨r0, r1, r2, r3, r4, g0, g1, g2, g3, g4⟩
        have p3 := hq.lt
        have p2 := hr.lt
        by_cases hlt : j < ms.length
        · obtain ⟨b, off, k1, n1, s1, x1, ds1, xa1, xc1, a1, cap1, ms1, rfl, hd, hi1, hx1, hin1, c0, c1, c2, c3, c4⟩ := Syn.elem (HIN.out.below hb) HI.out j hlt
          obtain ⟨ht, hle⟩ := Syn.countL_le ds j _ hd
          simp only [Syn.count] at hle
          clear ht
          have hwt1 := Syn.wt_le hd
          simp only [Syn.wt] at hwt1
          have HD := Lib.hid hd; clear hd; have HI1 := Lib.hid hi1; clear hi1; have HX1 := Lib.hid hx1; clear hx1; have HIN1 := Lib.hid hin1; clear hin1; have HJ' := Lib.hid hj'; clear hj'; have HI' := Lib.hid hi'; clear hi'; have HM' := Lib.hid hm'; clear hm'; have HSC := Lib.hid hsc; clear hsc
          have HQ := Lib.hid hq; clear hq
          have HR := Lib.hid hr; clear hr
          go_wp2_with fail
          go_region_law (first
            | (go_simp; go_at_call 60; refine (IH.out k1 n1 s1 x1 ds1 (List.mem_of_getElem? HD.out) k1 n1 s1 x1 xa1 xc1 a1 cap1 ms1 _ (by omega) HI1.out (HX1.out.below (by (repeat (first | with_reducible assumption | with_reducible exact Below.refl _ _ | with_reducible refine Below.drew ?_ | with_reducible refine belowDrewN ?_ _ | ((with_reducible refine Below.setCell ?_ ?_ _); rotate_left; focus (first | omega | (simp; done) | (simp; omega))) | ((with_reducible refine Below.alloc ?_ ?_ _); rotate_left; focus (first | omega | (simp; done) | (simp; omega))))))) (HIN1.out.below (by (repeat (first | with_reducible assumption | with_reducible exact Below.refl _ _ | with_reducible refine Below.drew ?_ | with_reducible refine belowDrewN ?_ _ | ((with_reducible refine Below.setCell ?_ ?_ _); rotate_left; focus (first | omega | (simp; done) | (simp; omega))) | ((with_reducible refine Below.alloc ?_ ?_ _); rotate_left; focus (first | omega | (simp; done) | (simp; omega))))))) ).mono ?_; rintro e w1 ⟨xa2, xc2, a2, cap2, ms2, rfl, hi2, hm2, hb2⟩; obtain ⟨hc2, hf2⟩ := bcell hb2; have hz2 := hb2.size; (try simp only [World.size_alloc, World.size_setCell, World.size_drew, sizeDrewN] at hz2 hc2 hf2); have q3c : w1.cell? ⟨g, 4, none⟩ = some (.slice a' ms'.length cap') := (by simp (disch := omega) [hc2, q4, go_sem]); have p3c : g < w1.heap.size := (by omega); (try simp only [Syn.k_mk, Syn.n_mk, Syn.s_mk, Syn.x_mk, Syn.ds_mk, List.length_nil]))
            | (refine step_push (wr := wr) rfl _ _ 25 rfl 27 _ 5 80 Try.underlying25 infoSyn rfl (by decide) (w8.heap.size) a' cap' ms' rfl HM'.out hsz (by (repeat (first | with_reducible assumption | with_reducible exact Below.refl _ _ | with_reducible refine Below.drew ?_ | with_reducible refine belowDrewN ?_ _ | ((with_reducible refine Below.setCell ?_ ?_ _); rotate_left; focus (first | omega | (simp; done) | (simp; omega))) | ((with_reducible refine Below.alloc ?_ ?_ _); rotate_left; focus (first | omega | (simp; done) | (simp; omega))) | ((with_reducible refine Below.trans ?_ (Below.mono hb2 ?_)); rotate_left; focus (first | omega | (simp; done) | (simp; omega)))))) _ (.ag [.c (.int .i64 k1), .c (.int .i64 n1), .c (.string s1), .sl xa2 xc2 1 3 (intM (mapX (id) k1 x1)), .sl a2 cap2 5 27 ms2]) (by simp [M.cells, M.cellsL, intM_length]) rfl _ (SynOwn_el hm2 k1 n1 s1) (by simp) rfl (by have := HJ'.out; unfold maxLen; omega) (by have := HJ'.out; have := HL.out; omega) ?_; intro a3 cap3 w3 hm3 hb3 hz3 hfr3; have q3' : w3.cell? ⟨g, 4, none⟩ = some (.slice a' ms'.length cap') := (by rw [hb3.cell (by first | (simp; done) | (simp; omega))]; simp (disch := omega) [hc2, q4, go_sem]); have qf' : w3.frozen? ⟨g, 4, none⟩ = false := (by rw [hb3.frozen (by first | (simp; done) | (simp; omega))]; simp (disch := omega) [hf2, e4, go_sem])))
          all_goals
            have hbA : Below wr.heap.size wr w1 := by (repeat (first | with_reducible assumption | with_reducible exact Below.refl _ _ | with_reducible refine Below.drew ?_ | with_reducible refine belowDrewN ?_ _ | ((with_reducible refine Below.setCell ?_ ?_ _); rotate_left; focus (first | omega | (simp; done) | (simp; omega))) | ((with_reducible refine Below.alloc ?_ ?_ _); rotate_left; focus (first | omega | (simp; done) | (simp; omega))) | ((with_reducible refine Below.trans ?_ (Below.mono hb2 ?_)); rotate_left; focus (first | omega | (simp; done) | (simp; omega)))))
            have hq3 := (HQ.out.below hbA p3).below hb3 (by omega)
            have hr3 := (HR.out.below hbA p2).below hb3 (by omega)
            (try simp only [Syn.k_mk, Syn.n_mk, Syn.s_mk, Syn.x_mk, Syn.ds_mk] at hi2)
            have hfin : Syn.IsL 27 (mapSynL (id) (ds.take (j + 1))) (ms' ++ [.ag [.c (.int .i64 k1), .c (.int .i64 n1), .c (.string s1), .sl xa2 xc2 1 3 (intM (mapX (id) k1 x1)), .sl a2 cap2 5 27 ms2]]) := by
              rw [mapSynL_take HD.out]; exact HI'.out.snoc ⟨_, _, _, _, _, rfl, hi2⟩
            have hjj := HJ'.out
            have HFIN := Lib.hid hfin; clear hfin; have HM3 := Lib.hid hm3; clear hm3; have HI2 := Lib.hid hi2; clear hi2; have HM2 := Lib.hid hm2; clear hm2; have HQ3 := Lib.hid hq3; clear hq3; have HR3 := Lib.hid hr3; clear hr3; have HBA := Lib.hid hbA; clear hbA
            go_wp2_with fail
            go_roundw
            case rel =>
              refine ⟨j + 1, a3, cap3, ms' ++ [.ag [.c (.int .i64 k1), .c (.int .i64 n1), .c (.string s1), .sl xa2 xc2 1 3 (intM (mapX (id) k1 x1)), .sl a2 cap2 5 27 ms2]], by omega, by go_num, by simp [hjj], HFIN.out, ?_, ?_, ?_, ?_, ?_, ?_⟩
              · exact M.Mine.keep HM3.out (fun b hb1 hb2 => by simp (disch := (first | omega | (simp; omega))) only [heapSet])
              · have := HQ3.out.set4 (.slice a3 (ms'.length + 1) cap3); simpa [hjj] using this
              · exact HR3.out.far _ (by first | (simp; done) | (simp; omega))
              · exact HSC.out.keep (by simp; omega) (fun b hb1 hb2 hb4 => by rw [heapSet _ _ _ _ (by simpa using hb4), hb3.block b (by omega), HBA.out.block b (by omega)])
              · (repeat (first | with_reducible assumption | with_reducible exact Below.refl _ _ | with_reducible refine Below.drew ?_ | with_reducible refine belowDrewN ?_ _ | ((with_reducible refine Below.setCell ?_ ?_ _); rotate_left; focus (first | omega | (simp; done) | (simp; omega))) | ((with_reducible refine Below.alloc ?_ ?_ _); rotate_left; focus (first | omega | (simp; done) | (simp; omega))) | ((with_reducible refine Below.trans ?_ (Below.mono hb2 ?_)); rotate_left; focus (first | omega | (simp; done) | (simp; omega))) | ((with_reducible refine Below.trans ?_ (Below.mono hb3 ?_)); rotate_left; focus (first | omega | (simp; done) | (simp; omega)))))
              · simp; omega
            case measure => simp [intOf]; omega
        · have HJ' := Lib.hid hj'; clear hj'; have HSC := Lib.hid hsc; clear hsc
          have HQ := Lib.hid hq; clear hq
          have HR := Lib.hid hr; clear hr
          go_wp2_with fail
          refine bodyPost_ret (v := .agg #[.int .i64 1, .int .i64 n, .string s, .slice a8 (id x).length cap8, .slice a' ms'.length cap']) (by simp [results, Try.results60, go_sem, q0, q1, q2, q3, q4, r0, r1, r2, r3, r4, HJ'.out]) rfl ?_
          rw [HMX.out]
          have hk2 : j = ms.length := by omega
          subst hk2
          refine ⟨a8, cap8, a', cap', ms', rfl, ?_, ?_, ?_⟩
          · rw [HL.out, List.take_length] at hi'
            exact hi'
          · exact SynOwn_two (c := w8.heap.size) (by (exact M.Mine.mono (M.Mine.keep HSC.out.mine (fun b hb1 hb2 => by (try simp at hb1); simp (disch := (first | omega | (simp; omega))) only [heapSet, heapNew, heapDrew, heapDrewN])) (by first | omega | (simp; done) | (simp; omega)))) (by (exact M.Mine.mono (M.Mine.keep hm' (fun b hb1 hb2 => by (try simp at hb1); simp (disch := (first | omega | (simp; omega))) only [heapSet, heapNew, heapDrew, heapDrewN])) (by first | omega | (simp; done) | (simp; omega)))) (by omega) (fun b hb => by have := HSC.out.lt b hb; omega)
          · (repeat (first | with_reducible assumption | with_reducible exact Below.refl _ _ | with_reducible refine Below.drew ?_ | with_reducible refine belowDrewN ?_ _ | ((with_reducible refine Below.setCell ?_ ?_ _); rotate_left; focus (first | omega | (simp; done) | (simp; omega))) | ((with_reducible refine Below.alloc ?_ ?_ _); rotate_left; focus (first | omega | (simp; done) | (simp; omega))) | ((with_reducible refine Below.trans ?_ (Below.mono hb ?_)); rotate_left; focus (first | omega | (simp; done) | (simp; omega)))))
    · have hkb : (k == 1) = false := by simp [hk]
      have hmx : mapX (id) k x = x := mapX_other hk _ _
      have HK := Lib.hid hk; clear hk; have HMX := Lib.hid hmx; clear hmx
      go_wp2_with fail
      go_loopw [29] (fun i wr => ∃ (j : Nat) (a' : Option Addr) (cap' : Nat) (ms' : List M), j ≤ ms.length ∧ i = .int .i64 j ∧ ms'.length = j ∧ Syn.IsL 27 (mapSynL (id) (ds.take j)) ms' ∧ (M.sl a' cap' 5 27 ms').Mine wr (wc.heap.size) ∧
          SBox (g) k n s (.slice a7 x.length cap7) (.slice a' ms'.length cap') wr ∧ SBox (w.heap.size + 1) 0 0 ⟨#[]⟩ (.slice none 0 0) (.slice none 0 0) wr ∧ (M.sl a7 cap7 1 3 (intM x)).Free (w.heap.size + 1 + 1) wc.heap.size g wr ∧ Below w.heap.size w wr ∧ wc.heap.size ≤ wr.heap.size) (fun i _ => ms.length - (intOf i).toNat)
      case atStart => exact ⟨0, none, 0, [], Nat.zero_le _, rfl, rfl, by simp [mapSynL, Syn.IsL], M.Mine.nil _ _ _ _ (by decide), HG7.out, HR7.out, HM7.out, hb7, Nat.le_refl _⟩
      case round =>
        obtain ⟨j, a', cap', ms', hj, rfl, hj', hi', hm', hq, hr, hsc, hb, hsz⟩ := hrel
        obtain ⟨q0, q1, q2, q3, q4, e0, e1, e2, e3, e4⟩ := hq
        obtain ⟨r0, r1, r2, r3, r4, g0, g1, g2, g3, g4⟩ := hr
        have hq : SBox (g) k n s (.slice a7 x.length cap7) (.slice a' ms'.length cap') wr := ⟨q0, q1, q2, q3, q4, e0, e1, e2, e3, e4⟩
        have hr : SBox (w.heap.size + 1) 0 0 ⟨#[]⟩ (.slice none 0 0) (.slice none 0 0) wr := ⟨r0, r1, r2, r3, r4, g0, g1, g2, g3, g4⟩
        have p3 := hq.lt
        have p2 := hr.lt
        by_cases hlt : j < ms.length
        · obtain ⟨b, off, k1, n1, s1, x1, ds1, xa1, xc1, a1, cap1, ms1, rfl, hd, hi1, hx1, hin1, c0, c1, c2, c3, c4⟩ := Syn.elem (HIN.out.below hb) HI.out j hlt
          obtain ⟨ht, hle⟩ := Syn.countL_le ds j _ hd
          simp only [Syn.count] at hle
          clear ht
          have hwt1 := Syn.wt_le hd
          simp only [Syn.wt] at hwt1
          have HD := Lib.hid hd; clear hd; have HI1 := Lib.hid hi1; clear hi1; have HX1 := Lib.hid hx1; clear hx1; have HIN1 := Lib.hid hin1; clear hin1; have HJ' := Lib.hid hj'; clear hj'; have HI' := Lib.hid hi'; clear hi'; have HM' := Lib.hid hm'; clear hm'; have HSC := Lib.hid hsc; clear hsc
          have HQ := Lib.hid hq; clear hq
          have HR := Lib.hid hr; clear hr
          go_wp2_with fail
          go_region_law (first
            | (go_simp; go_at_call 60; refine (IH.out k1 n1 s1 x1 ds1 (List.mem_of_getElem? HD.out) k1 n1 s1 x1 xa1 xc1 a1 cap1 ms1 _ (by omega) HI1.out (HX1.out.below (by (repeat (first | with_reducible assumption | with_reducible exact Below.refl _ _ | with_reducible refine Below.drew ?_ | with_reducible refine belowDrewN ?_ _ | ((with_reducible refine Below.setCell ?_ ?_ _); rotate_left; focus (first | omega | (simp; done) | (simp; omega))) | ((with_reducible refine Below.alloc ?_ ?_ _); rotate_left; focus (first | omega | (simp; done) | (simp; omega))))))) (HIN1.out.below (by (repeat (first | with_reducible assumption | with_reducible exact Below.refl _ _ | with_reducible refine Below.drew ?_ | with_reducible refine belowDrewN ?_ _ | ((with_reducible refine Below.setCell ?_ ?_ _); rotate_left; focus (first | omega | (simp; done) | (simp; omega))) | ((with_reducible refine Below.alloc ?_ ?_ _); rotate_left; focus (first | omega | (simp; done) | (simp; omega))))))) ).mono ?_; rintro e w1 ⟨xa2, xc2, a2, cap2, ms2, rfl, hi2, hm2, hb2⟩; obtain ⟨hc2, hf2⟩ := bcell hb2; have hz2 := hb2.size; (try simp only [World.size_alloc, World.size_setCell, World.size_drew, sizeDrewN] at hz2 hc2 hf2); have q3c : w1.cell? ⟨g, 4, none⟩ = some (.slice a' ms'.length cap') := (by simp (disch := omega) [hc2, q4, go_sem]); have p3c : g < w1.heap.size := (by omega); (try simp only [Syn.k_mk, Syn.n_mk, Syn.s_mk, Syn.x_mk, Syn.ds_mk, List.length_nil]))
            | (refine step_push (wr := wr) rfl _ _ 25 rfl 27 _ 5 80 Try.underlying25 infoSyn rfl (by decide) (wc.heap.size) a' cap' ms' rfl HM'.out hsz (by (repeat (first | with_reducible assumption | with_reducible exact Below.refl _ _ | with_reducible refine Below.drew ?_ | with_reducible refine belowDrewN ?_ _ | ((with_reducible refine Below.setCell ?_ ?_ _); rotate_left; focus (first | omega | (simp; done) | (simp; omega))) | ((with_reducible refine Below.alloc ?_ ?_ _); rotate_left; focus (first | omega | (simp; done) | (simp; omega))) | ((with_reducible refine Below.trans ?_ (Below.mono hb2 ?_)); rotate_left; focus (first | omega | (simp; done) | (simp; omega)))))) _ (.ag [.c (.int .i64 k1), .c (.int .i64 n1), .c (.string s1), .sl xa2 xc2 1 3 (intM (mapX (id) k1 x1)), .sl a2 cap2 5 27 ms2]) (by simp [M.cells, M.cellsL, intM_length]) rfl _ (SynOwn_el hm2 k1 n1 s1) (by simp) rfl (by have := HJ'.out; unfold maxLen; omega) (by have := HJ'.out; have := HL.out; omega) ?_; intro a3 cap3 w3 hm3 hb3 hz3 hfr3; have q3' : w3.cell? ⟨g, 4, none⟩ = some (.slice a' ms'.length cap') := (by rw [hb3.cell (by first | (simp; done) | (simp; omega))]; simp (disch := omega) [hc2, q4, go_sem]); have qf' : w3.frozen? ⟨g, 4, none⟩ = false := (by rw [hb3.frozen (by first | (simp; done) | (simp; omega))]; simp (disch := omega) [hf2, e4, go_sem])))
          all_goals
            have hbA : Below wr.heap.size wr w1 := by (repeat (first | with_reducible assumption | with_reducible exact Below.refl _ _ | with_reducible refine Below.drew ?_ | with_reducible refine belowDrewN ?_ _ | ((with_reducible refine Below.setCell ?_ ?_ _); rotate_left; focus (first | omega | (simp; done) | (simp; omega))) | ((with_reducible refine Below.alloc ?_ ?_ _); rotate_left; focus (first | omega | (simp; done) | (simp; omega))) | ((with_reducible refine Below.trans ?_ (Below.mono hb2 ?_)); rotate_left; focus (first | omega | (simp; done) | (simp; omega)))))
            have hq3 := (HQ.out.below hbA p3).below hb3 (by omega)
            have hr3 := (HR.out.below hbA p2).below hb3 (by omega)
            (try simp only [Syn.k_mk, Syn.n_mk, Syn.s_mk, Syn.x_mk, Syn.ds_mk] at hi2)
            have hfin : Syn.IsL 27 (mapSynL (id) (ds.take (j + 1))) (ms' ++ [.ag [.c (.int .i64 k1), .c (.int .i64 n1), .c (.string s1), .sl xa2 xc2 1 3 (intM (mapX (id) k1 x1)), .sl a2 cap2 5 27 ms2]]) := by
              rw [mapSynL_take HD.out]; exact HI'.out.snoc ⟨_, _, _, _, _, rfl, hi2⟩
            have hjj := HJ'.out
            have HFIN := Lib.hid hfin; clear hfin; have HM3 := Lib.hid hm3; clear hm3; have HI2 := Lib.hid hi2; clear hi2; have HM2 := Lib.hid hm2; clear hm2; have HQ3 := Lib.hid hq3; clear hq3; have HR3 := Lib.hid hr3; clear hr3; have HBA := Lib.hid hbA; clear hbA
            go_wp2_with fail
            go_roundw
            case rel =>
              refine ⟨j + 1, a3, cap3, ms' ++ [.ag [.c (.int .i64 k1), .c (.int .i64 n1), .c (.string s1), .sl xa2 xc2 1 3 (intM (mapX (id) k1 x1)), .sl a2 cap2 5 27 ms2]], by omega, by go_num, by simp [hjj], HFIN.out, ?_, ?_, ?_, ?_, ?_, ?_⟩
              · exact M.Mine.keep HM3.out (fun b hb1 hb2 => by simp (disch := (first | omega | (simp; omega))) only [heapSet])
              · have := HQ3.out.set4 (.slice a3 (ms'.length + 1) cap3); simpa [hjj] using this
              · exact HR3.out.far _ (by first | (simp; done) | (simp; omega))
              · exact HSC.out.keep (by simp; omega) (fun b hb1 hb2 hb4 => by rw [heapSet _ _ _ _ (by simpa using hb4), hb3.block b (by omega), HBA.out.block b (by omega)])
              · (repeat (first | with_reducible assumption | with_reducible exact Below.refl _ _ | with_reducible refine Below.drew ?_ | with_reducible refine belowDrewN ?_ _ | ((with_reducible refine Below.setCell ?_ ?_ _); rotate_left; focus (first | omega | (simp; done) | (simp; omega))) | ((with_reducible refine Below.alloc ?_ ?_ _); rotate_left; focus (first | omega | (simp; done) | (simp; omega))) | ((with_reducible refine Below.trans ?_ (Below.mono hb2 ?_)); rotate_left; focus (first | omega | (simp; done) | (simp; omega))) | ((with_reducible refine Below.trans ?_ (Below.mono hb3 ?_)); rotate_left; focus (first | omega | (simp; done) | (simp; omega)))))
              · simp; omega
            case measure => simp [intOf]; omega
        · have HJ' := Lib.hid hj'; clear hj'; have HSC := Lib.hid hsc; clear hsc
          have HQ := Lib.hid hq; clear hq
          have HR := Lib.hid hr; clear hr
          go_wp2_with fail
          refine bodyPost_ret (v := .agg #[.int .i64 k, .int .i64 n, .string s, .slice a7 x.length cap7, .slice a' ms'.length cap']) (by simp [results, Try.results60, go_sem, q0, q1, q2, q3, q4, r0, r1, r2, r3, r4, HJ'.out]) rfl ?_
          rw [HMX.out]
          have hk2 : j = ms.length := by omega
          subst hk2
          refine ⟨a7, cap7, a', cap', ms', rfl, ?_, ?_, ?_⟩
          · rw [HL.out, List.take_length] at hi'
            exact hi'
          · exact SynOwn_two (c := wc.heap.size) (by (exact M.Mine.mono (M.Mine.keep HSC.out.mine (fun b hb1 hb2 => by (try simp at hb1); simp (disch := (first | omega | (simp; omega))) only [heapSet, heapNew, heapDrew, heapDrewN])) (by first | omega | (simp; done) | (simp; omega)))) (by (exact M.Mine.mono (M.Mine.keep hm' (fun b hb1 hb2 => by (try simp at hb1); simp (disch := (first | omega | (simp; omega))) only [heapSet, heapNew, heapDrew, heapDrewN])) (by first | omega | (simp; done) | (simp; omega)))) (by omega) (fun b hb => by have := HSC.out.lt b hb; omega)
          · (repeat (first | with_reducible assumption | with_reducible exact Below.refl _ _ | with_reducible refine Below.drew ?_ | with_reducible refine belowDrewN ?_ _ | ((with_reducible refine Below.setCell ?_ ?_ _); rotate_left; focus (first | omega | (simp; done) | (simp; omega))) | ((with_reducible refine Below.alloc ?_ ?_ _); rotate_left; focus (first | omega | (simp; done) | (simp; omega))) | ((with_reducible refine Below.trans ?_ (Below.mono hb ?_)); rotate_left; focus (first | omega | (simp; done) | (simp; omega)))))
end Go.Proofs.Ytghbnehocggnnaa

/-
  Walks: scopes mapped (Add). No condition. (printed by wip/tools/mkms.py)
-/
set_option linter.unusedVariables false
set_option linter.unusedSimpArgs false
set_option maxRecDepth 100000
namespace Go.Proofs.Ytghbnehocggnnaa
open Go.RowKit

theorem addClo_calls (nb : Nat) (m : Int) (xa : Option Addr) (xc : Nat) (x : List Int) (w : World) (hB : x.length ≤ 4000000) (hx : (M.sl xa xc 1 3 (intM x)).In w) (hcl : w.cell? ⟨nb, 0, none⟩ = some (.int .i64 m)) :
    Calls Try.prog 96 #[.slice xa x.length xc, .pointer (some ⟨nb, 0, none⟩)] w (RetInts (put m x) w) := by
  have HX := Lib.hid hx; clear hx
  go_enter Try.func96, Try.ntmps96
  go_wp2_with fail
  refine (iPut_calls xa xc x m _ HX.out hB).mono ?_
  rintro e w1 ⟨a1, c1, rfl, hm1, hb1⟩
  have HM1 := Lib.hid hm1; clear hm1
  go_wp2_with fail
  go_ret
  exact ⟨a1, c1, rfl, HM1.out, hb1⟩
def iMAddSs (ds : List Syn) : Prop := ∀ (k n : Int) (s : ByteArray) (x : List Int) (xa : Option Addr) (xc : Nat) (a : Option Addr) (cap : Nat) (ms : List M) (nb : Nat) (m : Int) (w : World), s.size + (x.length + (ds.length + Syn.wtX ds)) ≤ 2000000 → Syn.IsL 27 ds ms → (M.sl xa xc 1 3 (intM x)).In w → (M.sl a cap 5 27 ms).In w → w.cell? ⟨nb, 0, none⟩ = some (.int .i64 m) → 
    Calls Try.prog 60 #[.agg #[.int .i64 k, .int .i64 n, .string s, .slice xa x.length xc, .slice a ms.length cap], .func (.func 96) #[] #[.pointer (some ⟨nb, 0, none⟩)]] w (RetSyn 27 (.mk k n s (mapX (put m) k x) (mapSynL (put m) ds)) w)
set_option maxHeartbeats 4000000 in
theorem iMapAdd_calls : ∀ ds, iMAddSs ds := by
  refine Syn.inductL fun ds ih => ?_
  intro k n s x xa xc a cap ms nb m w hB hi hx hin hcl
  have hl := hi.length
  have hcap := hin.len
  have hxl := Ints.len hx
  have hnb := World.block_lt_of_cell? w _ hcl
  have IH := Lib.hid ih; clear ih; have HIN := Lib.hid hin; clear hin; have HX := Lib.hid hx; clear hx; have HI := Lib.hid hi; clear hi; have HL := Lib.hid hl; clear hl; have HCL := Lib.hid hcl; clear hcl
  go_enter Try.func60, Try.ntmps60
  go_upto_region 1 with (fail)
  go_cut [5] (fun s5 wx => ∃ (g : Nat) (a7 : Option Addr) (cap7 : Nat), s5 = .pointer (some ⟨g, 0, none⟩) ∧ SBox g k n s (.slice a7 x.length cap7) (.slice none 0 0) wx ∧ SBox (w.heap.size + 1) 0 0 ⟨#[]⟩ (.slice none 0 0) (.slice none 0 0) wx ∧ SBox w.heap.size k n s (.slice xa x.length xc) (.slice a ms.length cap) wx ∧
      (M.sl a7 cap7 1 3 (intM x)).Free (w.heap.size + 1 + 1) wx.heap.size g wx ∧ w.heap.size + 1 < g ∧ Below w.heap.size w wx)
  case first =>
    have hs0 : (((w.alloc (.cells #[.int .i64 k, .int .i64 n, .string s, .slice xa x.length xc, .slice a ms.length cap] 27)).alloc (.cells #[.int .i64 0, .int .i64 0, .string ⟨#[]⟩, .slice none 0 0, .slice none 0 0] 27)).cell? ⟨w.heap.size, 0, none⟩ = some (.int .i64 k) ∧ ((w.alloc (.cells #[.int .i64 k, .int .i64 n, .string s, .slice xa x.length xc, .slice a ms.length cap] 27)).alloc (.cells #[.int .i64 0, .int .i64 0, .string ⟨#[]⟩, .slice none 0 0, .slice none 0 0] 27)).cell? ⟨w.heap.size, 1, none⟩ = some (.int .i64 n) ∧ ((w.alloc (.cells #[.int .i64 k, .int .i64 n, .string s, .slice xa x.length xc, .slice a ms.length cap] 27)).alloc (.cells #[.int .i64 0, .int .i64 0, .string ⟨#[]⟩, .slice none 0 0, .slice none 0 0] 27)).cell? ⟨w.heap.size, 2, none⟩ = some (.string s) ∧ ((w.alloc (.cells #[.int .i64 k, .int .i64 n, .string s, .slice xa x.length xc, .slice a ms.length cap] 27)).alloc (.cells #[.int .i64 0, .int .i64 0, .string ⟨#[]⟩, .slice none 0 0, .slice none 0 0] 27)).cell? ⟨w.heap.size, 3, none⟩ = some (.slice xa x.length xc)) := by refine ⟨?_, ?_, ?_, ?_⟩ <;> first | (simp [go_sem]; done) | (simp [go_sem]; rfl)
    have hq0 : SBox w.heap.size k n s (.slice xa x.length xc) (.slice a ms.length cap) ((w.alloc (.cells #[.int .i64 k, .int .i64 n, .string s, .slice xa x.length xc, .slice a ms.length cap] 27)).alloc (.cells #[.int .i64 0, .int .i64 0, .string ⟨#[]⟩, .slice none 0 0, .slice none 0 0] 27)) := by constructor <;> first | (simp [go_sem]; done) | (simp [go_sem]; rfl)
    have hr0 : SBox (w.heap.size + 1) 0 0 ⟨#[]⟩ (.slice none 0 0) (.slice none 0 0) ((w.alloc (.cells #[.int .i64 k, .int .i64 n, .string s, .slice xa x.length xc, .slice a ms.length cap] 27)).alloc (.cells #[.int .i64 0, .int .i64 0, .string ⟨#[]⟩, .slice none 0 0, .slice none 0 0] 27)) := by constructor <;> first | (simp [go_sem]; done) | (simp [go_sem]; rfl)
    have hz0 : SBox (w.heap.size + 1 + 1) 0 0 ⟨#[]⟩ (.slice none 0 0) (.slice none 0 0) (((w.alloc (.cells #[.int .i64 k, .int .i64 n, .string s, .slice xa x.length xc, .slice a ms.length cap] 27)).alloc (.cells #[.int .i64 0, .int .i64 0, .string ⟨#[]⟩, .slice none 0 0, .slice none 0 0] 27)).alloc (.cells #[.int .i64 0, .int .i64 0, .string ⟨#[]⟩, .slice none 0 0, .slice none 0 0] 27)) := by constructor <;> first | (simp [go_sem]; done) | (simp [go_sem]; rfl)
    go_region_held3 (fun w' => w'.cell? ⟨w.heap.size, 0, none⟩ = some (.int .i64 k) ∧ w'.cell? ⟨w.heap.size, 1, none⟩ = some (.int .i64 n) ∧ w'.cell? ⟨w.heap.size, 2, none⟩ = some (.string s) ∧ w'.cell? ⟨w.heap.size, 3, none⟩ = some (.slice xa x.length xc))
      (first | (with_reducible exact hs0) | (with_reducible exact hs7) | (with_reducible exact ⟨cellNew hs0.1, cellNew hs0.2.1, cellNew hs0.2.2.1, cellNew hs0.2.2.2⟩) | (with_reducible exact ⟨cellNew hs7.1, cellNew hs7.2.1, cellNew hs7.2.2.1, cellNew hs7.2.2.2⟩) | (simp only [World.cell?_drew]; first | (with_reducible exact hs0) | (with_reducible exact hs7) | (with_reducible exact ⟨cellNew hs0.1, cellNew hs0.2.1, cellNew hs0.2.2.1, cellNew hs0.2.2.2⟩) | (with_reducible exact ⟨cellNew hs7.1, cellNew hs7.2.1, cellNew hs7.2.2.1, cellNew hs7.2.2.2⟩)) | (with_reducible exact ⟨far5 (by omega) hs7.1, far5 (by omega) hs7.2.1, far5 (by omega) hs7.2.2.1, far5 (by omega) hs7.2.2.2⟩) | (simp (disch := omega) only [hs7, and_self, go_sem, World.cell?_drew]; done) | (simp (disch := omega) [hs7, go_sem]; done))
      (first | (go_at_call 85; refine (icopyInts_calls xa xc x _ (HX.out.below (by (repeat (first | with_reducible assumption | with_reducible exact Below.refl _ _ | with_reducible refine Below.drew ?_ | with_reducible refine belowDrewN ?_ _ | ((with_reducible refine Below.setCell ?_ ?_ _); rotate_left; focus (first | omega | (simp; done) | (simp; omega))) | ((with_reducible refine Below.alloc ?_ ?_ _); rotate_left; focus (first | omega | (simp; done) | (simp; omega))))))) (by omega)).mono ?_; rintro e w7 ⟨a7, cap7, rfl, hm7, hb7⟩; obtain ⟨hc7, hf7⟩ := bcell hb7; have hz7 := hb7.size; (try simp only [World.size_alloc, World.size_setCell, World.size_drew, sizeDrewN] at hz7 hc7 hf7); have hp7_0 : w.heap.size < w7.heap.size := (by omega); have hp7_1 : w.heap.size + 1 < w7.heap.size := (by omega); have hs7 : (w7.cell? ⟨w.heap.size, 0, none⟩ = some (.int .i64 k) ∧ w7.cell? ⟨w.heap.size, 1, none⟩ = some (.int .i64 n) ∧ w7.cell? ⟨w.heap.size, 2, none⟩ = some (.string s) ∧ w7.cell? ⟨w.heap.size, 3, none⟩ = some (.slice xa x.length xc)) := (by (try simp only [World.cell?_drew] at hc7); first | (with_reducible exact ⟨(hc7 _ _ (by omega)).trans hs0.1, (hc7 _ _ (by omega)).trans hs0.2.1, (hc7 _ _ (by omega)).trans hs0.2.2.1, (hc7 _ _ (by omega)).trans hs0.2.2.2⟩) | (with_reducible exact ⟨(hc7 _ _ (by omega)).trans (cellNew hs0.1), (hc7 _ _ (by omega)).trans (cellNew hs0.2.1), (hc7 _ _ (by omega)).trans (cellNew hs0.2.2.1), (hc7 _ _ (by omega)).trans (cellNew hs0.2.2.2)⟩))))
    all_goals
      go_wp2_with fail
      have e0 : ∀ b, b < w.heap.size + 1 + 1 → w7.heap[b]? = ((w.alloc (.cells #[.int .i64 k, .int .i64 n, .string s, .slice xa x.length xc, .slice a ms.length cap] 27)).alloc (.cells #[.int .i64 0, .int .i64 0, .string ⟨#[]⟩, .slice none 0 0, .slice none 0 0] 27)).heap[b]? := fun b h => (hb7.block b (by simp; omega)).trans (by first | rfl | exact heapNew _ _ _ (by simp; omega))
      go_meet
      refine ⟨_, a7, cap7, rfl, ?_, ?_, ?_, ⟨?_, fun b hb => ?_, Nat.le_refl _⟩, ?_, ?_⟩
      · first
          | (with_reducible exact SBox.new _ _ _ _ _ _)
          | exact (hz0.of (w' := w7) (hb7.block _ (by simp))).set5 _ _ _ _ _
      · refine SBox.of (w := w7) (hr0.of (e0 _ (by omega))) ?_
        simp (disch := (first | omega | (simp; done) | (simp; omega))) only [heapSet, heapNew, heapDrew, heapDrewN]
      · refine SBox.of (w := w7) (hq0.of (e0 _ (by omega))) ?_
        simp (disch := (first | omega | (simp; done) | (simp; omega))) only [heapSet, heapNew, heapDrew, heapDrewN]
      · (exact M.Mine.mono (M.Mine.keep hm7 (fun b hb1 hb2 => by (try simp at hb1); simp (disch := (first | omega | (simp; omega))) only [heapSet, heapNew, heapDrew, heapDrewN])) (by first | omega | (simp; done) | (simp; omega)))
      · have := hm7.lt b hb; simp at this ⊢; omega
      · first | omega | (simp; omega)
      · (repeat (first | with_reducible assumption | with_reducible exact Below.refl _ _ | with_reducible refine Below.drew ?_ | with_reducible refine belowDrewN ?_ _ | ((with_reducible refine Below.setCell ?_ ?_ _); rotate_left; focus (first | omega | (simp; done) | (simp; omega))) | ((with_reducible refine Below.alloc ?_ ?_ _); rotate_left; focus (first | omega | (simp; done) | (simp; omega))) | ((with_reducible refine Below.trans ?_ (Below.mono hb7 ?_)); rotate_left; focus (first | omega | (simp; done) | (simp; omega)))))
  case rest =>
    obtain ⟨g, a7, cap7, rfl, hg7, hr7, hs7, hm7, hgl, hb7⟩ := hcut
    have hgs := hg7.lt
    have hrs := hr7.lt
    have hz7 := hb7.size
    obtain ⟨z0, z1, z2, z3, z4, y0, y1, y2, y3, y4⟩ := hs7
    have HG7 := Lib.hid hg7; clear hg7; have HR7 := Lib.hid hr7; clear hr7; have HM7 := Lib.hid hm7; clear hm7
    by_cases hk : k = 1
    · subst hk
      have hmx : mapX (put m) 1 x = (put m) x := mapX_one _ _
      have HMX := Lib.hid hmx; clear hmx
      go_wp2_with fail
      refine (addClo_calls nb m xa xc x _ (by omega) (HX.out.below (by (repeat (first | with_reducible assumption | with_reducible exact Below.refl _ _ | with_reducible refine Below.drew ?_ | with_reducible refine belowDrewN ?_ _ | ((with_reducible refine Below.setCell ?_ ?_ _); rotate_left; focus (first | omega | (simp; done) | (simp; omega))) | ((with_reducible refine Below.alloc ?_ ?_ _); rotate_left; focus (first | omega | (simp; done) | (simp; omega))) | ((with_reducible refine Below.trans ?_ (Below.mono hb7 ?_)); rotate_left; focus (first | omega | (simp; done) | (simp; omega))))))) ((hb7.cell (p := ⟨nb, 0, none⟩) hnb).trans HCL.out)).mono ?_
      rintro e w8 ⟨a8, cap8, rfl, hm8, hb8⟩
      obtain ⟨hc8, hf8⟩ := bcell hb8; have hz8 := hb8.size; (try simp only [World.size_alloc, World.size_setCell, World.size_drew, sizeDrewN] at hz8 hc8 hf8)
      have hg8 := (HG7.out.below hb8 hgs).set3 (.slice a8 (put m x).length cap8)
      have hr8 := (HR7.out.below hb8 hrs).far (a := ⟨g, 3, none⟩) (.slice a8 (put m x).length cap8) (by simp; omega)
      have hg8' := HG7.out.below hb8 hgs
      obtain ⟨v0, v1, v2, v3, v4, u0, u1, u2, u3, u4⟩ := hg8'
      have hsc0 : (M.sl a8 cap8 1 3 (intM (put m x))).Free (w.heap.size + 1 + 1) w8.heap.size g (w8.setCell ⟨g, 3, none⟩ (.slice a8 (put m x).length cap8)) :=
        ⟨by (exact M.Mine.mono (M.Mine.keep hm8 (fun b hb1 hb2 => by (try simp at hb1); simp (disch := (first | omega | (simp; omega))) only [heapSet, heapNew, heapDrew, heapDrewN])) (by first | omega | (simp; done) | (simp; omega))), fun b hb => by have := hm8.lt b hb; omega, by simp⟩
      have hz8 : wc.heap.size ≤ w8.heap.size := by omega
      have hbb8 : Below w.heap.size w (w8.setCell ⟨g, 3, none⟩ (.slice a8 (put m x).length cap8)) := by (repeat (first | with_reducible assumption | with_reducible exact Below.refl _ _ | with_reducible refine Below.drew ?_ | with_reducible refine belowDrewN ?_ _ | ((with_reducible refine Below.setCell ?_ ?_ _); rotate_left; focus (first | omega | (simp; done) | (simp; omega))) | ((with_reducible refine Below.alloc ?_ ?_ _); rotate_left; focus (first | omega | (simp; done) | (simp; omega))) | ((with_reducible refine Below.trans ?_ (Below.mono hb7 ?_)); rotate_left; focus (first | omega | (simp; done) | (simp; omega))) | ((with_reducible refine Below.trans ?_ (Below.mono hb8 ?_)); rotate_left; focus (first | omega | (simp; done) | (simp; omega)))))
      clear hm8
      have HSC0 := Lib.hid hsc0; clear hsc0; have HG8 := Lib.hid hg8; clear hg8; have HR8 := Lib.hid hr8; clear hr8
      clear hc8 hf8
      have c4 : w8.cell? ⟨w.heap.size, 4, none⟩ = some (.slice a ms.length cap) := (hb8.cell (p := ⟨w.heap.size, 4, none⟩) (by show w.heap.size < wc.heap.size; omega)).trans z4
      go_wp2_with fail
      go_loopw [29] (fun i wr => ∃ (j : Nat) (a' : Option Addr) (cap' : Nat) (ms' : List M), j ≤ ms.length ∧ i = .int .i64 j ∧ ms'.length = j ∧ Syn.IsL 27 (mapSynL (put m) (ds.take j)) ms' ∧ (M.sl a' cap' 5 27 ms').Mine wr (w8.heap.size) ∧
          SBox (g) 1 n s (.slice a8 (put m x).length cap8) (.slice a' ms'.length cap') wr ∧ SBox (w.heap.size + 1) 0 0 ⟨#[]⟩ (.slice none 0 0) (.slice none 0 0) wr ∧ (M.sl a8 cap8 1 3 (intM (put m x))).Free (w.heap.size + 1 + 1) w8.heap.size g wr ∧ Below w.heap.size w wr ∧ w8.heap.size ≤ wr.heap.size) (fun i _ => ms.length - (intOf i).toNat)
      case atStart => exact ⟨0, none, 0, [], Nat.zero_le _, rfl, rfl, by simp [mapSynL, Syn.IsL], M.Mine.nil _ _ _ _ (by decide), HG8.out, HR8.out, HSC0.out, hbb8, by simp⟩
      case round =>
        obtain ⟨j, a', cap', ms', hj, rfl, hj', hi', hm', hq, hr, hsc, hb, hsz⟩ := hrel
        obtain ⟨q0, q1, q2, q3, q4, e0, e1, e2, e3, e4⟩ := hq
        obtain ⟨r0, r1, r2, r3, r4, g0, g1, g2, g3, g4⟩ := hr
        have hq : SBox (g) 1 n s (.slice a8 (put m x).length cap8) (.slice a' ms'.length cap') wr := ⟨q0, q1, q2, q3, q4, e0, e1, e2, e3, e4⟩
        have hr : SBox (w.heap.size + 1) 0 0 ⟨#[]⟩ (.slice none 0 0) (.slice none 0 0) wr := ⟨r0, r1, r2, r3, r4, g0, g1, g2, g3, g4⟩
        have p3 := hq.lt
        have p2 := hr.lt
        by_cases hlt : j < ms.length
        · obtain ⟨b, off, k1, n1, s1, x1, ds1, xa1, xc1, a1, cap1, ms1, rfl, hd, hi1, hx1, hin1, c0, c1, c2, c3, c4⟩ := Syn.elem (HIN.out.below hb) HI.out j hlt
          obtain ⟨ht, hle⟩ := Syn.countL_le ds j _ hd
          simp only [Syn.count] at hle
          clear ht
          have hwt1 := Syn.wt_le hd
          simp only [Syn.wt] at hwt1
          have hclr : wr.cell? ⟨nb, 0, none⟩ = some (.int .i64 m) := (hb.cell (p := ⟨nb, 0, none⟩) hnb).trans HCL.out
          have hnbr : nb < wr.heap.size := by have := hb.size; omega
          have HD := Lib.hid hd; clear hd; have HI1 := Lib.hid hi1; clear hi1; have HX1 := Lib.hid hx1; clear hx1; have HIN1 := Lib.hid hin1; clear hin1; have HJ' := Lib.hid hj'; clear hj'; have HI' := Lib.hid hi'; clear hi'; have HM' := Lib.hid hm'; clear hm'; have HSC := Lib.hid hsc; clear hsc
          have HQ := Lib.hid hq; clear hq
          have HR := Lib.hid hr; clear hr
          go_wp2_with fail
          go_region_law (first
            | (go_simp; go_at_call 60; refine (IH.out k1 n1 s1 x1 ds1 (List.mem_of_getElem? HD.out) k1 n1 s1 x1 xa1 xc1 a1 cap1 ms1 nb m _ (by omega) HI1.out (HX1.out.below (by (repeat (first | with_reducible assumption | with_reducible exact Below.refl _ _ | with_reducible refine Below.drew ?_ | with_reducible refine belowDrewN ?_ _ | ((with_reducible refine Below.setCell ?_ ?_ _); rotate_left; focus (first | omega | (simp; done) | (simp; omega))) | ((with_reducible refine Below.alloc ?_ ?_ _); rotate_left; focus (first | omega | (simp; done) | (simp; omega))))))) (HIN1.out.below (by (repeat (first | with_reducible assumption | with_reducible exact Below.refl _ _ | with_reducible refine Below.drew ?_ | with_reducible refine belowDrewN ?_ _ | ((with_reducible refine Below.setCell ?_ ?_ _); rotate_left; focus (first | omega | (simp; done) | (simp; omega))) | ((with_reducible refine Below.alloc ?_ ?_ _); rotate_left; focus (first | omega | (simp; done) | (simp; omega))))))) (by simp (disch := omega) [hclr, go_sem]) ).mono ?_; rintro e w1 ⟨xa2, xc2, a2, cap2, ms2, rfl, hi2, hm2, hb2⟩; obtain ⟨hc2, hf2⟩ := bcell hb2; have hz2 := hb2.size; (try simp only [World.size_alloc, World.size_setCell, World.size_drew, sizeDrewN] at hz2 hc2 hf2); have q3c : w1.cell? ⟨g, 4, none⟩ = some (.slice a' ms'.length cap') := (by simp (disch := omega) [hc2, q4, go_sem]); have p3c : g < w1.heap.size := (by omega); (try simp only [Syn.k_mk, Syn.n_mk, Syn.s_mk, Syn.x_mk, Syn.ds_mk, List.length_nil]))
            | (refine step_push (wr := wr) rfl _ _ 25 rfl 27 _ 5 80 Try.underlying25 infoSyn rfl (by decide) (w8.heap.size) a' cap' ms' rfl HM'.out hsz (by (repeat (first | with_reducible assumption | with_reducible exact Below.refl _ _ | with_reducible refine Below.drew ?_ | with_reducible refine belowDrewN ?_ _ | ((with_reducible refine Below.setCell ?_ ?_ _); rotate_left; focus (first | omega | (simp; done) | (simp; omega))) | ((with_reducible refine Below.alloc ?_ ?_ _); rotate_left; focus (first | omega | (simp; done) | (simp; omega))) | ((with_reducible refine Below.trans ?_ (Below.mono hb2 ?_)); rotate_left; focus (first | omega | (simp; done) | (simp; omega)))))) _ (.ag [.c (.int .i64 k1), .c (.int .i64 n1), .c (.string s1), .sl xa2 xc2 1 3 (intM (mapX (put m) k1 x1)), .sl a2 cap2 5 27 ms2]) (by simp [M.cells, M.cellsL, intM_length]) rfl _ (SynOwn_el hm2 k1 n1 s1) (by simp) rfl (by have := HJ'.out; unfold maxLen; omega) (by have := HJ'.out; have := HL.out; omega) ?_; intro a3 cap3 w3 hm3 hb3 hz3 hfr3; have q3' : w3.cell? ⟨g, 4, none⟩ = some (.slice a' ms'.length cap') := (by rw [hb3.cell (by first | (simp; done) | (simp; omega))]; simp (disch := omega) [hc2, q4, go_sem]); have qf' : w3.frozen? ⟨g, 4, none⟩ = false := (by rw [hb3.frozen (by first | (simp; done) | (simp; omega))]; simp (disch := omega) [hf2, e4, go_sem])))
          all_goals
            have hbA : Below wr.heap.size wr w1 := by (repeat (first | with_reducible assumption | with_reducible exact Below.refl _ _ | with_reducible refine Below.drew ?_ | with_reducible refine belowDrewN ?_ _ | ((with_reducible refine Below.setCell ?_ ?_ _); rotate_left; focus (first | omega | (simp; done) | (simp; omega))) | ((with_reducible refine Below.alloc ?_ ?_ _); rotate_left; focus (first | omega | (simp; done) | (simp; omega))) | ((with_reducible refine Below.trans ?_ (Below.mono hb2 ?_)); rotate_left; focus (first | omega | (simp; done) | (simp; omega)))))
            have hq3 := (HQ.out.below hbA p3).below hb3 (by omega)
            have hr3 := (HR.out.below hbA p2).below hb3 (by omega)
            (try simp only [Syn.k_mk, Syn.n_mk, Syn.s_mk, Syn.x_mk, Syn.ds_mk] at hi2)
            have hfin : Syn.IsL 27 (mapSynL (put m) (ds.take (j + 1))) (ms' ++ [.ag [.c (.int .i64 k1), .c (.int .i64 n1), .c (.string s1), .sl xa2 xc2 1 3 (intM (mapX (put m) k1 x1)), .sl a2 cap2 5 27 ms2]]) := by
              rw [mapSynL_take HD.out]; exact HI'.out.snoc ⟨_, _, _, _, _, rfl, hi2⟩
            have hjj := HJ'.out
            have HFIN := Lib.hid hfin; clear hfin; have HM3 := Lib.hid hm3; clear hm3; have HI2 := Lib.hid hi2; clear hi2; have HM2 := Lib.hid hm2; clear hm2; have HQ3 := Lib.hid hq3; clear hq3; have HR3 := Lib.hid hr3; clear hr3; have HBA := Lib.hid hbA; clear hbA
            go_wp2_with fail
            go_roundw
            case rel =>
              refine ⟨j + 1, a3, cap3, ms' ++ [.ag [.c (.int .i64 k1), .c (.int .i64 n1), .c (.string s1), .sl xa2 xc2 1 3 (intM (mapX (put m) k1 x1)), .sl a2 cap2 5 27 ms2]], by omega, by go_num, by simp [hjj], HFIN.out, ?_, ?_, ?_, ?_, ?_, ?_⟩
              · exact M.Mine.keep HM3.out (fun b hb1 hb2 => by simp (disch := (first | omega | (simp; omega))) only [heapSet])
              · have := HQ3.out.set4 (.slice a3 (ms'.length + 1) cap3); simpa [hjj] using this
              · exact HR3.out.far _ (by first | (simp; done) | (simp; omega))
              · exact HSC.out.keep (by simp; omega) (fun b hb1 hb2 hb4 => by rw [heapSet _ _ _ _ (by simpa using hb4), hb3.block b (by omega), HBA.out.block b (by omega)])
              · (repeat (first | with_reducible assumption | with_reducible exact Below.refl _ _ | with_reducible refine Below.drew ?_ | with_reducible refine belowDrewN ?_ _ | ((with_reducible refine Below.setCell ?_ ?_ _); rotate_left; focus (first | omega | (simp; done) | (simp; omega))) | ((with_reducible refine Below.alloc ?_ ?_ _); rotate_left; focus (first | omega | (simp; done) | (simp; omega))) | ((with_reducible refine Below.trans ?_ (Below.mono hb2 ?_)); rotate_left; focus (first | omega | (simp; done) | (simp; omega))) | ((with_reducible refine Below.trans ?_ (Below.mono hb3 ?_)); rotate_left; focus (first | omega | (simp; done) | (simp; omega)))))
              · simp; omega
            case measure => simp [intOf]; omega
        · have HJ' := Lib.hid hj'; clear hj'; have HSC := Lib.hid hsc; clear hsc
          have HQ := Lib.hid hq; clear hq
          have HR := Lib.hid hr; clear hr
          go_wp2_with fail
          refine bodyPost_ret (v := .agg #[.int .i64 1, .int .i64 n, .string s, .slice a8 (put m x).length cap8, .slice a' ms'.length cap']) (by simp [results, Try.results60, go_sem, q0, q1, q2, q3, q4, r0, r1, r2, r3, r4, HJ'.out]) rfl ?_
          rw [HMX.out]
          have hk2 : j = ms.length := by omega
          subst hk2
          refine ⟨a8, cap8, a', cap', ms', rfl, ?_, ?_, ?_⟩
          · rw [HL.out, List.take_length] at hi'
            exact hi'
          · exact SynOwn_two (c := w8.heap.size) (by (exact M.Mine.mono (M.Mine.keep HSC.out.mine (fun b hb1 hb2 => by (try simp at hb1); simp (disch := (first | omega | (simp; omega))) only [heapSet, heapNew, heapDrew, heapDrewN])) (by first | omega | (simp; done) | (simp; omega)))) (by (exact M.Mine.mono (M.Mine.keep hm' (fun b hb1 hb2 => by (try simp at hb1); simp (disch := (first | omega | (simp; omega))) only [heapSet, heapNew, heapDrew, heapDrewN])) (by first | omega | (simp; done) | (simp; omega)))) (by omega) (fun b hb => by have := HSC.out.lt b hb; omega)
          · (repeat (first | with_reducible assumption | with_reducible exact Below.refl _ _ | with_reducible refine Below.drew ?_ | with_reducible refine belowDrewN ?_ _ | ((with_reducible refine Below.setCell ?_ ?_ _); rotate_left; focus (first | omega | (simp; done) | (simp; omega))) | ((with_reducible refine Below.alloc ?_ ?_ _); rotate_left; focus (first | omega | (simp; done) | (simp; omega))) | ((with_reducible refine Below.trans ?_ (Below.mono hb ?_)); rotate_left; focus (first | omega | (simp; done) | (simp; omega)))))
    · have hkb : (k == 1) = false := by simp [hk]
      have hmx : mapX (put m) k x = x := mapX_other hk _ _
      have HK := Lib.hid hk; clear hk; have HMX := Lib.hid hmx; clear hmx
      go_wp2_with fail
      go_loopw [29] (fun i wr => ∃ (j : Nat) (a' : Option Addr) (cap' : Nat) (ms' : List M), j ≤ ms.length ∧ i = .int .i64 j ∧ ms'.length = j ∧ Syn.IsL 27 (mapSynL (put m) (ds.take j)) ms' ∧ (M.sl a' cap' 5 27 ms').Mine wr (wc.heap.size) ∧
          SBox (g) k n s (.slice a7 x.length cap7) (.slice a' ms'.length cap') wr ∧ SBox (w.heap.size + 1) 0 0 ⟨#[]⟩ (.slice none 0 0) (.slice none 0 0) wr ∧ (M.sl a7 cap7 1 3 (intM x)).Free (w.heap.size + 1 + 1) wc.heap.size g wr ∧ Below w.heap.size w wr ∧ wc.heap.size ≤ wr.heap.size) (fun i _ => ms.length - (intOf i).toNat)
      case atStart => exact ⟨0, none, 0, [], Nat.zero_le _, rfl, rfl, by simp [mapSynL, Syn.IsL], M.Mine.nil _ _ _ _ (by decide), HG7.out, HR7.out, HM7.out, hb7, Nat.le_refl _⟩
      case round =>
        obtain ⟨j, a', cap', ms', hj, rfl, hj', hi', hm', hq, hr, hsc, hb, hsz⟩ := hrel
        obtain ⟨q0, q1, q2, q3, q4, e0, e1, e2, e3, e4⟩ := hq
        obtain ⟨r0, r1, r2, r3, r4, g0, g1, g2, g3, g4⟩ := hr
        have hq : SBox (g) k n s (.slice a7 x.length cap7) (.slice a' ms'.length cap') wr := ⟨q0, q1, q2, q3, q4, e0, e1, e2, e3, e4⟩
        have hr : SBox (w.heap.size + 1) 0 0 ⟨#[]⟩ (.slice none 0 0) (.slice none 0 0) wr := ⟨r0, r1, r2, r3, r4, g0, g1, g2, g3, g4⟩
        have p3 := hq.lt
        have p2 := hr.lt
        by_cases hlt : j < ms.length
        · obtain ⟨b, off, k1, n1, s1, x1, ds1, xa1, xc1, a1, cap1, ms1, rfl, hd, hi1, hx1, hin1, c0, c1, c2, c3, c4⟩ := Syn.elem (HIN.out.below hb) HI.out j hlt
          obtain ⟨ht, hle⟩ := Syn.countL_le ds j _ hd
          simp only [Syn.count] at hle
          clear ht
          have hwt1 := Syn.wt_le hd
          simp only [Syn.wt] at hwt1
          have hclr : wr.cell? ⟨nb, 0, none⟩ = some (.int .i64 m) := (hb.cell (p := ⟨nb, 0, none⟩) hnb).trans HCL.out
          have hnbr : nb < wr.heap.size := by have := hb.size; omega
          have HD := Lib.hid hd; clear hd; have HI1 := Lib.hid hi1; clear hi1; have HX1 := Lib.hid hx1; clear hx1; have HIN1 := Lib.hid hin1; clear hin1; have HJ' := Lib.hid hj'; clear hj'; have HI' := Lib.hid hi'; clear hi'; have HM' := Lib.hid hm'; clear hm'; have HSC := Lib.hid hsc; clear hsc
          have HQ := Lib.hid hq; clear hq
          have HR := Lib.hid hr; clear hr
          go_wp2_with fail
          go_region_law (first
            | (go_simp; go_at_call 60; refine (IH.out k1 n1 s1 x1 ds1 (List.mem_of_getElem? HD.out) k1 n1 s1 x1 xa1 xc1 a1 cap1 ms1 nb m _ (by omega) HI1.out (HX1.out.below (by (repeat (first | with_reducible assumption | with_reducible exact Below.refl _ _ | with_reducible refine Below.drew ?_ | with_reducible refine belowDrewN ?_ _ | ((with_reducible refine Below.setCell ?_ ?_ _); rotate_left; focus (first | omega | (simp; done) | (simp; omega))) | ((with_reducible refine Below.alloc ?_ ?_ _); rotate_left; focus (first | omega | (simp; done) | (simp; omega))))))) (HIN1.out.below (by (repeat (first | with_reducible assumption | with_reducible exact Below.refl _ _ | with_reducible refine Below.drew ?_ | with_reducible refine belowDrewN ?_ _ | ((with_reducible refine Below.setCell ?_ ?_ _); rotate_left; focus (first | omega | (simp; done) | (simp; omega))) | ((with_reducible refine Below.alloc ?_ ?_ _); rotate_left; focus (first | omega | (simp; done) | (simp; omega))))))) (by simp (disch := omega) [hclr, go_sem]) ).mono ?_; rintro e w1 ⟨xa2, xc2, a2, cap2, ms2, rfl, hi2, hm2, hb2⟩; obtain ⟨hc2, hf2⟩ := bcell hb2; have hz2 := hb2.size; (try simp only [World.size_alloc, World.size_setCell, World.size_drew, sizeDrewN] at hz2 hc2 hf2); have q3c : w1.cell? ⟨g, 4, none⟩ = some (.slice a' ms'.length cap') := (by simp (disch := omega) [hc2, q4, go_sem]); have p3c : g < w1.heap.size := (by omega); (try simp only [Syn.k_mk, Syn.n_mk, Syn.s_mk, Syn.x_mk, Syn.ds_mk, List.length_nil]))
            | (refine step_push (wr := wr) rfl _ _ 25 rfl 27 _ 5 80 Try.underlying25 infoSyn rfl (by decide) (wc.heap.size) a' cap' ms' rfl HM'.out hsz (by (repeat (first | with_reducible assumption | with_reducible exact Below.refl _ _ | with_reducible refine Below.drew ?_ | with_reducible refine belowDrewN ?_ _ | ((with_reducible refine Below.setCell ?_ ?_ _); rotate_left; focus (first | omega | (simp; done) | (simp; omega))) | ((with_reducible refine Below.alloc ?_ ?_ _); rotate_left; focus (first | omega | (simp; done) | (simp; omega))) | ((with_reducible refine Below.trans ?_ (Below.mono hb2 ?_)); rotate_left; focus (first | omega | (simp; done) | (simp; omega)))))) _ (.ag [.c (.int .i64 k1), .c (.int .i64 n1), .c (.string s1), .sl xa2 xc2 1 3 (intM (mapX (put m) k1 x1)), .sl a2 cap2 5 27 ms2]) (by simp [M.cells, M.cellsL, intM_length]) rfl _ (SynOwn_el hm2 k1 n1 s1) (by simp) rfl (by have := HJ'.out; unfold maxLen; omega) (by have := HJ'.out; have := HL.out; omega) ?_; intro a3 cap3 w3 hm3 hb3 hz3 hfr3; have q3' : w3.cell? ⟨g, 4, none⟩ = some (.slice a' ms'.length cap') := (by rw [hb3.cell (by first | (simp; done) | (simp; omega))]; simp (disch := omega) [hc2, q4, go_sem]); have qf' : w3.frozen? ⟨g, 4, none⟩ = false := (by rw [hb3.frozen (by first | (simp; done) | (simp; omega))]; simp (disch := omega) [hf2, e4, go_sem])))
          all_goals
            have hbA : Below wr.heap.size wr w1 := by (repeat (first | with_reducible assumption | with_reducible exact Below.refl _ _ | with_reducible refine Below.drew ?_ | with_reducible refine belowDrewN ?_ _ | ((with_reducible refine Below.setCell ?_ ?_ _); rotate_left; focus (first | omega | (simp; done) | (simp; omega))) | ((with_reducible refine Below.alloc ?_ ?_ _); rotate_left; focus (first | omega | (simp; done) | (simp; omega))) | ((with_reducible refine Below.trans ?_ (Below.mono hb2 ?_)); rotate_left; focus (first | omega | (simp; done) | (simp; omega)))))
            have hq3 := (HQ.out.below hbA p3).below hb3 (by omega)
            have hr3 := (HR.out.below hbA p2).below hb3 (by omega)
            (try simp only [Syn.k_mk, Syn.n_mk, Syn.s_mk, Syn.x_mk, Syn.ds_mk] at hi2)
            have hfin : Syn.IsL 27 (mapSynL (put m) (ds.take (j + 1))) (ms' ++ [.ag [.c (.int .i64 k1), .c (.int .i64 n1), .c (.string s1), .sl xa2 xc2 1 3 (intM (mapX (put m) k1 x1)), .sl a2 cap2 5 27 ms2]]) := by
              rw [mapSynL_take HD.out]; exact HI'.out.snoc ⟨_, _, _, _, _, rfl, hi2⟩
            have hjj := HJ'.out
            have HFIN := Lib.hid hfin; clear hfin; have HM3 := Lib.hid hm3; clear hm3; have HI2 := Lib.hid hi2; clear hi2; have HM2 := Lib.hid hm2; clear hm2; have HQ3 := Lib.hid hq3; clear hq3; have HR3 := Lib.hid hr3; clear hr3; have HBA := Lib.hid hbA; clear hbA
            go_wp2_with fail
            go_roundw
            case rel =>
              refine ⟨j + 1, a3, cap3, ms' ++ [.ag [.c (.int .i64 k1), .c (.int .i64 n1), .c (.string s1), .sl xa2 xc2 1 3 (intM (mapX (put m) k1 x1)), .sl a2 cap2 5 27 ms2]], by omega, by go_num, by simp [hjj], HFIN.out, ?_, ?_, ?_, ?_, ?_, ?_⟩
              · exact M.Mine.keep HM3.out (fun b hb1 hb2 => by simp (disch := (first | omega | (simp; omega))) only [heapSet])
              · have := HQ3.out.set4 (.slice a3 (ms'.length + 1) cap3); simpa [hjj] using this
              · exact HR3.out.far _ (by first | (simp; done) | (simp; omega))
              · exact HSC.out.keep (by simp; omega) (fun b hb1 hb2 hb4 => by rw [heapSet _ _ _ _ (by simpa using hb4), hb3.block b (by omega), HBA.out.block b (by omega)])
              · (repeat (first | with_reducible assumption | with_reducible exact Below.refl _ _ | with_reducible refine Below.drew ?_ | with_reducible refine belowDrewN ?_ _ | ((with_reducible refine Below.setCell ?_ ?_ _); rotate_left; focus (first | omega | (simp; done) | (simp; omega))) | ((with_reducible refine Below.alloc ?_ ?_ _); rotate_left; focus (first | omega | (simp; done) | (simp; omega))) | ((with_reducible refine Below.trans ?_ (Below.mono hb2 ?_)); rotate_left; focus (first | omega | (simp; done) | (simp; omega))) | ((with_reducible refine Below.trans ?_ (Below.mono hb3 ?_)); rotate_left; focus (first | omega | (simp; done) | (simp; omega)))))
              · simp; omega
            case measure => simp [intOf]; omega
        · have HJ' := Lib.hid hj'; clear hj'; have HSC := Lib.hid hsc; clear hsc
          have HQ := Lib.hid hq; clear hq
          have HR := Lib.hid hr; clear hr
          go_wp2_with fail
          refine bodyPost_ret (v := .agg #[.int .i64 k, .int .i64 n, .string s, .slice a7 x.length cap7, .slice a' ms'.length cap']) (by simp [results, Try.results60, go_sem, q0, q1, q2, q3, q4, r0, r1, r2, r3, r4, HJ'.out]) rfl ?_
          rw [HMX.out]
          have hk2 : j = ms.length := by omega
          subst hk2
          refine ⟨a7, cap7, a', cap', ms', rfl, ?_, ?_, ?_⟩
          · rw [HL.out, List.take_length] at hi'
            exact hi'
          · exact SynOwn_two (c := wc.heap.size) (by (exact M.Mine.mono (M.Mine.keep HSC.out.mine (fun b hb1 hb2 => by (try simp at hb1); simp (disch := (first | omega | (simp; omega))) only [heapSet, heapNew, heapDrew, heapDrewN])) (by first | omega | (simp; done) | (simp; omega)))) (by (exact M.Mine.mono (M.Mine.keep hm' (fun b hb1 hb2 => by (try simp at hb1); simp (disch := (first | omega | (simp; omega))) only [heapSet, heapNew, heapDrew, heapDrewN])) (by first | omega | (simp; done) | (simp; omega)))) (by omega) (fun b hb => by have := HSC.out.lt b hb; omega)
          · (repeat (first | with_reducible assumption | with_reducible exact Below.refl _ _ | with_reducible refine Below.drew ?_ | with_reducible refine belowDrewN ?_ _ | ((with_reducible refine Below.setCell ?_ ?_ _); rotate_left; focus (first | omega | (simp; done) | (simp; omega))) | ((with_reducible refine Below.alloc ?_ ?_ _); rotate_left; focus (first | omega | (simp; done) | (simp; omega))) | ((with_reducible refine Below.trans ?_ (Below.mono hb ?_)); rotate_left; focus (first | omega | (simp; done) | (simp; omega)))))
end Go.Proofs.Ytghbnehocggnnaa

/-
  Walks: scopes mapped (Flip). No condition. (printed by wip/tools/mkms.py)
-/
set_option linter.unusedVariables false
set_option linter.unusedSimpArgs false
set_option maxRecDepth 100000
namespace Go.Proofs.Ytghbnehocggnnaa
open Go.RowKit

theorem flipClo_calls (nb : Nat) (m : Int) (xa : Option Addr) (xc : Nat) (x : List Int) (w : World) (hB : x.length ≤ 4000000) (hx : (M.sl xa xc 1 3 (intM x)).In w) (hcl : w.cell? ⟨nb, 0, none⟩ = some (.int .i64 m)) :
    Calls Try.prog 98 #[.slice xa x.length xc, .pointer (some ⟨nb, 0, none⟩)] w (RetInts (flipSo m x) w) := by
  have HX := Lib.hid hx; clear hx
  go_enter Try.func98, Try.ntmps98
  go_wp2_with fail
  refine (iFlippedScope_calls xa xc x m _ HX.out hB).mono ?_
  rintro e w1 ⟨a1, c1, rfl, hm1, hb1⟩
  have HM1 := Lib.hid hm1; clear hm1
  go_wp2_with fail
  go_ret
  exact ⟨a1, c1, rfl, HM1.out, hb1⟩
def iMFlipSs (ds : List Syn) : Prop := ∀ (k n : Int) (s : ByteArray) (x : List Int) (xa : Option Addr) (xc : Nat) (a : Option Addr) (cap : Nat) (ms : List M) (nb : Nat) (m : Int) (w : World), s.size + (x.length + (ds.length + Syn.wtX ds)) ≤ 2000000 → Syn.IsL 27 ds ms → (M.sl xa xc 1 3 (intM x)).In w → (M.sl a cap 5 27 ms).In w → w.cell? ⟨nb, 0, none⟩ = some (.int .i64 m) → 
    Calls Try.prog 60 #[.agg #[.int .i64 k, .int .i64 n, .string s, .slice xa x.length xc, .slice a ms.length cap], .func (.func 98) #[] #[.pointer (some ⟨nb, 0, none⟩)]] w (RetSyn 27 (.mk k n s (mapX (flipSo m) k x) (mapSynL (flipSo m) ds)) w)
set_option maxHeartbeats 4000000 in
theorem iMapFlip_calls : ∀ ds, iMFlipSs ds := by
  refine Syn.inductL fun ds ih => ?_
  intro k n s x xa xc a cap ms nb m w hB hi hx hin hcl
  have hl := hi.length
  have hcap := hin.len
  have hxl := Ints.len hx
  have hnb := World.block_lt_of_cell? w _ hcl
  have IH := Lib.hid ih; clear ih; have HIN := Lib.hid hin; clear hin; have HX := Lib.hid hx; clear hx; have HI := Lib.hid hi; clear hi; have HL := Lib.hid hl; clear hl; have HCL := Lib.hid hcl; clear hcl
  go_enter Try.func60, Try.ntmps60
  go_upto_region 1 with (fail)
  go_cut [5] (fun s5 wx => ∃ (g : Nat) (a7 : Option Addr) (cap7 : Nat), s5 = .pointer (some ⟨g, 0, none⟩) ∧ SBox g k n s (.slice a7 x.length cap7) (.slice none 0 0) wx ∧ SBox (w.heap.size + 1) 0 0 ⟨#[]⟩ (.slice none 0 0) (.slice none 0 0) wx ∧ SBox w.heap.size k n s (.slice xa x.length xc) (.slice a ms.length cap) wx ∧
      (M.sl a7 cap7 1 3 (intM x)).Free (w.heap.size + 1 + 1) wx.heap.size g wx ∧ w.heap.size + 1 < g ∧ Below w.heap.size w wx)
  case first =>
    have hs0 : (((w.alloc (.cells #[.int .i64 k, .int .i64 n, .string s, .slice xa x.length xc, .slice a ms.length cap] 27)).alloc (.cells #[.int .i64 0, .int .i64 0, .string ⟨#[]⟩, .slice none 0 0, .slice none 0 0] 27)).cell? ⟨w.heap.size, 0, none⟩ = some (.int .i64 k) ∧ ((w.alloc (.cells #[.int .i64 k, .int .i64 n, .string s, .slice xa x.length xc, .slice a ms.length cap] 27)).alloc (.cells #[.int .i64 0, .int .i64 0, .string ⟨#[]⟩, .slice none 0 0, .slice none 0 0] 27)).cell? ⟨w.heap.size, 1, none⟩ = some (.int .i64 n) ∧ ((w.alloc (.cells #[.int .i64 k, .int .i64 n, .string s, .slice xa x.length xc, .slice a ms.length cap] 27)).alloc (.cells #[.int .i64 0, .int .i64 0, .string ⟨#[]⟩, .slice none 0 0, .slice none 0 0] 27)).cell? ⟨w.heap.size, 2, none⟩ = some (.string s) ∧ ((w.alloc (.cells #[.int .i64 k, .int .i64 n, .string s, .slice xa x.length xc, .slice a ms.length cap] 27)).alloc (.cells #[.int .i64 0, .int .i64 0, .string ⟨#[]⟩, .slice none 0 0, .slice none 0 0] 27)).cell? ⟨w.heap.size, 3, none⟩ = some (.slice xa x.length xc)) := by refine ⟨?_, ?_, ?_, ?_⟩ <;> first | (simp [go_sem]; done) | (simp [go_sem]; rfl)
    have hq0 : SBox w.heap.size k n s (.slice xa x.length xc) (.slice a ms.length cap) ((w.alloc (.cells #[.int .i64 k, .int .i64 n, .string s, .slice xa x.length xc, .slice a ms.length cap] 27)).alloc (.cells #[.int .i64 0, .int .i64 0, .string ⟨#[]⟩, .slice none 0 0, .slice none 0 0] 27)) := by constructor <;> first | (simp [go_sem]; done) | (simp [go_sem]; rfl)
    have hr0 : SBox (w.heap.size + 1) 0 0 ⟨#[]⟩ (.slice none 0 0) (.slice none 0 0) ((w.alloc (.cells #[.int .i64 k, .int .i64 n, .string s, .slice xa x.length xc, .slice a ms.length cap] 27)).alloc (.cells #[.int .i64 0, .int .i64 0, .string ⟨#[]⟩, .slice none 0 0, .slice none 0 0] 27)) := by constructor <;> first | (simp [go_sem]; done) | (simp [go_sem]; rfl)
    have hz0 : SBox (w.heap.size + 1 + 1) 0 0 ⟨#[]⟩ (.slice none 0 0) (.slice none 0 0) (((w.alloc (.cells #[.int .i64 k, .int .i64 n, .string s, .slice xa x.length xc, .slice a ms.length cap] 27)).alloc (.cells #[.int .i64 0, .int .i64 0, .string ⟨#[]⟩, .slice none 0 0, .slice none 0 0] 27)).alloc (.cells #[.int .i64 0, .int .i64 0, .string ⟨#[]⟩, .slice none 0 0, .slice none 0 0] 27)) := by constructor <;> first | (simp [go_sem]; done) | (simp [go_sem]; rfl)
    go_region_held3 (fun w' => w'.cell? ⟨w.heap.size, 0, none⟩ = some (.int .i64 k) ∧ w'.cell? ⟨w.heap.size, 1, none⟩ = some (.int .i64 n) ∧ w'.cell? ⟨w.heap.size, 2, none⟩ = some (.string s) ∧ w'.cell? ⟨w.heap.size, 3, none⟩ = some (.slice xa x.length xc))
      (first | (with_reducible exact hs0) | (with_reducible exact hs7) | (with_reducible exact ⟨cellNew hs0.1, cellNew hs0.2.1, cellNew hs0.2.2.1, cellNew hs0.2.2.2⟩) | (with_reducible exact ⟨cellNew hs7.1, cellNew hs7.2.1, cellNew hs7.2.2.1, cellNew hs7.2.2.2⟩) | (simp only [World.cell?_drew]; first | (with_reducible exact hs0) | (with_reducible exact hs7) | (with_reducible exact ⟨cellNew hs0.1, cellNew hs0.2.1, cellNew hs0.2.2.1, cellNew hs0.2.2.2⟩) | (with_reducible exact ⟨cellNew hs7.1, cellNew hs7.2.1, cellNew hs7.2.2.1, cellNew hs7.2.2.2⟩)) | (with_reducible exact ⟨far5 (by omega) hs7.1, far5 (by omega) hs7.2.1, far5 (by omega) hs7.2.2.1, far5 (by omega) hs7.2.2.2⟩) | (simp (disch := omega) only [hs7, and_self, go_sem, World.cell?_drew]; done) | (simp (disch := omega) [hs7, go_sem]; done))
      (first | (go_at_call 85; refine (icopyInts_calls xa xc x _ (HX.out.below (by (repeat (first | with_reducible assumption | with_reducible exact Below.refl _ _ | with_reducible refine Below.drew ?_ | with_reducible refine belowDrewN ?_ _ | ((with_reducible refine Below.setCell ?_ ?_ _); rotate_left; focus (first | omega | (simp; done) | (simp; omega))) | ((with_reducible refine Below.alloc ?_ ?_ _); rotate_left; focus (first | omega | (simp; done) | (simp; omega))))))) (by omega)).mono ?_; rintro e w7 ⟨a7, cap7, rfl, hm7, hb7⟩; obtain ⟨hc7, hf7⟩ := bcell hb7; have hz7 := hb7.size; (try simp only [World.size_alloc, World.size_setCell, World.size_drew, sizeDrewN] at hz7 hc7 hf7); have hp7_0 : w.heap.size < w7.heap.size := (by omega); have hp7_1 : w.heap.size + 1 < w7.heap.size := (by omega); have hs7 : (w7.cell? ⟨w.heap.size, 0, none⟩ = some (.int .i64 k) ∧ w7.cell? ⟨w.heap.size, 1, none⟩ = some (.int .i64 n) ∧ w7.cell? ⟨w.heap.size, 2, none⟩ = some (.string s) ∧ w7.cell? ⟨w.heap.size, 3, none⟩ = some (.slice xa x.length xc)) := (by (try simp only [World.cell?_drew] at hc7); first | (with_reducible exact ⟨(hc7 _ _ (by omega)).trans hs0.1, (hc7 _ _ (by omega)).trans hs0.2.1, (hc7 _ _ (by omega)).trans hs0.2.2.1, (hc7 _ _ (by omega)).trans hs0.2.2.2⟩) | (with_reducible exact ⟨(hc7 _ _ (by omega)).trans (cellNew hs0.1), (hc7 _ _ (by omega)).trans (cellNew hs0.2.1), (hc7 _ _ (by omega)).trans (cellNew hs0.2.2.1), (hc7 _ _ (by omega)).trans (cellNew hs0.2.2.2)⟩))))
    all_goals
      go_wp2_with fail
      have e0 : ∀ b, b < w.heap.size + 1 + 1 → w7.heap[b]? = ((w.alloc (.cells #[.int .i64 k, .int .i64 n, .string s, .slice xa x.length xc, .slice a ms.length cap] 27)).alloc (.cells #[.int .i64 0, .int .i64 0, .string ⟨#[]⟩, .slice none 0 0, .slice none 0 0] 27)).heap[b]? := fun b h => (hb7.block b (by simp; omega)).trans (by first | rfl | exact heapNew _ _ _ (by simp; omega))
      go_meet
      refine ⟨_, a7, cap7, rfl, ?_, ?_, ?_, ⟨?_, fun b hb => ?_, Nat.le_refl _⟩, ?_, ?_⟩
      · first
          | (with_reducible exact SBox.new _ _ _ _ _ _)
          | exact (hz0.of (w' := w7) (hb7.block _ (by simp))).set5 _ _ _ _ _
      · refine SBox.of (w := w7) (hr0.of (e0 _ (by omega))) ?_
        simp (disch := (first | omega | (simp; done) | (simp; omega))) only [heapSet, heapNew, heapDrew, heapDrewN]
      · refine SBox.of (w := w7) (hq0.of (e0 _ (by omega))) ?_
        simp (disch := (first | omega | (simp; done) | (simp; omega))) only [heapSet, heapNew, heapDrew, heapDrewN]
      · (exact M.Mine.mono (M.Mine.keep hm7 (fun b hb1 hb2 => by (try simp at hb1); simp (disch := (first | omega | (simp; omega))) only [heapSet, heapNew, heapDrew, heapDrewN])) (by first | omega | (simp; done) | (simp; omega)))
      · have := hm7.lt b hb; simp at this ⊢; omega
      · first | omega | (simp; omega)
      · (repeat (first | with_reducible assumption | with_reducible exact Below.refl _ _ | with_reducible refine Below.drew ?_ | with_reducible refine belowDrewN ?_ _ | ((with_reducible refine Below.setCell ?_ ?_ _); rotate_left; focus (first | omega | (simp; done) | (simp; omega))) | ((with_reducible refine Below.alloc ?_ ?_ _); rotate_left; focus (first | omega | (simp; done) | (simp; omega))) | ((with_reducible refine Below.trans ?_ (Below.mono hb7 ?_)); rotate_left; focus (first | omega | (simp; done) | (simp; omega)))))
  case rest =>
    obtain ⟨g, a7, cap7, rfl, hg7, hr7, hs7, hm7, hgl, hb7⟩ := hcut
    have hgs := hg7.lt
    have hrs := hr7.lt
    have hz7 := hb7.size
    obtain ⟨z0, z1, z2, z3, z4, y0, y1, y2, y3, y4⟩ := hs7
    have HG7 := Lib.hid hg7; clear hg7; have HR7 := Lib.hid hr7; clear hr7; have HM7 := Lib.hid hm7; clear hm7
    by_cases hk : k = 1
    · subst hk
      have hmx : mapX (flipSo m) 1 x = (flipSo m) x := mapX_one _ _
      have HMX := Lib.hid hmx; clear hmx
      go_wp2_with fail
      refine (flipClo_calls nb m xa xc x _ (by omega) (HX.out.below (by (repeat (first | with_reducible assumption | with_reducible exact Below.refl _ _ | with_reducible refine Below.drew ?_ | with_reducible refine belowDrewN ?_ _ | ((with_reducible refine Below.setCell ?_ ?_ _); rotate_left; focus (first | omega | (simp; done) | (simp; omega))) | ((with_reducible refine Below.alloc ?_ ?_ _); rotate_left; focus (first | omega | (simp; done) | (simp; omega))) | ((with_reducible refine Below.trans ?_ (Below.mono hb7 ?_)); rotate_left; focus (first | omega | (simp; done) | (simp; omega))))))) ((hb7.cell (p := ⟨nb, 0, none⟩) hnb).trans HCL.out)).mono ?_
      rintro e w8 ⟨a8, cap8, rfl, hm8, hb8⟩
      obtain ⟨hc8, hf8⟩ := bcell hb8; have hz8 := hb8.size; (try simp only [World.size_alloc, World.size_setCell, World.size_drew, sizeDrewN] at hz8 hc8 hf8)
      have hg8 := (HG7.out.below hb8 hgs).set3 (.slice a8 (flipSo m x).length cap8)
      have hr8 := (HR7.out.below hb8 hrs).far (a := ⟨g, 3, none⟩) (.slice a8 (flipSo m x).length cap8) (by simp; omega)
      have hg8' := HG7.out.below hb8 hgs
      obtain ⟨v0, v1, v2, v3, v4, u0, u1, u2, u3, u4⟩ := hg8'
      have hsc0 : (M.sl a8 cap8 1 3 (intM (flipSo m x))).Free (w.heap.size + 1 + 1) w8.heap.size g (w8.setCell ⟨g, 3, none⟩ (.slice a8 (flipSo m x).length cap8)) :=
        ⟨by (exact M.Mine.mono (M.Mine.keep hm8 (fun b hb1 hb2 => by (try simp at hb1); simp (disch := (first | omega | (simp; omega))) only [heapSet, heapNew, heapDrew, heapDrewN])) (by first | omega | (simp; done) | (simp; omega))), fun b hb => by have := hm8.lt b hb; omega, by simp⟩
      have hz8 : wc.heap.size ≤ w8.heap.size := by omega
      have hbb8 : Below w.heap.size w (w8.setCell ⟨g, 3, none⟩ (.slice a8 (flipSo m x).length cap8)) := by (repeat (first | with_reducible assumption | with_reducible exact Below.refl _ _ | with_reducible refine Below.drew ?_ | with_reducible refine belowDrewN ?_ _ | ((with_reducible refine Below.setCell ?_ ?_ _); rotate_left; focus (first | omega | (simp; done) | (simp; omega))) | ((with_reducible refine Below.alloc ?_ ?_ _); rotate_left; focus (first | omega | (simp; done) | (simp; omega))) | ((with_reducible refine Below.trans ?_ (Below.mono hb7 ?_)); rotate_left; focus (first | omega | (simp; done) | (simp; omega))) | ((with_reducible refine Below.trans ?_ (Below.mono hb8 ?_)); rotate_left; focus (first | omega | (simp; done) | (simp; omega)))))
      clear hm8
      have HSC0 := Lib.hid hsc0; clear hsc0; have HG8 := Lib.hid hg8; clear hg8; have HR8 := Lib.hid hr8; clear hr8
      clear hc8 hf8
      have c4 : w8.cell? ⟨w.heap.size, 4, none⟩ = some (.slice a ms.length cap) := (hb8.cell (p := ⟨w.heap.size, 4, none⟩) (by show w.heap.size < wc.heap.size; omega)).trans z4
      go_wp2_with fail
      go_loopw [29] (fun i wr => ∃ (j : Nat) (a' : Option Addr) (cap' : Nat) (ms' : List M), j ≤ ms.length ∧ i = .int .i64 j ∧ ms'.length = j ∧ Syn.IsL 27 (mapSynL (flipSo m) (ds.take j)) ms' ∧ (M.sl a' cap' 5 27 ms').Mine wr (w8.heap.size) ∧
          SBox (g) 1 n s (.slice a8 (flipSo m x).length cap8) (.slice a' ms'.length cap') wr ∧ SBox (w.heap.size + 1) 0 0 ⟨#[]⟩ (.slice none 0 0) (.slice none 0 0) wr ∧ (M.sl a8 cap8 1 3 (intM (flipSo m x))).Free (w.heap.size + 1 + 1) w8.heap.size g wr ∧ Below w.heap.size w wr ∧ w8.heap.size ≤ wr.heap.size) (fun i _ => ms.length - (intOf i).toNat)
      case atStart => exact ⟨0, none, 0, [], Nat.zero_le _, rfl, rfl, by simp [mapSynL, Syn.IsL], M.Mine.nil _ _ _ _ (by decide), HG8.out, HR8.out, HSC0.out, hbb8, by simp⟩
      case round =>
        obtain ⟨j, a', cap', ms', hj, rfl, hj', hi', hm', hq, hr, hsc, hb, hsz⟩ := hrel
        obtain ⟨q0, q1, q2, q3, q4, e0, e1, e2, e3, e4⟩ := hq
        obtain ⟨r0, r1, r2, r3, r4, g0, g1, g2, g3, g4⟩ := hr
        have hq : SBox (g) 1 n s (.slice a8 (flipSo m x).length cap8) (.slice a' ms'.length cap') wr := ⟨q0, q1, q2, q3, q4, e0, e1, e2, e3, e4⟩
        have hr : SBox (w.heap.size + 1) 0 0 ⟨#[]⟩ (.slice none 0 0) (.slice none 0 0) wr := ⟨r0, r1, r2, r3, r4, g0, g1, g2, g3, g4⟩
        have p3 := hq.lt
        have p2 := hr.lt
        by_cases hlt : j < ms.length
        · obtain ⟨b, off, k1, n1, s1, x1, ds1, xa1, xc1, a1, cap1, ms1, rfl, hd, hi1, hx1, hin1, c0, c1, c2, c3, c4⟩ := Syn.elem (HIN.out.below hb) HI.out j hlt
          obtain ⟨ht, hle⟩ := Syn.countL_le ds j _ hd
          simp only [Syn.count] at hle
          clear ht
          have hwt1 := Syn.wt_le hd
          simp only [Syn.wt] at hwt1
          have hclr : wr.cell? ⟨nb, 0, none⟩ = some (.int .i64 m) := (hb.cell (p := ⟨nb, 0, none⟩) hnb).trans HCL.out
          have hnbr : nb < wr.heap.size := by have := hb.size; omega
          have HD := Lib.hid hd; clear hd; have HI1 := Lib.hid hi1; clear hi1; have HX1 := Lib.hid hx1; clear hx1; have HIN1 := Lib.hid hin1; clear hin1; have HJ' := Lib.hid hj'; clear hj'; have HI' := Lib.hid hi'; clear hi'; have HM' := Lib.hid hm'; clear hm'; have HSC := Lib.hid hsc; clear hsc
          have HQ := Lib.hid hq; clear hq
          have HR := Lib.hid hr; clear hr
          go_wp2_with fail
          go_region_law (first
            | (go_simp; go_at_call 60; refine (IH.out k1 n1 s1 x1 ds1 (List.mem_of_getElem? HD.out) k1 n1 s1 x1 xa1 xc1 a1 cap1 ms1 nb m _ (by omega) HI1.out (HX1.out.below (by (repeat (first | with_reducible assumption | with_reducible exact Below.refl _ _ | with_reducible refine Below.drew ?_ | with_reducible refine belowDrewN ?_ _ | ((with_reducible refine Below.setCell ?_ ?_ _); rotate_left; focus (first | omega | (simp; done) | (simp; omega))) | ((with_reducible refine Below.alloc ?_ ?_ _); rotate_left; focus (first | omega | (simp; done) | (simp; omega))))))) (HIN1.out.below (by (repeat (first | with_reducible assumption | with_reducible exact Below.refl _ _ | with_reducible refine Below.drew ?_ | with_reducible refine belowDrewN ?_ _ | ((with_reducible refine Below.setCell ?_ ?_ _); rotate_left; focus (first | omega | (simp; done) | (simp; omega))) | ((with_reducible refine Below.alloc ?_ ?_ _); rotate_left; focus (first | omega | (simp; done) | (simp; omega))))))) (by simp (disch := omega) [hclr, go_sem]) ).mono ?_; rintro e w1 ⟨xa2, xc2, a2, cap2, ms2, rfl, hi2, hm2, hb2⟩; obtain ⟨hc2, hf2⟩ := bcell hb2; have hz2 := hb2.size; (try simp only [World.size_alloc, World.size_setCell, World.size_drew, sizeDrewN] at hz2 hc2 hf2); have q3c : w1.cell? ⟨g, 4, none⟩ = some (.slice a' ms'.length cap') := (by simp (disch := omega) [hc2, q4, go_sem]); have p3c : g < w1.heap.size := (by omega); (try simp only [Syn.k_mk, Syn.n_mk, Syn.s_mk, Syn.x_mk, Syn.ds_mk, List.length_nil]))
            | (refine step_push (wr := wr) rfl _ _ 25 rfl 27 _ 5 80 Try.underlying25 infoSyn rfl (by decide) (w8.heap.size) a' cap' ms' rfl HM'.out hsz (by (repeat (first | with_reducible assumption | with_reducible exact Below.refl _ _ | with_reducible refine Below.drew ?_ | with_reducible refine belowDrewN ?_ _ | ((with_reducible refine Below.setCell ?_ ?_ _); rotate_left; focus (first | omega | (simp; done) | (simp; omega))) | ((with_reducible refine Below.alloc ?_ ?_ _); rotate_left; focus (first | omega | (simp; done) | (simp; omega))) | ((with_reducible refine Below.trans ?_ (Below.mono hb2 ?_)); rotate_left; focus (first | omega | (simp; done) | (simp; omega)))))) _ (.ag [.c (.int .i64 k1), .c (.int .i64 n1), .c (.string s1), .sl xa2 xc2 1 3 (intM (mapX (flipSo m) k1 x1)), .sl a2 cap2 5 27 ms2]) (by simp [M.cells, M.cellsL, intM_length]) rfl _ (SynOwn_el hm2 k1 n1 s1) (by simp) rfl (by have := HJ'.out; unfold maxLen; omega) (by have := HJ'.out; have := HL.out; omega) ?_; intro a3 cap3 w3 hm3 hb3 hz3 hfr3; have q3' : w3.cell? ⟨g, 4, none⟩ = some (.slice a' ms'.length cap') := (by rw [hb3.cell (by first | (simp; done) | (simp; omega))]; simp (disch := omega) [hc2, q4, go_sem]); have qf' : w3.frozen? ⟨g, 4, none⟩ = false := (by rw [hb3.frozen (by first | (simp; done) | (simp; omega))]; simp (disch := omega) [hf2, e4, go_sem])))
          all_goals
            have hbA : Below wr.heap.size wr w1 := by (repeat (first | with_reducible assumption | with_reducible exact Below.refl _ _ | with_reducible refine Below.drew ?_ | with_reducible refine belowDrewN ?_ _ | ((with_reducible refine Below.setCell ?_ ?_ _); rotate_left; focus (first | omega | (simp; done) | (simp; omega))) | ((with_reducible refine Below.alloc ?_ ?_ _); rotate_left; focus (first | omega | (simp; done) | (simp; omega))) | ((with_reducible refine Below.trans ?_ (Below.mono hb2 ?_)); rotate_left; focus (first | omega | (simp; done) | (simp; omega)))))
            have hq3 := (HQ.out.below hbA p3).below hb3 (by omega)
            have hr3 := (HR.out.below hbA p2).below hb3 (by omega)
            (try simp only [Syn.k_mk, Syn.n_mk, Syn.s_mk, Syn.x_mk, Syn.ds_mk] at hi2)
            have hfin : Syn.IsL 27 (mapSynL (flipSo m) (ds.take (j + 1))) (ms' ++ [.ag [.c (.int .i64 k1), .c (.int .i64 n1), .c (.string s1), .sl xa2 xc2 1 3 (intM (mapX (flipSo m) k1 x1)), .sl a2 cap2 5 27 ms2]]) := by
              rw [mapSynL_take HD.out]; exact HI'.out.snoc ⟨_, _, _, _, _, rfl, hi2⟩
            have hjj := HJ'.out
            have HFIN := Lib.hid hfin; clear hfin; have HM3 := Lib.hid hm3; clear hm3; have HI2 := Lib.hid hi2; clear hi2; have HM2 := Lib.hid hm2; clear hm2; have HQ3 := Lib.hid hq3; clear hq3; have HR3 := Lib.hid hr3; clear hr3; have HBA := Lib.hid hbA; clear hbA
            go_wp2_with fail
            go_roundw
            case rel =>
              refine ⟨j + 1, a3, cap3, ms' ++ [.ag [.c (.int .i64 k1), .c (.int .i64 n1), .c (.string s1), .sl xa2 xc2 1 3 (intM (mapX (flipSo m) k1 x1)), .sl a2 cap2 5 27 ms2]], by omega, by go_num, by simp [hjj], HFIN.out, ?_, ?_, ?_, ?_, ?_, ?_⟩
              · exact M.Mine.keep HM3.out (fun b hb1 hb2 => by simp (disch := (first | omega | (simp; omega))) only [heapSet])
              · have := HQ3.out.set4 (.slice a3 (ms'.length + 1) cap3); simpa [hjj] using this
              · exact HR3.out.far _ (by first | (simp; done) | (simp; omega))
              · exact HSC.out.keep (by simp; omega) (fun b hb1 hb2 hb4 => by rw [heapSet _ _ _ _ (by simpa using hb4), hb3.block b (by omega), HBA.out.block b (by omega)])
              · (repeat (first | with_reducible assumption | with_reducible exact Below.refl _ _ | with_reducible refine Below.drew ?_ | with_reducible refine belowDrewN ?_ _ | ((with_reducible refine Below.setCell ?_ ?_ _); rotate_left; focus (first | omega | (simp; done) | (simp; omega))) | ((with_reducible refine Below.alloc ?_ ?_ _); rotate_left; focus (first | omega | (simp; done) | (simp; omega))) | ((with_reducible refine Below.trans ?_ (Below.mono hb2 ?_)); rotate_left; focus (first | omega | (simp; done) | (simp; omega))) | ((with_reducible refine Below.trans ?_ (Below.mono hb3 ?_)); rotate_left; focus (first | omega | (simp; done) | (simp; omega)))))
              · simp; omega
            case measure => simp [intOf]; omega
        · have HJ' := Lib.hid hj'; clear hj'; have HSC := Lib.hid hsc; clear hsc
          have HQ := Lib.hid hq; clear hq
          have HR := Lib.hid hr; clear hr
          go_wp2_with fail
          refine bodyPost_ret (v := .agg #[.int .i64 1, .int .i64 n, .string s, .slice a8 (flipSo m x).length cap8, .slice a' ms'.length cap']) (by simp [results, Try.results60, go_sem, q0, q1, q2, q3, q4, r0, r1, r2, r3, r4, HJ'.out]) rfl ?_
          rw [HMX.out]
          have hk2 : j = ms.length := by omega
          subst hk2
          refine ⟨a8, cap8, a', cap', ms', rfl, ?_, ?_, ?_⟩
          · rw [HL.out, List.take_length] at hi'
            exact hi'
          · exact SynOwn_two (c := w8.heap.size) (by (exact M.Mine.mono (M.Mine.keep HSC.out.mine (fun b hb1 hb2 => by (try simp at hb1); simp (disch := (first | omega | (simp; omega))) only [heapSet, heapNew, heapDrew, heapDrewN])) (by first | omega | (simp; done) | (simp; omega)))) (by (exact M.Mine.mono (M.Mine.keep hm' (fun b hb1 hb2 => by (try simp at hb1); simp (disch := (first | omega | (simp; omega))) only [heapSet, heapNew, heapDrew, heapDrewN])) (by first | omega | (simp; done) | (simp; omega)))) (by omega) (fun b hb => by have := HSC.out.lt b hb; omega)
          · (repeat (first | with_reducible assumption | with_reducible exact Below.refl _ _ | with_reducible refine Below.drew ?_ | with_reducible refine belowDrewN ?_ _ | ((with_reducible refine Below.setCell ?_ ?_ _); rotate_left; focus (first | omega | (simp; done) | (simp; omega))) | ((with_reducible refine Below.alloc ?_ ?_ _); rotate_left; focus (first | omega | (simp; done) | (simp; omega))) | ((with_reducible refine Below.trans ?_ (Below.mono hb ?_)); rotate_left; focus (first | omega | (simp; done) | (simp; omega)))))
    · have hkb : (k == 1) = false := by simp [hk]
      have hmx : mapX (flipSo m) k x = x := mapX_other hk _ _
      have HK := Lib.hid hk; clear hk; have HMX := Lib.hid hmx; clear hmx
      go_wp2_with fail
      go_loopw [29] (fun i wr => ∃ (j : Nat) (a' : Option Addr) (cap' : Nat) (ms' : List M), j ≤ ms.length ∧ i = .int .i64 j ∧ ms'.length = j ∧ Syn.IsL 27 (mapSynL (flipSo m) (ds.take j)) ms' ∧ (M.sl a' cap' 5 27 ms').Mine wr (wc.heap.size) ∧
          SBox (g) k n s (.slice a7 x.length cap7) (.slice a' ms'.length cap') wr ∧ SBox (w.heap.size + 1) 0 0 ⟨#[]⟩ (.slice none 0 0) (.slice none 0 0) wr ∧ (M.sl a7 cap7 1 3 (intM x)).Free (w.heap.size + 1 + 1) wc.heap.size g wr ∧ Below w.heap.size w wr ∧ wc.heap.size ≤ wr.heap.size) (fun i _ => ms.length - (intOf i).toNat)
      case atStart => exact ⟨0, none, 0, [], Nat.zero_le _, rfl, rfl, by simp [mapSynL, Syn.IsL], M.Mine.nil _ _ _ _ (by decide), HG7.out, HR7.out, HM7.out, hb7, Nat.le_refl _⟩
      case round =>
        obtain ⟨j, a', cap', ms', hj, rfl, hj', hi', hm', hq, hr, hsc, hb, hsz⟩ := hrel
        obtain ⟨q0, q1, q2, q3, q4, e0, e1, e2, e3, e4⟩ := hq
        obtain ⟨r0, r1, r2, r3, r4, g0, g1, g2, g3, g4⟩ := hr
        have hq : SBox (g) k n s (.slice a7 x.length cap7) (.slice a' ms'.length cap') wr := ⟨q0, q1, q2, q3, q4, e0, e1, e2, e3, e4⟩
        have hr : SBox (w.heap.size + 1) 0 0 ⟨#[]⟩ (.slice none 0 0) (.slice none 0 0) wr := ⟨r0, r1, r2, r3, r4, g0, g1, g2, g3, g4⟩
        have p3 := hq.lt
        have p2 := hr.lt
        by_cases hlt : j < ms.length
        · obtain ⟨b, off, k1, n1, s1, x1, ds1, xa1, xc1, a1, cap1, ms1, rfl, hd, hi1, hx1, hin1, c0, c1, c2, c3, c4⟩ := Syn.elem (HIN.out.below hb) HI.out j hlt
          obtain ⟨ht, hle⟩ := Syn.countL_le ds j _ hd
          simp only [Syn.count] at hle
          clear ht
          have hwt1 := Syn.wt_le hd
          simp only [Syn.wt] at hwt1
          have hclr : wr.cell? ⟨nb, 0, none⟩ = some (.int .i64 m) := (hb.cell (p := ⟨nb, 0, none⟩) hnb).trans HCL.out
          have hnbr : nb < wr.heap.size := by have := hb.size; omega
          have HD := Lib.hid hd; clear hd; have HI1 := Lib.hid hi1; clear hi1; have HX1 := Lib.hid hx1; clear hx1; have HIN1 := Lib.hid hin1; clear hin1; have HJ' := Lib.hid hj'; clear hj'; have HI' := Lib.hid hi'; clear hi'; have HM' := Lib.hid hm'; clear hm'; have HSC := Lib.hid hsc; clear hsc
          have HQ := Lib.hid hq; clear hq
          have HR := Lib.hid hr; clear hr
          go_wp2_with fail
          go_region_law (first
            | (go_simp; go_at_call 60; refine (IH.out k1 n1 s1 x1 ds1 (List.mem_of_getElem? HD.out) k1 n1 s1 x1 xa1 xc1 a1 cap1 ms1 nb m _ (by omega) HI1.out (HX1.out.below (by (repeat (first | with_reducible assumption | with_reducible exact Below.refl _ _ | with_reducible refine Below.drew ?_ | with_reducible refine belowDrewN ?_ _ | ((with_reducible refine Below.setCell ?_ ?_ _); rotate_left; focus (first | omega | (simp; done) | (simp; omega))) | ((with_reducible refine Below.alloc ?_ ?_ _); rotate_left; focus (first | omega | (simp; done) | (simp; omega))))))) (HIN1.out.below (by (repeat (first | with_reducible assumption | with_reducible exact Below.refl _ _ | with_reducible refine Below.drew ?_ | with_reducible refine belowDrewN ?_ _ | ((with_reducible refine Below.setCell ?_ ?_ _); rotate_left; focus (first | omega | (simp; done) | (simp; omega))) | ((with_reducible refine Below.alloc ?_ ?_ _); rotate_left; focus (first | omega | (simp; done) | (simp; omega))))))) (by simp (disch := omega) [hclr, go_sem]) ).mono ?_; rintro e w1 ⟨xa2, xc2, a2, cap2, ms2, rfl, hi2, hm2, hb2⟩; obtain ⟨hc2, hf2⟩ := bcell hb2; have hz2 := hb2.size; (try simp only [World.size_alloc, World.size_setCell, World.size_drew, sizeDrewN] at hz2 hc2 hf2); have q3c : w1.cell? ⟨g, 4, none⟩ = some (.slice a' ms'.length cap') := (by simp (disch := omega) [hc2, q4, go_sem]); have p3c : g < w1.heap.size := (by omega); (try simp only [Syn.k_mk, Syn.n_mk, Syn.s_mk, Syn.x_mk, Syn.ds_mk, List.length_nil]))
            | (refine step_push (wr := wr) rfl _ _ 25 rfl 27 _ 5 80 Try.underlying25 infoSyn rfl (by decide) (wc.heap.size) a' cap' ms' rfl HM'.out hsz (by (repeat (first | with_reducible assumption | with_reducible exact Below.refl _ _ | with_reducible refine Below.drew ?_ | with_reducible refine belowDrewN ?_ _ | ((with_reducible refine Below.setCell ?_ ?_ _); rotate_left; focus (first | omega | (simp; done) | (simp; omega))) | ((with_reducible refine Below.alloc ?_ ?_ _); rotate_left; focus (first | omega | (simp; done) | (simp; omega))) | ((with_reducible refine Below.trans ?_ (Below.mono hb2 ?_)); rotate_left; focus (first | omega | (simp; done) | (simp; omega)))))) _ (.ag [.c (.int .i64 k1), .c (.int .i64 n1), .c (.string s1), .sl xa2 xc2 1 3 (intM (mapX (flipSo m) k1 x1)), .sl a2 cap2 5 27 ms2]) (by simp [M.cells, M.cellsL, intM_length]) rfl _ (SynOwn_el hm2 k1 n1 s1) (by simp) rfl (by have := HJ'.out; unfold maxLen; omega) (by have := HJ'.out; have := HL.out; omega) ?_; intro a3 cap3 w3 hm3 hb3 hz3 hfr3; have q3' : w3.cell? ⟨g, 4, none⟩ = some (.slice a' ms'.length cap') := (by rw [hb3.cell (by first | (simp; done) | (simp; omega))]; simp (disch := omega) [hc2, q4, go_sem]); have qf' : w3.frozen? ⟨g, 4, none⟩ = false := (by rw [hb3.frozen (by first | (simp; done) | (simp; omega))]; simp (disch := omega) [hf2, e4, go_sem])))
          all_goals
            have hbA : Below wr.heap.size wr w1 := by (repeat (first | with_reducible assumption | with_reducible exact Below.refl _ _ | with_reducible refine Below.drew ?_ | with_reducible refine belowDrewN ?_ _ | ((with_reducible refine Below.setCell ?_ ?_ _); rotate_left; focus (first | omega | (simp; done) | (simp; omega))) | ((with_reducible refine Below.alloc ?_ ?_ _); rotate_left; focus (first | omega | (simp; done) | (simp; omega))) | ((with_reducible refine Below.trans ?_ (Below.mono hb2 ?_)); rotate_left; focus (first | omega | (simp; done) | (simp; omega)))))
            have hq3 := (HQ.out.below hbA p3).below hb3 (by omega)
            have hr3 := (HR.out.below hbA p2).below hb3 (by omega)
            (try simp only [Syn.k_mk, Syn.n_mk, Syn.s_mk, Syn.x_mk, Syn.ds_mk] at hi2)
            have hfin : Syn.IsL 27 (mapSynL (flipSo m) (ds.take (j + 1))) (ms' ++ [.ag [.c (.int .i64 k1), .c (.int .i64 n1), .c (.string s1), .sl xa2 xc2 1 3 (intM (mapX (flipSo m) k1 x1)), .sl a2 cap2 5 27 ms2]]) := by
              rw [mapSynL_take HD.out]; exact HI'.out.snoc ⟨_, _, _, _, _, rfl, hi2⟩
            have hjj := HJ'.out
            have HFIN := Lib.hid hfin; clear hfin; have HM3 := Lib.hid hm3; clear hm3; have HI2 := Lib.hid hi2; clear hi2; have HM2 := Lib.hid hm2; clear hm2; have HQ3 := Lib.hid hq3; clear hq3; have HR3 := Lib.hid hr3; clear hr3; have HBA := Lib.hid hbA; clear hbA
            go_wp2_with fail
            go_roundw
            case rel =>
              refine ⟨j + 1, a3, cap3, ms' ++ [.ag [.c (.int .i64 k1), .c (.int .i64 n1), .c (.string s1), .sl xa2 xc2 1 3 (intM (mapX (flipSo m) k1 x1)), .sl a2 cap2 5 27 ms2]], by omega, by go_num, by simp [hjj], HFIN.out, ?_, ?_, ?_, ?_, ?_, ?_⟩
              · exact M.Mine.keep HM3.out (fun b hb1 hb2 => by simp (disch := (first | omega | (simp; omega))) only [heapSet])
              · have := HQ3.out.set4 (.slice a3 (ms'.length + 1) cap3); simpa [hjj] using this
              · exact HR3.out.far _ (by first | (simp; done) | (simp; omega))
              · exact HSC.out.keep (by simp; omega) (fun b hb1 hb2 hb4 => by rw [heapSet _ _ _ _ (by simpa using hb4), hb3.block b (by omega), HBA.out.block b (by omega)])
              · (repeat (first | with_reducible assumption | with_reducible exact Below.refl _ _ | with_reducible refine Below.drew ?_ | with_reducible refine belowDrewN ?_ _ | ((with_reducible refine Below.setCell ?_ ?_ _); rotate_left; focus (first | omega | (simp; done) | (simp; omega))) | ((with_reducible refine Below.alloc ?_ ?_ _); rotate_left; focus (first | omega | (simp; done) | (simp; omega))) | ((with_reducible refine Below.trans ?_ (Below.mono hb2 ?_)); rotate_left; focus (first | omega | (simp; done) | (simp; omega))) | ((with_reducible refine Below.trans ?_ (Below.mono hb3 ?_)); rotate_left; focus (first | omega | (simp; done) | (simp; omega)))))
              · simp; omega
            case measure => simp [intOf]; omega
        · have HJ' := Lib.hid hj'; clear hj'; have HSC := Lib.hid hsc; clear hsc
          have HQ := Lib.hid hq; clear hq
          have HR := Lib.hid hr; clear hr
          go_wp2_with fail
          refine bodyPost_ret (v := .agg #[.int .i64 k, .int .i64 n, .string s, .slice a7 x.length cap7, .slice a' ms'.length cap']) (by simp [results, Try.results60, go_sem, q0, q1, q2, q3, q4, r0, r1, r2, r3, r4, HJ'.out]) rfl ?_
          rw [HMX.out]
          have hk2 : j = ms.length := by omega
          subst hk2
          refine ⟨a7, cap7, a', cap', ms', rfl, ?_, ?_, ?_⟩
          · rw [HL.out, List.take_length] at hi'
            exact hi'
          · exact SynOwn_two (c := wc.heap.size) (by (exact M.Mine.mono (M.Mine.keep HSC.out.mine (fun b hb1 hb2 => by (try simp at hb1); simp (disch := (first | omega | (simp; omega))) only [heapSet, heapNew, heapDrew, heapDrewN])) (by first | omega | (simp; done) | (simp; omega)))) (by (exact M.Mine.mono (M.Mine.keep hm' (fun b hb1 hb2 => by (try simp at hb1); simp (disch := (first | omega | (simp; omega))) only [heapSet, heapNew, heapDrew, heapDrewN])) (by first | omega | (simp; done) | (simp; omega)))) (by omega) (fun b hb => by have := HSC.out.lt b hb; omega)
          · (repeat (first | with_reducible assumption | with_reducible exact Below.refl _ _ | with_reducible refine Below.drew ?_ | with_reducible refine belowDrewN ?_ _ | ((with_reducible refine Below.setCell ?_ ?_ _); rotate_left; focus (first | omega | (simp; done) | (simp; omega))) | ((with_reducible refine Below.alloc ?_ ?_ _); rotate_left; focus (first | omega | (simp; done) | (simp; omega))) | ((with_reducible refine Below.trans ?_ (Below.mono hb ?_)); rotate_left; focus (first | omega | (simp; done) | (simp; omega)))))
end Go.Proofs.Ytghbnehocggnnaa

/-
  Walks: scopes mapped (Strip). No condition. (printed by wip/tools/mkms.py)
-/
set_option linter.unusedVariables false
set_option linter.unusedSimpArgs false
set_option maxRecDepth 100000
namespace Go.Proofs.Ytghbnehocggnnaa
open Go.RowKit

def iMStripSs (ds : List Syn) : Prop := ∀ (k n : Int) (s : ByteArray) (x : List Int) (xa : Option Addr) (xc : Nat) (a : Option Addr) (cap : Nat) (ms : List M) (w : World), s.size + (x.length + (ds.length + Syn.wtX ds)) ≤ 2000000 → Syn.IsL 27 ds ms → (M.sl xa xc 1 3 (intM x)).In w → (M.sl a cap 5 27 ms).In w → 
    Calls Try.prog 60 #[.agg #[.int .i64 k, .int .i64 n, .string s, .slice xa x.length xc, .slice a ms.length cap], .func (.func 61) #[] #[]] w (RetSyn 27 (.mk k n s (mapX (woUse) k x) (mapSynL (woUse) ds)) w)
set_option maxHeartbeats 4000000 in
theorem iMapStrip_calls : ∀ ds, iMStripSs ds := by
  refine Syn.inductL fun ds ih => ?_
  intro k n s x xa xc a cap ms w hB hi hx hin
  have hl := hi.length
  have hcap := hin.len
  have hxl := Ints.len hx
  have IH := Lib.hid ih; clear ih; have HIN := Lib.hid hin; clear hin; have HX := Lib.hid hx; clear hx; have HI := Lib.hid hi; clear hi; have HL := Lib.hid hl; clear hl
  go_enter Try.func60, Try.ntmps60
  go_upto_region 1 with (fail)
  go_cut [5] (fun s5 wx => ∃ (g : Nat) (a7 : Option Addr) (cap7 : Nat), s5 = .pointer (some ⟨g, 0, none⟩) ∧ SBox g k n s (.slice a7 x.length cap7) (.slice none 0 0) wx ∧ SBox (w.heap.size + 1) 0 0 ⟨#[]⟩ (.slice none 0 0) (.slice none 0 0) wx ∧ SBox w.heap.size k n s (.slice xa x.length xc) (.slice a ms.length cap) wx ∧
      (M.sl a7 cap7 1 3 (intM x)).Free (w.heap.size + 1 + 1) wx.heap.size g wx ∧ w.heap.size + 1 < g ∧ Below w.heap.size w wx)
  case first =>
    have hs0 : (((w.alloc (.cells #[.int .i64 k, .int .i64 n, .string s, .slice xa x.length xc, .slice a ms.length cap] 27)).alloc (.cells #[.int .i64 0, .int .i64 0, .string ⟨#[]⟩, .slice none 0 0, .slice none 0 0] 27)).cell? ⟨w.heap.size, 0, none⟩ = some (.int .i64 k) ∧ ((w.alloc (.cells #[.int .i64 k, .int .i64 n, .string s, .slice xa x.length xc, .slice a ms.length cap] 27)).alloc (.cells #[.int .i64 0, .int .i64 0, .string ⟨#[]⟩, .slice none 0 0, .slice none 0 0] 27)).cell? ⟨w.heap.size, 1, none⟩ = some (.int .i64 n) ∧ ((w.alloc (.cells #[.int .i64 k, .int .i64 n, .string s, .slice xa x.length xc, .slice a ms.length cap] 27)).alloc (.cells #[.int .i64 0, .int .i64 0, .string ⟨#[]⟩, .slice none 0 0, .slice none 0 0] 27)).cell? ⟨w.heap.size, 2, none⟩ = some (.string s) ∧ ((w.alloc (.cells #[.int .i64 k, .int .i64 n, .string s, .slice xa x.length xc, .slice a ms.length cap] 27)).alloc (.cells #[.int .i64 0, .int .i64 0, .string ⟨#[]⟩, .slice none 0 0, .slice none 0 0] 27)).cell? ⟨w.heap.size, 3, none⟩ = some (.slice xa x.length xc)) := by refine ⟨?_, ?_, ?_, ?_⟩ <;> first | (simp [go_sem]; done) | (simp [go_sem]; rfl)
    have hq0 : SBox w.heap.size k n s (.slice xa x.length xc) (.slice a ms.length cap) ((w.alloc (.cells #[.int .i64 k, .int .i64 n, .string s, .slice xa x.length xc, .slice a ms.length cap] 27)).alloc (.cells #[.int .i64 0, .int .i64 0, .string ⟨#[]⟩, .slice none 0 0, .slice none 0 0] 27)) := by constructor <;> first | (simp [go_sem]; done) | (simp [go_sem]; rfl)
    have hr0 : SBox (w.heap.size + 1) 0 0 ⟨#[]⟩ (.slice none 0 0) (.slice none 0 0) ((w.alloc (.cells #[.int .i64 k, .int .i64 n, .string s, .slice xa x.length xc, .slice a ms.length cap] 27)).alloc (.cells #[.int .i64 0, .int .i64 0, .string ⟨#[]⟩, .slice none 0 0, .slice none 0 0] 27)) := by constructor <;> first | (simp [go_sem]; done) | (simp [go_sem]; rfl)
    have hz0 : SBox (w.heap.size + 1 + 1) 0 0 ⟨#[]⟩ (.slice none 0 0) (.slice none 0 0) (((w.alloc (.cells #[.int .i64 k, .int .i64 n, .string s, .slice xa x.length xc, .slice a ms.length cap] 27)).alloc (.cells #[.int .i64 0, .int .i64 0, .string ⟨#[]⟩, .slice none 0 0, .slice none 0 0] 27)).alloc (.cells #[.int .i64 0, .int .i64 0, .string ⟨#[]⟩, .slice none 0 0, .slice none 0 0] 27)) := by constructor <;> first | (simp [go_sem]; done) | (simp [go_sem]; rfl)
    go_region_held3 (fun w' => w'.cell? ⟨w.heap.size, 0, none⟩ = some (.int .i64 k) ∧ w'.cell? ⟨w.heap.size, 1, none⟩ = some (.int .i64 n) ∧ w'.cell? ⟨w.heap.size, 2, none⟩ = some (.string s) ∧ w'.cell? ⟨w.heap.size, 3, none⟩ = some (.slice xa x.length xc))
      (first | (with_reducible exact hs0) | (with_reducible exact hs7) | (with_reducible exact ⟨cellNew hs0.1, cellNew hs0.2.1, cellNew hs0.2.2.1, cellNew hs0.2.2.2⟩) | (with_reducible exact ⟨cellNew hs7.1, cellNew hs7.2.1, cellNew hs7.2.2.1, cellNew hs7.2.2.2⟩) | (simp only [World.cell?_drew]; first | (with_reducible exact hs0) | (with_reducible exact hs7) | (with_reducible exact ⟨cellNew hs0.1, cellNew hs0.2.1, cellNew hs0.2.2.1, cellNew hs0.2.2.2⟩) | (with_reducible exact ⟨cellNew hs7.1, cellNew hs7.2.1, cellNew hs7.2.2.1, cellNew hs7.2.2.2⟩)) | (with_reducible exact ⟨far5 (by omega) hs7.1, far5 (by omega) hs7.2.1, far5 (by omega) hs7.2.2.1, far5 (by omega) hs7.2.2.2⟩) | (simp (disch := omega) only [hs7, and_self, go_sem, World.cell?_drew]; done) | (simp (disch := omega) [hs7, go_sem]; done))
      (first | (go_at_call 85; refine (icopyInts_calls xa xc x _ (HX.out.below (by (repeat (first | with_reducible assumption | with_reducible exact Below.refl _ _ | with_reducible refine Below.drew ?_ | with_reducible refine belowDrewN ?_ _ | ((with_reducible refine Below.setCell ?_ ?_ _); rotate_left; focus (first | omega | (simp; done) | (simp; omega))) | ((with_reducible refine Below.alloc ?_ ?_ _); rotate_left; focus (first | omega | (simp; done) | (simp; omega))))))) (by omega)).mono ?_; rintro e w7 ⟨a7, cap7, rfl, hm7, hb7⟩; obtain ⟨hc7, hf7⟩ := bcell hb7; have hz7 := hb7.size; (try simp only [World.size_alloc, World.size_setCell, World.size_drew, sizeDrewN] at hz7 hc7 hf7); have hp7_0 : w.heap.size < w7.heap.size := (by omega); have hp7_1 : w.heap.size + 1 < w7.heap.size := (by omega); have hs7 : (w7.cell? ⟨w.heap.size, 0, none⟩ = some (.int .i64 k) ∧ w7.cell? ⟨w.heap.size, 1, none⟩ = some (.int .i64 n) ∧ w7.cell? ⟨w.heap.size, 2, none⟩ = some (.string s) ∧ w7.cell? ⟨w.heap.size, 3, none⟩ = some (.slice xa x.length xc)) := (by (try simp only [World.cell?_drew] at hc7); first | (with_reducible exact ⟨(hc7 _ _ (by omega)).trans hs0.1, (hc7 _ _ (by omega)).trans hs0.2.1, (hc7 _ _ (by omega)).trans hs0.2.2.1, (hc7 _ _ (by omega)).trans hs0.2.2.2⟩) | (with_reducible exact ⟨(hc7 _ _ (by omega)).trans (cellNew hs0.1), (hc7 _ _ (by omega)).trans (cellNew hs0.2.1), (hc7 _ _ (by omega)).trans (cellNew hs0.2.2.1), (hc7 _ _ (by omega)).trans (cellNew hs0.2.2.2)⟩))))
    all_goals
      go_wp2_with fail
      have e0 : ∀ b, b < w.heap.size + 1 + 1 → w7.heap[b]? = ((w.alloc (.cells #[.int .i64 k, .int .i64 n, .string s, .slice xa x.length xc, .slice a ms.length cap] 27)).alloc (.cells #[.int .i64 0, .int .i64 0, .string ⟨#[]⟩, .slice none 0 0, .slice none 0 0] 27)).heap[b]? := fun b h => (hb7.block b (by simp; omega)).trans (by first | rfl | exact heapNew _ _ _ (by simp; omega))
      go_meet
      refine ⟨_, a7, cap7, rfl, ?_, ?_, ?_, ⟨?_, fun b hb => ?_, Nat.le_refl _⟩, ?_, ?_⟩
      · first
          | (with_reducible exact SBox.new _ _ _ _ _ _)
          | exact (hz0.of (w' := w7) (hb7.block _ (by simp))).set5 _ _ _ _ _
      · refine SBox.of (w := w7) (hr0.of (e0 _ (by omega))) ?_
        simp (disch := (first | omega | (simp; done) | (simp; omega))) only [heapSet, heapNew, heapDrew, heapDrewN]
      · refine SBox.of (w := w7) (hq0.of (e0 _ (by omega))) ?_
        simp (disch := (first | omega | (simp; done) | (simp; omega))) only [heapSet, heapNew, heapDrew, heapDrewN]
      · (exact M.Mine.mono (M.Mine.keep hm7 (fun b hb1 hb2 => by (try simp at hb1); simp (disch := (first | omega | (simp; omega))) only [heapSet, heapNew, heapDrew, heapDrewN])) (by first | omega | (simp; done) | (simp; omega)))
      · have := hm7.lt b hb; simp at this ⊢; omega
      · first | omega | (simp; omega)
      · (repeat (first | with_reducible assumption | with_reducible exact Below.refl _ _ | with_reducible refine Below.drew ?_ | with_reducible refine belowDrewN ?_ _ | ((with_reducible refine Below.setCell ?_ ?_ _); rotate_left; focus (first | omega | (simp; done) | (simp; omega))) | ((with_reducible refine Below.alloc ?_ ?_ _); rotate_left; focus (first | omega | (simp; done) | (simp; omega))) | ((with_reducible refine Below.trans ?_ (Below.mono hb7 ?_)); rotate_left; focus (first | omega | (simp; done) | (simp; omega)))))
  case rest =>
    obtain ⟨g, a7, cap7, rfl, hg7, hr7, hs7, hm7, hgl, hb7⟩ := hcut
    have hgs := hg7.lt
    have hrs := hr7.lt
    have hz7 := hb7.size
    obtain ⟨z0, z1, z2, z3, z4, y0, y1, y2, y3, y4⟩ := hs7
    have HG7 := Lib.hid hg7; clear hg7; have HR7 := Lib.hid hr7; clear hr7; have HM7 := Lib.hid hm7; clear hm7
    by_cases hk : k = 1
    · subst hk
      have hmx : mapX (woUse) 1 x = (woUse) x := mapX_one _ _
      have HMX := Lib.hid hmx; clear hmx
      go_wp2_with fail
      refine (iWithoutUses_calls xa xc x _ (HX.out.below (by (repeat (first | with_reducible assumption | with_reducible exact Below.refl _ _ | with_reducible refine Below.drew ?_ | with_reducible refine belowDrewN ?_ _ | ((with_reducible refine Below.setCell ?_ ?_ _); rotate_left; focus (first | omega | (simp; done) | (simp; omega))) | ((with_reducible refine Below.alloc ?_ ?_ _); rotate_left; focus (first | omega | (simp; done) | (simp; omega))) | ((with_reducible refine Below.trans ?_ (Below.mono hb7 ?_)); rotate_left; focus (first | omega | (simp; done) | (simp; omega))))))) (by omega)).mono ?_
      rintro e w8 ⟨a8, cap8, rfl, hm8, hb8⟩
      obtain ⟨hc8, hf8⟩ := bcell hb8; have hz8 := hb8.size; (try simp only [World.size_alloc, World.size_setCell, World.size_drew, sizeDrewN] at hz8 hc8 hf8)
      have hg8 := (HG7.out.below hb8 hgs).set3 (.slice a8 (woUse x).length cap8)
      have hr8 := (HR7.out.below hb8 hrs).far (a := ⟨g, 3, none⟩) (.slice a8 (woUse x).length cap8) (by simp; omega)
      have hg8' := HG7.out.below hb8 hgs
      obtain ⟨v0, v1, v2, v3, v4, u0, u1, u2, u3, u4⟩ := hg8'
      have hsc0 : (M.sl a8 cap8 1 3 (intM (woUse x))).Free (w.heap.size + 1 + 1) w8.heap.size g (w8.setCell ⟨g, 3, none⟩ (.slice a8 (woUse x).length cap8)) :=
        ⟨by (exact M.Mine.mono (M.Mine.keep hm8 (fun b hb1 hb2 => by (try simp at hb1); simp (disch := (first | omega | (simp; omega))) only [heapSet, heapNew, heapDrew, heapDrewN])) (by first | omega | (simp; done) | (simp; omega))), fun b hb => by have := hm8.lt b hb; omega, by simp⟩
      have hz8 : wc.heap.size ≤ w8.heap.size := by omega
      have hbb8 : Below w.heap.size w (w8.setCell ⟨g, 3, none⟩ (.slice a8 (woUse x).length cap8)) := by (repeat (first | with_reducible assumption | with_reducible exact Below.refl _ _ | with_reducible refine Below.drew ?_ | with_reducible refine belowDrewN ?_ _ | ((with_reducible refine Below.setCell ?_ ?_ _); rotate_left; focus (first | omega | (simp; done) | (simp; omega))) | ((with_reducible refine Below.alloc ?_ ?_ _); rotate_left; focus (first | omega | (simp; done) | (simp; omega))) | ((with_reducible refine Below.trans ?_ (Below.mono hb7 ?_)); rotate_left; focus (first | omega | (simp; done) | (simp; omega))) | ((with_reducible refine Below.trans ?_ (Below.mono hb8 ?_)); rotate_left; focus (first | omega | (simp; done) | (simp; omega)))))
      clear hm8
      have HSC0 := Lib.hid hsc0; clear hsc0; have HG8 := Lib.hid hg8; clear hg8; have HR8 := Lib.hid hr8; clear hr8
      clear hc8 hf8
      have c4 : w8.cell? ⟨w.heap.size, 4, none⟩ = some (.slice a ms.length cap) := (hb8.cell (p := ⟨w.heap.size, 4, none⟩) (by show w.heap.size < wc.heap.size; omega)).trans z4
      go_wp2_with fail
      go_loopw [29] (fun i wr => ∃ (j : Nat) (a' : Option Addr) (cap' : Nat) (ms' : List M), j ≤ ms.length ∧ i = .int .i64 j ∧ ms'.length = j ∧ Syn.IsL 27 (mapSynL (woUse) (ds.take j)) ms' ∧ (M.sl a' cap' 5 27 ms').Mine wr (w8.heap.size) ∧
          SBox (g) 1 n s (.slice a8 (woUse x).length cap8) (.slice a' ms'.length cap') wr ∧ SBox (w.heap.size + 1) 0 0 ⟨#[]⟩ (.slice none 0 0) (.slice none 0 0) wr ∧ (M.sl a8 cap8 1 3 (intM (woUse x))).Free (w.heap.size + 1 + 1) w8.heap.size g wr ∧ Below w.heap.size w wr ∧ w8.heap.size ≤ wr.heap.size) (fun i _ => ms.length - (intOf i).toNat)
      case atStart => exact ⟨0, none, 0, [], Nat.zero_le _, rfl, rfl, by simp [mapSynL, Syn.IsL], M.Mine.nil _ _ _ _ (by decide), HG8.out, HR8.out, HSC0.out, hbb8, by simp⟩
      case round =>
        obtain ⟨j, a', cap', ms', hj, rfl, hj', hi', hm', hq, hr, hsc, hb, hsz⟩ := hrel
        obtain ⟨q0, q1, q2, q3, q4, e0, e1, e2, e3, e4⟩ := hq
        obtain ⟨r0, r1, r2, r3, r4, g0, g1, g2, g3, g4⟩ := hr
        have hq : SBox (g) 1 n s (.slice a8 (woUse x).length cap8) (.slice a' ms'.length cap') wr := ⟨q0, q1, q2, q3, q4, e0, e1, e2, e3, e4⟩
        have hr : SBox (w.heap.size + 1) 0 0 ⟨#[]⟩ (.slice none 0 0) (.slice none 0 0) wr := ⟨r0, r1, r2, r3, r4, g0, g1, g2, g3, g4⟩
        have p3 := hq.lt
        have p2 := hr.lt
        by_cases hlt : j < ms.length
        · obtain ⟨b, off, k1, n1, s1, x1, ds1, xa1, xc1, a1, cap1, ms1, rfl, hd, hi1, hx1, hin1, c0, c1, c2, c3, c4⟩ := Syn.elem (HIN.out.below hb) HI.out j hlt
          obtain ⟨ht, hle⟩ := Syn.countL_le ds j _ hd
          simp only [Syn.count] at hle
          clear ht
          have hwt1 := Syn.wt_le hd
          simp only [Syn.wt] at hwt1
          have HD := Lib.hid hd; clear hd; have HI1 := Lib.hid hi1; clear hi1; have HX1 := Lib.hid hx1; clear hx1; have HIN1 := Lib.hid hin1; clear hin1; have HJ' := Lib.hid hj'; clear hj'; have HI' := Lib.hid hi'; clear hi'; have HM' := Lib.hid hm'; clear hm'; have HSC := Lib.hid hsc; clear hsc
          have HQ := Lib.hid hq; clear hq
          have HR := Lib.hid hr; clear hr
          go_wp2_with fail
          go_region_law (first
            | (go_simp; go_at_call 60; refine (IH.out k1 n1 s1 x1 ds1 (List.mem_of_getElem? HD.out) k1 n1 s1 x1 xa1 xc1 a1 cap1 ms1 _ (by omega) HI1.out (HX1.out.below (by (repeat (first | with_reducible assumption | with_reducible exact Below.refl _ _ | with_reducible refine Below.drew ?_ | with_reducible refine belowDrewN ?_ _ | ((with_reducible refine Below.setCell ?_ ?_ _); rotate_left; focus (first | omega | (simp; done) | (simp; omega))) | ((with_reducible refine Below.alloc ?_ ?_ _); rotate_left; focus (first | omega | (simp; done) | (simp; omega))))))) (HIN1.out.below (by (repeat (first | with_reducible assumption | with_reducible exact Below.refl _ _ | with_reducible refine Below.drew ?_ | with_reducible refine belowDrewN ?_ _ | ((with_reducible refine Below.setCell ?_ ?_ _); rotate_left; focus (first | omega | (simp; done) | (simp; omega))) | ((with_reducible refine Below.alloc ?_ ?_ _); rotate_left; focus (first | omega | (simp; done) | (simp; omega))))))) ).mono ?_; rintro e w1 ⟨xa2, xc2, a2, cap2, ms2, rfl, hi2, hm2, hb2⟩; obtain ⟨hc2, hf2⟩ := bcell hb2; have hz2 := hb2.size; (try simp only [World.size_alloc, World.size_setCell, World.size_drew, sizeDrewN] at hz2 hc2 hf2); have q3c : w1.cell? ⟨g, 4, none⟩ = some (.slice a' ms'.length cap') := (by simp (disch := omega) [hc2, q4, go_sem]); have p3c : g < w1.heap.size := (by omega); (try simp only [Syn.k_mk, Syn.n_mk, Syn.s_mk, Syn.x_mk, Syn.ds_mk, List.length_nil]))
            | (refine step_push (wr := wr) rfl _ _ 25 rfl 27 _ 5 80 Try.underlying25 infoSyn rfl (by decide) (w8.heap.size) a' cap' ms' rfl HM'.out hsz (by (repeat (first | with_reducible assumption | with_reducible exact Below.refl _ _ | with_reducible refine Below.drew ?_ | with_reducible refine belowDrewN ?_ _ | ((with_reducible refine Below.setCell ?_ ?_ _); rotate_left; focus (first | omega | (simp; done) | (simp; omega))) | ((with_reducible refine Below.alloc ?_ ?_ _); rotate_left; focus (first | omega | (simp; done) | (simp; omega))) | ((with_reducible refine Below.trans ?_ (Below.mono hb2 ?_)); rotate_left; focus (first | omega | (simp; done) | (simp; omega)))))) _ (.ag [.c (.int .i64 k1), .c (.int .i64 n1), .c (.string s1), .sl xa2 xc2 1 3 (intM (mapX (woUse) k1 x1)), .sl a2 cap2 5 27 ms2]) (by simp [M.cells, M.cellsL, intM_length]) rfl _ (SynOwn_el hm2 k1 n1 s1) (by simp) rfl (by have := HJ'.out; unfold maxLen; omega) (by have := HJ'.out; have := HL.out; omega) ?_; intro a3 cap3 w3 hm3 hb3 hz3 hfr3; have q3' : w3.cell? ⟨g, 4, none⟩ = some (.slice a' ms'.length cap') := (by rw [hb3.cell (by first | (simp; done) | (simp; omega))]; simp (disch := omega) [hc2, q4, go_sem]); have qf' : w3.frozen? ⟨g, 4, none⟩ = false := (by rw [hb3.frozen (by first | (simp; done) | (simp; omega))]; simp (disch := omega) [hf2, e4, go_sem])))
          all_goals
            have hbA : Below wr.heap.size wr w1 := by (repeat (first | with_reducible assumption | with_reducible exact Below.refl _ _ | with_reducible refine Below.drew ?_ | with_reducible refine belowDrewN ?_ _ | ((with_reducible refine Below.setCell ?_ ?_ _); rotate_left; focus (first | omega | (simp; done) | (simp; omega))) | ((with_reducible refine Below.alloc ?_ ?_ _); rotate_left; focus (first | omega | (simp; done) | (simp; omega))) | ((with_reducible refine Below.trans ?_ (Below.mono hb2 ?_)); rotate_left; focus (first | omega | (simp; done) | (simp; omega)))))
            have hq3 := (HQ.out.below hbA p3).below hb3 (by omega)
            have hr3 := (HR.out.below hbA p2).below hb3 (by omega)
            (try simp only [Syn.k_mk, Syn.n_mk, Syn.s_mk, Syn.x_mk, Syn.ds_mk] at hi2)
            have hfin : Syn.IsL 27 (mapSynL (woUse) (ds.take (j + 1))) (ms' ++ [.ag [.c (.int .i64 k1), .c (.int .i64 n1), .c (.string s1), .sl xa2 xc2 1 3 (intM (mapX (woUse) k1 x1)), .sl a2 cap2 5 27 ms2]]) := by
              rw [mapSynL_take HD.out]; exact HI'.out.snoc ⟨_, _, _, _, _, rfl, hi2⟩
            have hjj := HJ'.out
            have HFIN := Lib.hid hfin; clear hfin; have HM3 := Lib.hid hm3; clear hm3; have HI2 := Lib.hid hi2; clear hi2; have HM2 := Lib.hid hm2; clear hm2; have HQ3 := Lib.hid hq3; clear hq3; have HR3 := Lib.hid hr3; clear hr3; have HBA := Lib.hid hbA; clear hbA
            go_wp2_with fail
            go_roundw
            case rel =>
              refine ⟨j + 1, a3, cap3, ms' ++ [.ag [.c (.int .i64 k1), .c (.int .i64 n1), .c (.string s1), .sl xa2 xc2 1 3 (intM (mapX (woUse) k1 x1)), .sl a2 cap2 5 27 ms2]], by omega, by go_num, by simp [hjj], HFIN.out, ?_, ?_, ?_, ?_, ?_, ?_⟩
              · exact M.Mine.keep HM3.out (fun b hb1 hb2 => by simp (disch := (first | omega | (simp; omega))) only [heapSet])
              · have := HQ3.out.set4 (.slice a3 (ms'.length + 1) cap3); simpa [hjj] using this
              · exact HR3.out.far _ (by first | (simp; done) | (simp; omega))
              · exact HSC.out.keep (by simp; omega) (fun b hb1 hb2 hb4 => by rw [heapSet _ _ _ _ (by simpa using hb4), hb3.block b (by omega), HBA.out.block b (by omega)])
              · (repeat (first | with_reducible assumption | with_reducible exact Below.refl _ _ | with_reducible refine Below.drew ?_ | with_reducible refine belowDrewN ?_ _ | ((with_reducible refine Below.setCell ?_ ?_ _); rotate_left; focus (first | omega | (simp; done) | (simp; omega))) | ((with_reducible refine Below.alloc ?_ ?_ _); rotate_left; focus (first | omega | (simp; done) | (simp; omega))) | ((with_reducible refine Below.trans ?_ (Below.mono hb2 ?_)); rotate_left; focus (first | omega | (simp; done) | (simp; omega))) | ((with_reducible refine Below.trans ?_ (Below.mono hb3 ?_)); rotate_left; focus (first | omega | (simp; done) | (simp; omega)))))
              · simp; omega
            case measure => simp [intOf]; omega
        · have HJ' := Lib.hid hj'; clear hj'; have HSC := Lib.hid hsc; clear hsc
          have HQ := Lib.hid hq; clear hq
          have HR := Lib.hid hr; clear hr
          go_wp2_with fail
          refine bodyPost_ret (v := .agg #[.int .i64 1, .int .i64 n, .string s, .slice a8 (woUse x).length cap8, .slice a' ms'.length cap']) (by simp [results, Try.results60, go_sem, q0, q1, q2, q3, q4, r0, r1, r2, r3, r4, HJ'.out]) rfl ?_
          rw [HMX.out]
          have hk2 : j = ms.length := by omega
          subst hk2
          refine ⟨a8, cap8, a', cap', ms', rfl, ?_, ?_, ?_⟩
          · rw [HL.out, List.take_length] at hi'
            exact hi'
          · exact SynOwn_two (c := w8.heap.size) (by (exact M.Mine.mono (M.Mine.keep HSC.out.mine (fun b hb1 hb2 => by (try simp at hb1); simp (disch := (first | omega | (simp; omega))) only [heapSet, heapNew, heapDrew, heapDrewN])) (by first | omega | (simp; done) | (simp; omega)))) (by (exact M.Mine.mono (M.Mine.keep hm' (fun b hb1 hb2 => by (try simp at hb1); simp (disch := (first | omega | (simp; omega))) only [heapSet, heapNew, heapDrew, heapDrewN])) (by first | omega | (simp; done) | (simp; omega)))) (by omega) (fun b hb => by have := HSC.out.lt b hb; omega)
          · (repeat (first | with_reducible assumption | with_reducible exact Below.refl _ _ | with_reducible refine Below.drew ?_ | with_reducible refine belowDrewN ?_ _ | ((with_reducible refine Below.setCell ?_ ?_ _); rotate_left; focus (first | omega | (simp; done) | (simp; omega))) | ((with_reducible refine Below.alloc ?_ ?_ _); rotate_left; focus (first | omega | (simp; done) | (simp; omega))) | ((with_reducible refine Below.trans ?_ (Below.mono hb ?_)); rotate_left; focus (first | omega | (simp; done) | (simp; omega)))))
    · have hkb : (k == 1) = false := by simp [hk]
      have hmx : mapX (woUse) k x = x := mapX_other hk _ _
      have HK := Lib.hid hk; clear hk; have HMX := Lib.hid hmx; clear hmx
      go_wp2_with fail
      go_loopw [29] (fun i wr => ∃ (j : Nat) (a' : Option Addr) (cap' : Nat) (ms' : List M), j ≤ ms.length ∧ i = .int .i64 j ∧ ms'.length = j ∧ Syn.IsL 27 (mapSynL (woUse) (ds.take j)) ms' ∧ (M.sl a' cap' 5 27 ms').Mine wr (wc.heap.size) ∧
          SBox (g) k n s (.slice a7 x.length cap7) (.slice a' ms'.length cap') wr ∧ SBox (w.heap.size + 1) 0 0 ⟨#[]⟩ (.slice none 0 0) (.slice none 0 0) wr ∧ (M.sl a7 cap7 1 3 (intM x)).Free (w.heap.size + 1 + 1) wc.heap.size g wr ∧ Below w.heap.size w wr ∧ wc.heap.size ≤ wr.heap.size) (fun i _ => ms.length - (intOf i).toNat)
      case atStart => exact ⟨0, none, 0, [], Nat.zero_le _, rfl, rfl, by simp [mapSynL, Syn.IsL], M.Mine.nil _ _ _ _ (by decide), HG7.out, HR7.out, HM7.out, hb7, Nat.le_refl _⟩
      case round =>
        obtain ⟨j, a', cap', ms', hj, rfl, hj', hi', hm', hq, hr, hsc, hb, hsz⟩ := hrel
        obtain ⟨q0, q1, q2, q3, q4, e0, e1, e2, e3, e4⟩ := hq
        obtain ⟨r0, r1, r2, r3, r4, g0, g1, g2, g3, g4⟩ := hr
        have hq : SBox (g) k n s (.slice a7 x.length cap7) (.slice a' ms'.length cap') wr := ⟨q0, q1, q2, q3, q4, e0, e1, e2, e3, e4⟩
        have hr : SBox (w.heap.size + 1) 0 0 ⟨#[]⟩ (.slice none 0 0) (.slice none 0 0) wr := ⟨r0, r1, r2, r3, r4, g0, g1, g2, g3, g4⟩
        have p3 := hq.lt
        have p2 := hr.lt
        by_cases hlt : j < ms.length
        · obtain ⟨b, off, k1, n1, s1, x1, ds1, xa1, xc1, a1, cap1, ms1, rfl, hd, hi1, hx1, hin1, c0, c1, c2, c3, c4⟩ := Syn.elem (HIN.out.below hb) HI.out j hlt
          obtain ⟨ht, hle⟩ := Syn.countL_le ds j _ hd
          simp only [Syn.count] at hle
          clear ht
          have hwt1 := Syn.wt_le hd
          simp only [Syn.wt] at hwt1
          have HD := Lib.hid hd; clear hd; have HI1 := Lib.hid hi1; clear hi1; have HX1 := Lib.hid hx1; clear hx1; have HIN1 := Lib.hid hin1; clear hin1; have HJ' := Lib.hid hj'; clear hj'; have HI' := Lib.hid hi'; clear hi'; have HM' := Lib.hid hm'; clear hm'; have HSC := Lib.hid hsc; clear hsc
          have HQ := Lib.hid hq; clear hq
          have HR := Lib.hid hr; clear hr
          go_wp2_with fail
          go_region_law (first
            | (go_simp; go_at_call 60; refine (IH.out k1 n1 s1 x1 ds1 (List.mem_of_getElem? HD.out) k1 n1 s1 x1 xa1 xc1 a1 cap1 ms1 _ (by omega) HI1.out (HX1.out.below (by (repeat (first | with_reducible assumption | with_reducible exact Below.refl _ _ | with_reducible refine Below.drew ?_ | with_reducible refine belowDrewN ?_ _ | ((with_reducible refine Below.setCell ?_ ?_ _); rotate_left; focus (first | omega | (simp; done) | (simp; omega))) | ((with_reducible refine Below.alloc ?_ ?_ _); rotate_left; focus (first | omega | (simp; done) | (simp; omega))))))) (HIN1.out.below (by (repeat (first | with_reducible assumption | with_reducible exact Below.refl _ _ | with_reducible refine Below.drew ?_ | with_reducible refine belowDrewN ?_ _ | ((with_reducible refine Below.setCell ?_ ?_ _); rotate_left; focus (first | omega | (simp; done) | (simp; omega))) | ((with_reducible refine Below.alloc ?_ ?_ _); rotate_left; focus (first | omega | (simp; done) | (simp; omega))))))) ).mono ?_; rintro e w1 ⟨xa2, xc2, a2, cap2, ms2, rfl, hi2, hm2, hb2⟩; obtain ⟨hc2, hf2⟩ := bcell hb2; have hz2 := hb2.size; (try simp only [World.size_alloc, World.size_setCell, World.size_drew, sizeDrewN] at hz2 hc2 hf2); have q3c : w1.cell? ⟨g, 4, none⟩ = some (.slice a' ms'.length cap') := (by simp (disch := omega) [hc2, q4, go_sem]); have p3c : g < w1.heap.size := (by omega); (try simp only [Syn.k_mk, Syn.n_mk, Syn.s_mk, Syn.x_mk, Syn.ds_mk, List.length_nil]))
            | (refine step_push (wr := wr) rfl _ _ 25 rfl 27 _ 5 80 Try.underlying25 infoSyn rfl (by decide) (wc.heap.size) a' cap' ms' rfl HM'.out hsz (by (repeat (first | with_reducible assumption | with_reducible exact Below.refl _ _ | with_reducible refine Below.drew ?_ | with_reducible refine belowDrewN ?_ _ | ((with_reducible refine Below.setCell ?_ ?_ _); rotate_left; focus (first | omega | (simp; done) | (simp; omega))) | ((with_reducible refine Below.alloc ?_ ?_ _); rotate_left; focus (first | omega | (simp; done) | (simp; omega))) | ((with_reducible refine Below.trans ?_ (Below.mono hb2 ?_)); rotate_left; focus (first | omega | (simp; done) | (simp; omega)))))) _ (.ag [.c (.int .i64 k1), .c (.int .i64 n1), .c (.string s1), .sl xa2 xc2 1 3 (intM (mapX (woUse) k1 x1)), .sl a2 cap2 5 27 ms2]) (by simp [M.cells, M.cellsL, intM_length]) rfl _ (SynOwn_el hm2 k1 n1 s1) (by simp) rfl (by have := HJ'.out; unfold maxLen; omega) (by have := HJ'.out; have := HL.out; omega) ?_; intro a3 cap3 w3 hm3 hb3 hz3 hfr3; have q3' : w3.cell? ⟨g, 4, none⟩ = some (.slice a' ms'.length cap') := (by rw [hb3.cell (by first | (simp; done) | (simp; omega))]; simp (disch := omega) [hc2, q4, go_sem]); have qf' : w3.frozen? ⟨g, 4, none⟩ = false := (by rw [hb3.frozen (by first | (simp; done) | (simp; omega))]; simp (disch := omega) [hf2, e4, go_sem])))
          all_goals
            have hbA : Below wr.heap.size wr w1 := by (repeat (first | with_reducible assumption | with_reducible exact Below.refl _ _ | with_reducible refine Below.drew ?_ | with_reducible refine belowDrewN ?_ _ | ((with_reducible refine Below.setCell ?_ ?_ _); rotate_left; focus (first | omega | (simp; done) | (simp; omega))) | ((with_reducible refine Below.alloc ?_ ?_ _); rotate_left; focus (first | omega | (simp; done) | (simp; omega))) | ((with_reducible refine Below.trans ?_ (Below.mono hb2 ?_)); rotate_left; focus (first | omega | (simp; done) | (simp; omega)))))
            have hq3 := (HQ.out.below hbA p3).below hb3 (by omega)
            have hr3 := (HR.out.below hbA p2).below hb3 (by omega)
            (try simp only [Syn.k_mk, Syn.n_mk, Syn.s_mk, Syn.x_mk, Syn.ds_mk] at hi2)
            have hfin : Syn.IsL 27 (mapSynL (woUse) (ds.take (j + 1))) (ms' ++ [.ag [.c (.int .i64 k1), .c (.int .i64 n1), .c (.string s1), .sl xa2 xc2 1 3 (intM (mapX (woUse) k1 x1)), .sl a2 cap2 5 27 ms2]]) := by
              rw [mapSynL_take HD.out]; exact HI'.out.snoc ⟨_, _, _, _, _, rfl, hi2⟩
            have hjj := HJ'.out
            have HFIN := Lib.hid hfin; clear hfin; have HM3 := Lib.hid hm3; clear hm3; have HI2 := Lib.hid hi2; clear hi2; have HM2 := Lib.hid hm2; clear hm2; have HQ3 := Lib.hid hq3; clear hq3; have HR3 := Lib.hid hr3; clear hr3; have HBA := Lib.hid hbA; clear hbA
            go_wp2_with fail
            go_roundw
            case rel =>
              refine ⟨j + 1, a3, cap3, ms' ++ [.ag [.c (.int .i64 k1), .c (.int .i64 n1), .c (.string s1), .sl xa2 xc2 1 3 (intM (mapX (woUse) k1 x1)), .sl a2 cap2 5 27 ms2]], by omega, by go_num, by simp [hjj], HFIN.out, ?_, ?_, ?_, ?_, ?_, ?_⟩
              · exact M.Mine.keep HM3.out (fun b hb1 hb2 => by simp (disch := (first | omega | (simp; omega))) only [heapSet])
              · have := HQ3.out.set4 (.slice a3 (ms'.length + 1) cap3); simpa [hjj] using this
              · exact HR3.out.far _ (by first | (simp; done) | (simp; omega))
              · exact HSC.out.keep (by simp; omega) (fun b hb1 hb2 hb4 => by rw [heapSet _ _ _ _ (by simpa using hb4), hb3.block b (by omega), HBA.out.block b (by omega)])
              · (repeat (first | with_reducible assumption | with_reducible exact Below.refl _ _ | with_reducible refine Below.drew ?_ | with_reducible refine belowDrewN ?_ _ | ((with_reducible refine Below.setCell ?_ ?_ _); rotate_left; focus (first | omega | (simp; done) | (simp; omega))) | ((with_reducible refine Below.alloc ?_ ?_ _); rotate_left; focus (first | omega | (simp; done) | (simp; omega))) | ((with_reducible refine Below.trans ?_ (Below.mono hb2 ?_)); rotate_left; focus (first | omega | (simp; done) | (simp; omega))) | ((with_reducible refine Below.trans ?_ (Below.mono hb3 ?_)); rotate_left; focus (first | omega | (simp; done) | (simp; omega)))))
              · simp; omega
            case measure => simp [intOf]; omega
        · have HJ' := Lib.hid hj'; clear hj'; have HSC := Lib.hid hsc; clear hsc
          have HQ := Lib.hid hq; clear hq
          have HR := Lib.hid hr; clear hr
          go_wp2_with fail
          refine bodyPost_ret (v := .agg #[.int .i64 k, .int .i64 n, .string s, .slice a7 x.length cap7, .slice a' ms'.length cap']) (by simp [results, Try.results60, go_sem, q0, q1, q2, q3, q4, r0, r1, r2, r3, r4, HJ'.out]) rfl ?_
          rw [HMX.out]
          have hk2 : j = ms.length := by omega
          subst hk2
          refine ⟨a7, cap7, a', cap', ms', rfl, ?_, ?_, ?_⟩
          · rw [HL.out, List.take_length] at hi'
            exact hi'
          · exact SynOwn_two (c := wc.heap.size) (by (exact M.Mine.mono (M.Mine.keep HSC.out.mine (fun b hb1 hb2 => by (try simp at hb1); simp (disch := (first | omega | (simp; omega))) only [heapSet, heapNew, heapDrew, heapDrewN])) (by first | omega | (simp; done) | (simp; omega)))) (by (exact M.Mine.mono (M.Mine.keep hm' (fun b hb1 hb2 => by (try simp at hb1); simp (disch := (first | omega | (simp; omega))) only [heapSet, heapNew, heapDrew, heapDrewN])) (by first | omega | (simp; done) | (simp; omega)))) (by omega) (fun b hb => by have := HSC.out.lt b hb; omega)
          · (repeat (first | with_reducible assumption | with_reducible exact Below.refl _ _ | with_reducible refine Below.drew ?_ | with_reducible refine belowDrewN ?_ _ | ((with_reducible refine Below.setCell ?_ ?_ _); rotate_left; focus (first | omega | (simp; done) | (simp; omega))) | ((with_reducible refine Below.alloc ?_ ?_ _); rotate_left; focus (first | omega | (simp; done) | (simp; omega))) | ((with_reducible refine Below.trans ?_ (Below.mono hb ?_)); rotate_left; focus (first | omega | (simp; done) | (simp; omega)))))
end Go.Proofs.Ytghbnehocggnnaa

/-
  Walks: copies of syntax, scopes added and flipped. No condition. (printed by wip/tools/mkm5.py)
-/
set_option linter.unusedVariables false
set_option linter.unusedSimpArgs false
set_option maxRecDepth 100000
namespace Go.Proofs.Ytghbnehocggnnaa
open Go.RowKit

set_option maxHeartbeats 1000000 in
theorem copySyntax_calls (k n : Int) (s : ByteArray) (x : List Int) (ds : List Syn) (xa : Option Addr) (xc : Nat) (a : Option Addr) (cap : Nat) (ms : List M) (w : World) (hB : s.size + (x.length + (ds.length + Syn.wtX ds)) ≤ 2000000) (hi : Syn.IsL 27 ds ms) (hx : (M.sl xa xc 1 3 (intM x)).In w) (hin : (M.sl a cap 5 27 ms).In w) :
    Calls Try.prog 54 #[.agg #[.int .i64 k, .int .i64 n, .string s, .slice xa x.length xc, .slice a ms.length cap]] w (RetSyn 27 (.mk k n s x ds) w) := by
  have hcap := hin.len
  have hxl := Ints.len hx
  have HI := Lib.hid hi; clear hi; have HX := Lib.hid hx; clear hx; have HIN := Lib.hid hin; clear hin
  go_enter Try.func54, Try.ntmps54
  go_wp2_with fail
  refine (iMapCopy_calls ds k n s x xa xc a cap ms _ hB HI.out (HX.out.below (by (repeat (first | with_reducible assumption | with_reducible exact Below.refl _ _ | with_reducible refine Below.drew ?_ | with_reducible refine belowDrewN ?_ _ | ((with_reducible refine Below.setCell ?_ ?_ _); rotate_left; focus (first | omega | (simp; done) | (simp; omega))) | ((with_reducible refine Below.alloc ?_ ?_ _); rotate_left; focus (first | omega | (simp; done) | (simp; omega))))))) (HIN.out.below (by (repeat (first | with_reducible assumption | with_reducible exact Below.refl _ _ | with_reducible refine Below.drew ?_ | with_reducible refine belowDrewN ?_ _ | ((with_reducible refine Below.setCell ?_ ?_ _); rotate_left; focus (first | omega | (simp; done) | (simp; omega))) | ((with_reducible refine Below.alloc ?_ ?_ _); rotate_left; focus (first | omega | (simp; done) | (simp; omega)))))))).mono ?_
  rintro e w2 ⟨xa2, xc2, a2, cap2, ms2, rfl, hi2, hm2, hb2⟩
  obtain ⟨hc2, hf2⟩ := bcell hb2; have hz2 := hb2.size; (try simp only [World.size_alloc, World.size_setCell, World.size_drew, sizeDrewN] at hz2 hc2 hf2); have hp2_0 : w.heap.size < w2.heap.size := (by omega); have hp2_1 : w.heap.size + 1 < w2.heap.size := (by omega)
  simp only [Syn.k_mk, Syn.n_mk, Syn.s_mk, Syn.x_mk, Syn.ds_mk, mapX_id, mapSynL_id] at hi2 hm2 ⊢
  have hr : SBox (w.heap.size + 1) 0 0 ⟨#[]⟩ (.slice none 0 0) (.slice none 0 0) w2 := by have h := (SBox.new 0 0 ⟨#[]⟩ (.slice none 0 0) (.slice none 0 0) _).below hb2 (by simp); simpa using h
  obtain ⟨s0, s1, s2, s3, s4, h0, h1, h2, h3, h4⟩ := hr
  have HI2 := Lib.hid hi2; clear hi2; have HM2 := Lib.hid hm2; clear hm2
  clear hc2 hf2
  go_wp2_with fail
  refine bodyPost_ret (v := .agg #[.int .i64 k, .int .i64 n, .string s, .slice xa2 (x).length xc2, .slice a2 ms2.length cap2]) (by simp [results, Try.results54, go_sem, s0, s1, s2, s3, s4]) rfl ?_
  exact ⟨xa2, xc2, a2, cap2, ms2, rfl, HI2.out, by (exact M.Mine.mono (M.Mine.keep HM2.out (fun b hb1 hb2 => by (try simp at hb1); simp (disch := (first | omega | (simp; omega))) only [heapSet, heapNew, heapDrew, heapDrewN])) (by first | omega | (simp; done) | (simp; omega))), by (repeat (first | with_reducible assumption | with_reducible exact Below.refl _ _ | with_reducible refine Below.drew ?_ | with_reducible refine belowDrewN ?_ _ | ((with_reducible refine Below.setCell ?_ ?_ _); rotate_left; focus (first | omega | (simp; done) | (simp; omega))) | ((with_reducible refine Below.alloc ?_ ?_ _); rotate_left; focus (first | omega | (simp; done) | (simp; omega))) | ((with_reducible refine Below.trans ?_ (Below.mono hb2 ?_)); rotate_left; focus (first | omega | (simp; done) | (simp; omega)))))⟩
set_option maxHeartbeats 1000000 in
theorem addScope_calls (k n : Int) (s : ByteArray) (x : List Int) (ds : List Syn) (xa : Option Addr) (xc : Nat) (a : Option Addr) (cap : Nat) (ms : List M) (m : Int) (w : World) (hB : s.size + (x.length + (ds.length + Syn.wtX ds)) ≤ 2000000) (hi : Syn.IsL 27 ds ms) (hx : (M.sl xa xc 1 3 (intM x)).In w) (hin : (M.sl a cap 5 27 ms).In w) :
    Calls Try.prog 55 #[.agg #[.int .i64 k, .int .i64 n, .string s, .slice xa x.length xc, .slice a ms.length cap], .int .i64 m] w (RetSyn 27 (.mk k n s (mapX (put m) k x) (mapSynL (put m) ds)) w) := by
  have hcap := hin.len
  have hxl := Ints.len hx
  have HI := Lib.hid hi; clear hi; have HX := Lib.hid hx; clear hx; have HIN := Lib.hid hin; clear hin
  have hmf : ∀ (fn : Fn) (first cap : Array Value) (w : World), (Instr.makeFunc fn first cap).run Try.prog w = .ok (.func fn first cap) w := fun _ _ _ _ => rfl
  go_enter Try.func55, Try.ntmps55
  go_wp2_with fail
  refine (iMapAdd_calls ds k n s x xa xc a cap ms (w.heap.size + 1) m _ hB HI.out (HX.out.below (by (repeat (first | with_reducible assumption | with_reducible exact Below.refl _ _ | with_reducible refine Below.drew ?_ | with_reducible refine belowDrewN ?_ _ | ((with_reducible refine Below.setCell ?_ ?_ _); rotate_left; focus (first | omega | (simp; done) | (simp; omega))) | ((with_reducible refine Below.alloc ?_ ?_ _); rotate_left; focus (first | omega | (simp; done) | (simp; omega))))))) (HIN.out.below (by (repeat (first | with_reducible assumption | with_reducible exact Below.refl _ _ | with_reducible refine Below.drew ?_ | with_reducible refine belowDrewN ?_ _ | ((with_reducible refine Below.setCell ?_ ?_ _); rotate_left; focus (first | omega | (simp; done) | (simp; omega))) | ((with_reducible refine Below.alloc ?_ ?_ _); rotate_left; focus (first | omega | (simp; done) | (simp; omega))))))) (by first | (simp [go_sem]; done) | (simp [go_sem]; rfl))).mono ?_
  rintro e w2 ⟨xa2, xc2, a2, cap2, ms2, rfl, hi2, hm2, hb2⟩
  obtain ⟨hc2, hf2⟩ := bcell hb2; have hz2 := hb2.size; (try simp only [World.size_alloc, World.size_setCell, World.size_drew, sizeDrewN] at hz2 hc2 hf2); have hp2_0 : w.heap.size < w2.heap.size := (by omega); have hp2_1 : w.heap.size + 1 < w2.heap.size := (by omega); have hp2_2 : w.heap.size + 2 < w2.heap.size := (by omega)
  simp only [Syn.k_mk, Syn.n_mk, Syn.s_mk, Syn.x_mk, Syn.ds_mk, mapX_id, mapSynL_id] at hi2 hm2 ⊢
  have hr : SBox (w.heap.size + 1 + 1) 0 0 ⟨#[]⟩ (.slice none 0 0) (.slice none 0 0) w2 := by have h := (SBox.new 0 0 ⟨#[]⟩ (.slice none 0 0) (.slice none 0 0) _).below hb2 (by simp); simpa using h
  obtain ⟨s0, s1, s2, s3, s4, h0, h1, h2, h3, h4⟩ := hr
  have HI2 := Lib.hid hi2; clear hi2; have HM2 := Lib.hid hm2; clear hm2
  clear hc2 hf2
  go_wp2_with fail
  refine bodyPost_ret (v := .agg #[.int .i64 k, .int .i64 n, .string s, .slice xa2 ((mapX (put m) k x)).length xc2, .slice a2 ms2.length cap2]) (by simp [results, Try.results55, go_sem, s0, s1, s2, s3, s4]) rfl ?_
  exact ⟨xa2, xc2, a2, cap2, ms2, rfl, HI2.out, by (exact M.Mine.mono (M.Mine.keep HM2.out (fun b hb1 hb2 => by (try simp at hb1); simp (disch := (first | omega | (simp; omega))) only [heapSet, heapNew, heapDrew, heapDrewN])) (by first | omega | (simp; done) | (simp; omega))), by (repeat (first | with_reducible assumption | with_reducible exact Below.refl _ _ | with_reducible refine Below.drew ?_ | with_reducible refine belowDrewN ?_ _ | ((with_reducible refine Below.setCell ?_ ?_ _); rotate_left; focus (first | omega | (simp; done) | (simp; omega))) | ((with_reducible refine Below.alloc ?_ ?_ _); rotate_left; focus (first | omega | (simp; done) | (simp; omega))) | ((with_reducible refine Below.trans ?_ (Below.mono hb2 ?_)); rotate_left; focus (first | omega | (simp; done) | (simp; omega)))))⟩
set_option maxHeartbeats 1000000 in
theorem flipScope_calls (k n : Int) (s : ByteArray) (x : List Int) (ds : List Syn) (xa : Option Addr) (xc : Nat) (a : Option Addr) (cap : Nat) (ms : List M) (m : Int) (w : World) (hB : s.size + (x.length + (ds.length + Syn.wtX ds)) ≤ 2000000) (hi : Syn.IsL 27 ds ms) (hx : (M.sl xa xc 1 3 (intM x)).In w) (hin : (M.sl a cap 5 27 ms).In w) :
    Calls Try.prog 56 #[.agg #[.int .i64 k, .int .i64 n, .string s, .slice xa x.length xc, .slice a ms.length cap], .int .i64 m] w (RetSyn 27 (.mk k n s (mapX (flipSo m) k x) (mapSynL (flipSo m) ds)) w) := by
  have hcap := hin.len
  have hxl := Ints.len hx
  have HI := Lib.hid hi; clear hi; have HX := Lib.hid hx; clear hx; have HIN := Lib.hid hin; clear hin
  have hmf : ∀ (fn : Fn) (first cap : Array Value) (w : World), (Instr.makeFunc fn first cap).run Try.prog w = .ok (.func fn first cap) w := fun _ _ _ _ => rfl
  go_enter Try.func56, Try.ntmps56
  go_wp2_with fail
  refine (iMapFlip_calls ds k n s x xa xc a cap ms (w.heap.size + 1) m _ hB HI.out (HX.out.below (by (repeat (first | with_reducible assumption | with_reducible exact Below.refl _ _ | with_reducible refine Below.drew ?_ | with_reducible refine belowDrewN ?_ _ | ((with_reducible refine Below.setCell ?_ ?_ _); rotate_left; focus (first | omega | (simp; done) | (simp; omega))) | ((with_reducible refine Below.alloc ?_ ?_ _); rotate_left; focus (first | omega | (simp; done) | (simp; omega))))))) (HIN.out.below (by (repeat (first | with_reducible assumption | with_reducible exact Below.refl _ _ | with_reducible refine Below.drew ?_ | with_reducible refine belowDrewN ?_ _ | ((with_reducible refine Below.setCell ?_ ?_ _); rotate_left; focus (first | omega | (simp; done) | (simp; omega))) | ((with_reducible refine Below.alloc ?_ ?_ _); rotate_left; focus (first | omega | (simp; done) | (simp; omega))))))) (by first | (simp [go_sem]; done) | (simp [go_sem]; rfl))).mono ?_
  rintro e w2 ⟨xa2, xc2, a2, cap2, ms2, rfl, hi2, hm2, hb2⟩
  obtain ⟨hc2, hf2⟩ := bcell hb2; have hz2 := hb2.size; (try simp only [World.size_alloc, World.size_setCell, World.size_drew, sizeDrewN] at hz2 hc2 hf2); have hp2_0 : w.heap.size < w2.heap.size := (by omega); have hp2_1 : w.heap.size + 1 < w2.heap.size := (by omega); have hp2_2 : w.heap.size + 2 < w2.heap.size := (by omega)
  simp only [Syn.k_mk, Syn.n_mk, Syn.s_mk, Syn.x_mk, Syn.ds_mk, mapX_id, mapSynL_id] at hi2 hm2 ⊢
  have hr : SBox (w.heap.size + 1 + 1) 0 0 ⟨#[]⟩ (.slice none 0 0) (.slice none 0 0) w2 := by have h := (SBox.new 0 0 ⟨#[]⟩ (.slice none 0 0) (.slice none 0 0) _).below hb2 (by simp); simpa using h
  obtain ⟨s0, s1, s2, s3, s4, h0, h1, h2, h3, h4⟩ := hr
  have HI2 := Lib.hid hi2; clear hi2; have HM2 := Lib.hid hm2; clear hm2
  clear hc2 hf2
  go_wp2_with fail
  refine bodyPost_ret (v := .agg #[.int .i64 k, .int .i64 n, .string s, .slice xa2 ((mapX (flipSo m) k x)).length xc2, .slice a2 ms2.length cap2]) (by simp [results, Try.results56, go_sem, s0, s1, s2, s3, s4]) rfl ?_
  exact ⟨xa2, xc2, a2, cap2, ms2, rfl, HI2.out, by (exact M.Mine.mono (M.Mine.keep HM2.out (fun b hb1 hb2 => by (try simp at hb1); simp (disch := (first | omega | (simp; omega))) only [heapSet, heapNew, heapDrew, heapDrewN])) (by first | omega | (simp; done) | (simp; omega))), by (repeat (first | with_reducible assumption | with_reducible exact Below.refl _ _ | with_reducible refine Below.drew ?_ | with_reducible refine belowDrewN ?_ _ | ((with_reducible refine Below.setCell ?_ ?_ _); rotate_left; focus (first | omega | (simp; done) | (simp; omega))) | ((with_reducible refine Below.alloc ?_ ?_ _); rotate_left; focus (first | omega | (simp; done) | (simp; omega))) | ((with_reducible refine Below.trans ?_ (Below.mono hb2 ?_)); rotate_left; focus (first | omega | (simp; done) | (simp; omega)))))⟩
end Go.Proofs.Ytghbnehocggnnaa

/-
  Walks: AddScope. No condition. (printed by wip/tools/mkm5.py)
-/
set_option linter.unusedVariables false
set_option linter.unusedSimpArgs false
set_option maxRecDepth 100000
namespace Go.Proofs.Ytghbnehocggnnaa
open Go.RowKit

set_option maxHeartbeats 1000000 in
theorem iAddScope_calls (k n : Int) (s : ByteArray) (x : List Int) (ds : List Syn) (xa : Option Addr) (xc : Nat) (a : Option Addr) (cap : Nat) (ms : List M) (m : Int) (w : World) (hwf : (Syn.mk k n s x ds).wf) (hcB : Syn.countL ds ≤ 1000000000) (hB : s.size + (x.length + (ds.length + Syn.wtX ds)) ≤ 2000000) (hi : Syn.IsL 27 ds ms) (hown : (SynOwn 27 xa xc x a cap ms).In w) :
    Calls Try.prog 18 #[.agg #[.int .i64 k, .int .i64 n, .string s, .slice xa x.length xc, .slice a ms.length cap], .int .i64 m] w (RetSyn 27 (.mk k n s (mapGx (isSynB k n s x ds && !(kindS m == 0)) (put m) k x) (mapGd (isSynB k n s x ds && !(kindS m == 0)) (put m) ds)) w) := by
  have hx := SynIn_x hown
  have hin := SynIn_ms hown
  have hcap := hin.len
  have hxl := Ints.len hx
  have HI := Lib.hid hi; clear hi; have HX := Lib.hid hx; clear hx; have HIN := Lib.hid hin; clear hin; have HOWN := Lib.hid hown; clear hown; have HWF := Lib.hid hwf; clear hwf
  go_enter Try.func18, Try.ntmps18
  go_wp2_with fail
  refine (iIsSyntax_calls k n s x ds xa xc a cap ms _ HWF.out hcB HI.out (HOWN.out.below (by (repeat (first | with_reducible assumption | with_reducible exact Below.refl _ _ | with_reducible refine Below.drew ?_ | with_reducible refine belowDrewN ?_ _ | ((with_reducible refine Below.setCell ?_ ?_ _); rotate_left; focus (first | omega | (simp; done) | (simp; omega))) | ((with_reducible refine Below.alloc ?_ ?_ _); rotate_left; focus (first | omega | (simp; done) | (simp; omega)))))))).mono ?_
  rintro e w1 ⟨rfl, hb1⟩
  obtain ⟨hc1, hf1⟩ := bcell hb1; have hz1 := hb1.size; (try simp only [World.size_alloc, World.size_setCell, World.size_drew, sizeDrewN] at hz1 hc1 hf1)
  have p0 : w.heap.size < w1.heap.size := by omega
  have p1 : w.heap.size + 1 < w1.heap.size := by omega
  have hq : SBox w.heap.size k n s (.slice xa x.length xc) (.slice a ms.length cap) w1 := by constructor <;> first | (simp (disch := omega) [hc1, hf1, go_sem]; done) | (simp (disch := omega) [hc1, hf1, go_sem]; rfl)
  have hr : SBox (w.heap.size + 1) 0 0 ⟨#[]⟩ (.slice none 0 0) (.slice none 0 0) w1 := by constructor <;> first | (simp (disch := omega) [hc1, hf1, go_sem]; done) | (simp (disch := omega) [hc1, hf1, go_sem]; rfl)
  obtain ⟨q0, q1, q2, q3, q4, e0, e1, e2, e3, e4⟩ := hq
  obtain ⟨r0, r1, r2, r3, r4, g0, g1, g2, g3, g4⟩ := hr
  clear hc1 hf1
  cases hv : isSynB k n s x ds with
  | false =>
    have hno : (isSynB k n s x ds && !(kindS m == 0)) = false := by rw [hv]; rfl
    have HV := Lib.hid hv; clear hv; have HNO := Lib.hid hno; clear hno
    go_wp2_with fail
    refine (copySyntax_calls k n s x ds xa xc a cap ms _ hB HI.out (HX.out.below (by (repeat (first | with_reducible assumption | with_reducible exact Below.refl _ _ | with_reducible refine Below.drew ?_ | with_reducible refine belowDrewN ?_ _ | ((with_reducible refine Below.setCell ?_ ?_ _); rotate_left; focus (first | omega | (simp; done) | (simp; omega))) | ((with_reducible refine Below.alloc ?_ ?_ _); rotate_left; focus (first | omega | (simp; done) | (simp; omega))) | ((with_reducible refine Below.trans ?_ (Below.mono hb1 ?_)); rotate_left; focus (first | omega | (simp; done) | (simp; omega))))))) (HIN.out.below (by (repeat (first | with_reducible assumption | with_reducible exact Below.refl _ _ | with_reducible refine Below.drew ?_ | with_reducible refine belowDrewN ?_ _ | ((with_reducible refine Below.setCell ?_ ?_ _); rotate_left; focus (first | omega | (simp; done) | (simp; omega))) | ((with_reducible refine Below.alloc ?_ ?_ _); rotate_left; focus (first | omega | (simp; done) | (simp; omega))) | ((with_reducible refine Below.trans ?_ (Below.mono hb1 ?_)); rotate_left; focus (first | omega | (simp; done) | (simp; omega)))))))).mono ?_
    rintro e w2 ⟨xa2, xc2, a2, cap2, ms2, rfl, hi2, hm2, hb2⟩
    obtain ⟨hc2, hf2⟩ := bcell hb2; have hz2 := hb2.size; (try simp only [World.size_alloc, World.size_setCell, World.size_drew, sizeDrewN] at hz2 hc2 hf2)
    simp only [Syn.k_mk, Syn.n_mk, Syn.s_mk, Syn.x_mk, Syn.ds_mk] at hi2 hm2 ⊢
    have hr : SBox (w.heap.size + 1) 0 0 ⟨#[]⟩ (.slice none 0 0) (.slice none 0 0) w2 := SBox.below ⟨r0, r1, r2, r3, r4, g0, g1, g2, g3, g4⟩ hb2 (by omega)
    obtain ⟨s0, s1, s2, s3, s4, h0, h1, h2, h3, h4⟩ := hr
    have HI2 := Lib.hid hi2; clear hi2; have HM2 := Lib.hid hm2; clear hm2
    clear hc2 hf2
    go_wp2_with fail
    refine bodyPost_ret (v := .agg #[.int .i64 k, .int .i64 n, .string s, .slice xa2 (x).length xc2, .slice a2 ms2.length cap2]) (by simp [results, Try.results18, go_sem, s0, s1, s2, s3, s4]) rfl ?_
    rw [HNO.out, mapGx_no, mapGd_no]
    exact ⟨xa2, xc2, a2, cap2, ms2, rfl, HI2.out, by (exact M.Mine.mono (M.Mine.keep HM2.out (fun b hb1 hb2 => by (try simp at hb1); simp (disch := (first | omega | (simp; omega))) only [heapSet, heapNew, heapDrew, heapDrewN])) (by first | omega | (simp; done) | (simp; omega))), by (repeat (first | with_reducible assumption | with_reducible exact Below.refl _ _ | with_reducible refine Below.drew ?_ | with_reducible refine belowDrewN ?_ _ | ((with_reducible refine Below.setCell ?_ ?_ _); rotate_left; focus (first | omega | (simp; done) | (simp; omega))) | ((with_reducible refine Below.alloc ?_ ?_ _); rotate_left; focus (first | omega | (simp; done) | (simp; omega))) | ((with_reducible refine Below.trans ?_ (Below.mono hb1 ?_)); rotate_left; focus (first | omega | (simp; done) | (simp; omega))) | ((with_reducible refine Below.trans ?_ (Below.mono hb2 ?_)); rotate_left; focus (first | omega | (simp; done) | (simp; omega)))))⟩
  | true =>
    go_wp2_with fail
    refine (iKindOfScope_calls m _).mono ?_
    rintro e w3 ⟨rfl, rfl⟩
    by_cases hk0 : kindS m = 0
    · have hk0b : (kindS m == 0) = true := by simp [hk0]
      have hno : (isSynB k n s x ds && !(kindS m == 0)) = false := by rw [hv, hk0b]; rfl
      have HK0 := Lib.hid hk0; clear hk0
      have HV := Lib.hid hv; clear hv; have HNO := Lib.hid hno; clear hno
      go_wp2_with fail
      refine (copySyntax_calls k n s x ds xa xc a cap ms _ hB HI.out (HX.out.below (by (repeat (first | with_reducible assumption | with_reducible exact Below.refl _ _ | with_reducible refine Below.drew ?_ | with_reducible refine belowDrewN ?_ _ | ((with_reducible refine Below.setCell ?_ ?_ _); rotate_left; focus (first | omega | (simp; done) | (simp; omega))) | ((with_reducible refine Below.alloc ?_ ?_ _); rotate_left; focus (first | omega | (simp; done) | (simp; omega))) | ((with_reducible refine Below.trans ?_ (Below.mono hb1 ?_)); rotate_left; focus (first | omega | (simp; done) | (simp; omega))))))) (HIN.out.below (by (repeat (first | with_reducible assumption | with_reducible exact Below.refl _ _ | with_reducible refine Below.drew ?_ | with_reducible refine belowDrewN ?_ _ | ((with_reducible refine Below.setCell ?_ ?_ _); rotate_left; focus (first | omega | (simp; done) | (simp; omega))) | ((with_reducible refine Below.alloc ?_ ?_ _); rotate_left; focus (first | omega | (simp; done) | (simp; omega))) | ((with_reducible refine Below.trans ?_ (Below.mono hb1 ?_)); rotate_left; focus (first | omega | (simp; done) | (simp; omega)))))))).mono ?_
      rintro e w2 ⟨xa2, xc2, a2, cap2, ms2, rfl, hi2, hm2, hb2⟩
      obtain ⟨hc2, hf2⟩ := bcell hb2; have hz2 := hb2.size; (try simp only [World.size_alloc, World.size_setCell, World.size_drew, sizeDrewN] at hz2 hc2 hf2)
      simp only [Syn.k_mk, Syn.n_mk, Syn.s_mk, Syn.x_mk, Syn.ds_mk] at hi2 hm2 ⊢
      have hr : SBox (w.heap.size + 1) 0 0 ⟨#[]⟩ (.slice none 0 0) (.slice none 0 0) w2 := SBox.below ⟨r0, r1, r2, r3, r4, g0, g1, g2, g3, g4⟩ hb2 (by omega)
      obtain ⟨s0, s1, s2, s3, s4, h0, h1, h2, h3, h4⟩ := hr
      have HI2 := Lib.hid hi2; clear hi2; have HM2 := Lib.hid hm2; clear hm2
      clear hc2 hf2
      go_wp2_with fail
      refine bodyPost_ret (v := .agg #[.int .i64 k, .int .i64 n, .string s, .slice xa2 (x).length xc2, .slice a2 ms2.length cap2]) (by simp [results, Try.results18, go_sem, s0, s1, s2, s3, s4]) rfl ?_
      rw [HNO.out, mapGx_no, mapGd_no]
      exact ⟨xa2, xc2, a2, cap2, ms2, rfl, HI2.out, by (exact M.Mine.mono (M.Mine.keep HM2.out (fun b hb1 hb2 => by (try simp at hb1); simp (disch := (first | omega | (simp; omega))) only [heapSet, heapNew, heapDrew, heapDrewN])) (by first | omega | (simp; done) | (simp; omega))), by (repeat (first | with_reducible assumption | with_reducible exact Below.refl _ _ | with_reducible refine Below.drew ?_ | with_reducible refine belowDrewN ?_ _ | ((with_reducible refine Below.setCell ?_ ?_ _); rotate_left; focus (first | omega | (simp; done) | (simp; omega))) | ((with_reducible refine Below.alloc ?_ ?_ _); rotate_left; focus (first | omega | (simp; done) | (simp; omega))) | ((with_reducible refine Below.trans ?_ (Below.mono hb1 ?_)); rotate_left; focus (first | omega | (simp; done) | (simp; omega))) | ((with_reducible refine Below.trans ?_ (Below.mono hb2 ?_)); rotate_left; focus (first | omega | (simp; done) | (simp; omega)))))⟩
    · have hk0b : (kindS m == 0) = false := by simp [hk0]
      have hno : (isSynB k n s x ds && !(kindS m == 0)) = true := by rw [hv, hk0b]; rfl
      have hkd : kindS m ≠ 0 := hk0
      have HK0 := Lib.hid hk0; clear hk0
      have HV := Lib.hid hv; clear hv; have HNO := Lib.hid hno; clear hno; have HKD := Lib.hid hkd; clear hkd
      go_wp2_with fail
      refine (addScope_calls k n s x ds xa xc a cap ms m _ hB HI.out (HX.out.below (by (repeat (first | with_reducible assumption | with_reducible exact Below.refl _ _ | with_reducible refine Below.drew ?_ | with_reducible refine belowDrewN ?_ _ | ((with_reducible refine Below.setCell ?_ ?_ _); rotate_left; focus (first | omega | (simp; done) | (simp; omega))) | ((with_reducible refine Below.alloc ?_ ?_ _); rotate_left; focus (first | omega | (simp; done) | (simp; omega))) | ((with_reducible refine Below.trans ?_ (Below.mono hb1 ?_)); rotate_left; focus (first | omega | (simp; done) | (simp; omega))))))) (HIN.out.below (by (repeat (first | with_reducible assumption | with_reducible exact Below.refl _ _ | with_reducible refine Below.drew ?_ | with_reducible refine belowDrewN ?_ _ | ((with_reducible refine Below.setCell ?_ ?_ _); rotate_left; focus (first | omega | (simp; done) | (simp; omega))) | ((with_reducible refine Below.alloc ?_ ?_ _); rotate_left; focus (first | omega | (simp; done) | (simp; omega))) | ((with_reducible refine Below.trans ?_ (Below.mono hb1 ?_)); rotate_left; focus (first | omega | (simp; done) | (simp; omega)))))))).mono ?_
      rintro e w2 ⟨xa2, xc2, a2, cap2, ms2, rfl, hi2, hm2, hb2⟩
      obtain ⟨hc2, hf2⟩ := bcell hb2; have hz2 := hb2.size; (try simp only [World.size_alloc, World.size_setCell, World.size_drew, sizeDrewN] at hz2 hc2 hf2)
      simp only [Syn.k_mk, Syn.n_mk, Syn.s_mk, Syn.x_mk, Syn.ds_mk] at hi2 hm2 ⊢
      have hr : SBox (w.heap.size + 1) 0 0 ⟨#[]⟩ (.slice none 0 0) (.slice none 0 0) w2 := SBox.below ⟨r0, r1, r2, r3, r4, g0, g1, g2, g3, g4⟩ hb2 (by omega)
      obtain ⟨s0, s1, s2, s3, s4, h0, h1, h2, h3, h4⟩ := hr
      have HI2 := Lib.hid hi2; clear hi2; have HM2 := Lib.hid hm2; clear hm2
      clear hc2 hf2
      go_wp2_with fail
      refine bodyPost_ret (v := .agg #[.int .i64 k, .int .i64 n, .string s, .slice xa2 (mapX (put m) k x).length xc2, .slice a2 ms2.length cap2]) (by simp [results, Try.results18, go_sem, s0, s1, s2, s3, s4]) rfl ?_
      rw [HNO.out, mapGx_yes, mapGd_yes]
      exact ⟨xa2, xc2, a2, cap2, ms2, rfl, HI2.out, by (exact M.Mine.mono (M.Mine.keep HM2.out (fun b hb1 hb2 => by (try simp at hb1); simp (disch := (first | omega | (simp; omega))) only [heapSet, heapNew, heapDrew, heapDrewN])) (by first | omega | (simp; done) | (simp; omega))), by (repeat (first | with_reducible assumption | with_reducible exact Below.refl _ _ | with_reducible refine Below.drew ?_ | with_reducible refine belowDrewN ?_ _ | ((with_reducible refine Below.setCell ?_ ?_ _); rotate_left; focus (first | omega | (simp; done) | (simp; omega))) | ((with_reducible refine Below.alloc ?_ ?_ _); rotate_left; focus (first | omega | (simp; done) | (simp; omega))) | ((with_reducible refine Below.trans ?_ (Below.mono hb1 ?_)); rotate_left; focus (first | omega | (simp; done) | (simp; omega))) | ((with_reducible refine Below.trans ?_ (Below.mono hb2 ?_)); rotate_left; focus (first | omega | (simp; done) | (simp; omega)))))⟩
end Go.Proofs.Ytghbnehocggnnaa

/-
  Walks: FlipScope. No condition. (printed by wip/tools/mkm5.py)
-/
set_option linter.unusedVariables false
set_option linter.unusedSimpArgs false
set_option maxRecDepth 100000
namespace Go.Proofs.Ytghbnehocggnnaa
open Go.RowKit

theorem isSynB_ok {k n : Int} {s : ByteArray} {x : List Int} {ds : List Syn} (h : isSynB k n s x ds = true) : (Syn.mk k n s x ds).ok := by classical (have h2 : IsSynP k n s x ds := by unfold isSynB at h; simpa using h); exact h2.2.2
theorem flip_same {m : Int} (hm : kindS m ≠ 0) : ∀ y, ssB y = true → (flipTo m) y = (flipSo m) y := fun y hy => by simp [flipTo, flipSo, flipS, hy, hm]
set_option maxHeartbeats 1000000 in
theorem iFlipScope_calls (k n : Int) (s : ByteArray) (x : List Int) (ds : List Syn) (xa : Option Addr) (xc : Nat) (a : Option Addr) (cap : Nat) (ms : List M) (m : Int) (w : World) (hwf : (Syn.mk k n s x ds).wf) (hcB : Syn.countL ds ≤ 1000000000) (hB : s.size + (x.length + (ds.length + Syn.wtX ds)) ≤ 2000000) (hi : Syn.IsL 27 ds ms) (hown : (SynOwn 27 xa xc x a cap ms).In w) :
    Calls Try.prog 19 #[.agg #[.int .i64 k, .int .i64 n, .string s, .slice xa x.length xc, .slice a ms.length cap], .int .i64 m] w (RetSyn 27 (.mk k n s (mapGx (isSynB k n s x ds && !(kindS m == 0)) (flipSo m) k x) (mapGd (isSynB k n s x ds && !(kindS m == 0)) (flipSo m) ds)) w) := by
  have hx := SynIn_x hown
  have hin := SynIn_ms hown
  have hcap := hin.len
  have hxl := Ints.len hx
  have HI := Lib.hid hi; clear hi; have HX := Lib.hid hx; clear hx; have HIN := Lib.hid hin; clear hin; have HOWN := Lib.hid hown; clear hown; have HWF := Lib.hid hwf; clear hwf
  go_enter Try.func19, Try.ntmps19
  go_wp2_with fail
  refine (iIsSyntax_calls k n s x ds xa xc a cap ms _ HWF.out hcB HI.out (HOWN.out.below (by (repeat (first | with_reducible assumption | with_reducible exact Below.refl _ _ | with_reducible refine Below.drew ?_ | with_reducible refine belowDrewN ?_ _ | ((with_reducible refine Below.setCell ?_ ?_ _); rotate_left; focus (first | omega | (simp; done) | (simp; omega))) | ((with_reducible refine Below.alloc ?_ ?_ _); rotate_left; focus (first | omega | (simp; done) | (simp; omega)))))))).mono ?_
  rintro e w1 ⟨rfl, hb1⟩
  obtain ⟨hc1, hf1⟩ := bcell hb1; have hz1 := hb1.size; (try simp only [World.size_alloc, World.size_setCell, World.size_drew, sizeDrewN] at hz1 hc1 hf1)
  have p0 : w.heap.size < w1.heap.size := by omega
  have p1 : w.heap.size + 1 < w1.heap.size := by omega
  have hq : SBox w.heap.size k n s (.slice xa x.length xc) (.slice a ms.length cap) w1 := by constructor <;> first | (simp (disch := omega) [hc1, hf1, go_sem]; done) | (simp (disch := omega) [hc1, hf1, go_sem]; rfl)
  have hr : SBox (w.heap.size + 1) 0 0 ⟨#[]⟩ (.slice none 0 0) (.slice none 0 0) w1 := by constructor <;> first | (simp (disch := omega) [hc1, hf1, go_sem]; done) | (simp (disch := omega) [hc1, hf1, go_sem]; rfl)
  obtain ⟨q0, q1, q2, q3, q4, e0, e1, e2, e3, e4⟩ := hq
  obtain ⟨r0, r1, r2, r3, r4, g0, g1, g2, g3, g4⟩ := hr
  clear hc1 hf1
  cases hv : isSynB k n s x ds with
  | false =>
    have hno : (isSynB k n s x ds && !(kindS m == 0)) = false := by rw [hv]; rfl
    have HV := Lib.hid hv; clear hv; have HNO := Lib.hid hno; clear hno
    go_wp2_with fail
    refine (copySyntax_calls k n s x ds xa xc a cap ms _ hB HI.out (HX.out.below (by (repeat (first | with_reducible assumption | with_reducible exact Below.refl _ _ | with_reducible refine Below.drew ?_ | with_reducible refine belowDrewN ?_ _ | ((with_reducible refine Below.setCell ?_ ?_ _); rotate_left; focus (first | omega | (simp; done) | (simp; omega))) | ((with_reducible refine Below.alloc ?_ ?_ _); rotate_left; focus (first | omega | (simp; done) | (simp; omega))) | ((with_reducible refine Below.trans ?_ (Below.mono hb1 ?_)); rotate_left; focus (first | omega | (simp; done) | (simp; omega))))))) (HIN.out.below (by (repeat (first | with_reducible assumption | with_reducible exact Below.refl _ _ | with_reducible refine Below.drew ?_ | with_reducible refine belowDrewN ?_ _ | ((with_reducible refine Below.setCell ?_ ?_ _); rotate_left; focus (first | omega | (simp; done) | (simp; omega))) | ((with_reducible refine Below.alloc ?_ ?_ _); rotate_left; focus (first | omega | (simp; done) | (simp; omega))) | ((with_reducible refine Below.trans ?_ (Below.mono hb1 ?_)); rotate_left; focus (first | omega | (simp; done) | (simp; omega)))))))).mono ?_
    rintro e w2 ⟨xa2, xc2, a2, cap2, ms2, rfl, hi2, hm2, hb2⟩
    obtain ⟨hc2, hf2⟩ := bcell hb2; have hz2 := hb2.size; (try simp only [World.size_alloc, World.size_setCell, World.size_drew, sizeDrewN] at hz2 hc2 hf2)
    simp only [Syn.k_mk, Syn.n_mk, Syn.s_mk, Syn.x_mk, Syn.ds_mk] at hi2 hm2 ⊢
    have hr : SBox (w.heap.size + 1) 0 0 ⟨#[]⟩ (.slice none 0 0) (.slice none 0 0) w2 := SBox.below ⟨r0, r1, r2, r3, r4, g0, g1, g2, g3, g4⟩ hb2 (by omega)
    obtain ⟨s0, s1, s2, s3, s4, h0, h1, h2, h3, h4⟩ := hr
    have HI2 := Lib.hid hi2; clear hi2; have HM2 := Lib.hid hm2; clear hm2
    clear hc2 hf2
    go_wp2_with fail
    refine bodyPost_ret (v := .agg #[.int .i64 k, .int .i64 n, .string s, .slice xa2 (x).length xc2, .slice a2 ms2.length cap2]) (by simp [results, Try.results19, go_sem, s0, s1, s2, s3, s4]) rfl ?_
    rw [HNO.out, mapGx_no, mapGd_no]
    exact ⟨xa2, xc2, a2, cap2, ms2, rfl, HI2.out, by (exact M.Mine.mono (M.Mine.keep HM2.out (fun b hb1 hb2 => by (try simp at hb1); simp (disch := (first | omega | (simp; omega))) only [heapSet, heapNew, heapDrew, heapDrewN])) (by first | omega | (simp; done) | (simp; omega))), by (repeat (first | with_reducible assumption | with_reducible exact Below.refl _ _ | with_reducible refine Below.drew ?_ | with_reducible refine belowDrewN ?_ _ | ((with_reducible refine Below.setCell ?_ ?_ _); rotate_left; focus (first | omega | (simp; done) | (simp; omega))) | ((with_reducible refine Below.alloc ?_ ?_ _); rotate_left; focus (first | omega | (simp; done) | (simp; omega))) | ((with_reducible refine Below.trans ?_ (Below.mono hb1 ?_)); rotate_left; focus (first | omega | (simp; done) | (simp; omega))) | ((with_reducible refine Below.trans ?_ (Below.mono hb2 ?_)); rotate_left; focus (first | omega | (simp; done) | (simp; omega)))))⟩
  | true =>
    go_wp2_with fail
    refine (iKindOfScope_calls m _).mono ?_
    rintro e w3 ⟨rfl, rfl⟩
    by_cases hk0 : kindS m = 0
    · have hk0b : (kindS m == 0) = true := by simp [hk0]
      have hno : (isSynB k n s x ds && !(kindS m == 0)) = false := by rw [hv, hk0b]; rfl
      have HK0 := Lib.hid hk0; clear hk0
      have HV := Lib.hid hv; clear hv; have HNO := Lib.hid hno; clear hno
      go_wp2_with fail
      refine (copySyntax_calls k n s x ds xa xc a cap ms _ hB HI.out (HX.out.below (by (repeat (first | with_reducible assumption | with_reducible exact Below.refl _ _ | with_reducible refine Below.drew ?_ | with_reducible refine belowDrewN ?_ _ | ((with_reducible refine Below.setCell ?_ ?_ _); rotate_left; focus (first | omega | (simp; done) | (simp; omega))) | ((with_reducible refine Below.alloc ?_ ?_ _); rotate_left; focus (first | omega | (simp; done) | (simp; omega))) | ((with_reducible refine Below.trans ?_ (Below.mono hb1 ?_)); rotate_left; focus (first | omega | (simp; done) | (simp; omega))))))) (HIN.out.below (by (repeat (first | with_reducible assumption | with_reducible exact Below.refl _ _ | with_reducible refine Below.drew ?_ | with_reducible refine belowDrewN ?_ _ | ((with_reducible refine Below.setCell ?_ ?_ _); rotate_left; focus (first | omega | (simp; done) | (simp; omega))) | ((with_reducible refine Below.alloc ?_ ?_ _); rotate_left; focus (first | omega | (simp; done) | (simp; omega))) | ((with_reducible refine Below.trans ?_ (Below.mono hb1 ?_)); rotate_left; focus (first | omega | (simp; done) | (simp; omega)))))))).mono ?_
      rintro e w2 ⟨xa2, xc2, a2, cap2, ms2, rfl, hi2, hm2, hb2⟩
      obtain ⟨hc2, hf2⟩ := bcell hb2; have hz2 := hb2.size; (try simp only [World.size_alloc, World.size_setCell, World.size_drew, sizeDrewN] at hz2 hc2 hf2)
      simp only [Syn.k_mk, Syn.n_mk, Syn.s_mk, Syn.x_mk, Syn.ds_mk] at hi2 hm2 ⊢
      have hr : SBox (w.heap.size + 1) 0 0 ⟨#[]⟩ (.slice none 0 0) (.slice none 0 0) w2 := SBox.below ⟨r0, r1, r2, r3, r4, g0, g1, g2, g3, g4⟩ hb2 (by omega)
      obtain ⟨s0, s1, s2, s3, s4, h0, h1, h2, h3, h4⟩ := hr
      have HI2 := Lib.hid hi2; clear hi2; have HM2 := Lib.hid hm2; clear hm2
      clear hc2 hf2
      go_wp2_with fail
      refine bodyPost_ret (v := .agg #[.int .i64 k, .int .i64 n, .string s, .slice xa2 (x).length xc2, .slice a2 ms2.length cap2]) (by simp [results, Try.results19, go_sem, s0, s1, s2, s3, s4]) rfl ?_
      rw [HNO.out, mapGx_no, mapGd_no]
      exact ⟨xa2, xc2, a2, cap2, ms2, rfl, HI2.out, by (exact M.Mine.mono (M.Mine.keep HM2.out (fun b hb1 hb2 => by (try simp at hb1); simp (disch := (first | omega | (simp; omega))) only [heapSet, heapNew, heapDrew, heapDrewN])) (by first | omega | (simp; done) | (simp; omega))), by (repeat (first | with_reducible assumption | with_reducible exact Below.refl _ _ | with_reducible refine Below.drew ?_ | with_reducible refine belowDrewN ?_ _ | ((with_reducible refine Below.setCell ?_ ?_ _); rotate_left; focus (first | omega | (simp; done) | (simp; omega))) | ((with_reducible refine Below.alloc ?_ ?_ _); rotate_left; focus (first | omega | (simp; done) | (simp; omega))) | ((with_reducible refine Below.trans ?_ (Below.mono hb1 ?_)); rotate_left; focus (first | omega | (simp; done) | (simp; omega))) | ((with_reducible refine Below.trans ?_ (Below.mono hb2 ?_)); rotate_left; focus (first | omega | (simp; done) | (simp; omega)))))⟩
    · have hk0b : (kindS m == 0) = false := by simp [hk0]
      have hno : (isSynB k n s x ds && !(kindS m == 0)) = true := by rw [hv, hk0b]; rfl
      have hkd : kindS m ≠ 0 := hk0
      have HK0 := Lib.hid hk0; clear hk0
      have HV := Lib.hid hv; clear hv; have HNO := Lib.hid hno; clear hno; have HKD := Lib.hid hkd; clear hkd
      go_wp2_with fail
      refine (flipScope_calls k n s x ds xa xc a cap ms m _ hB HI.out (HX.out.below (by (repeat (first | with_reducible assumption | with_reducible exact Below.refl _ _ | with_reducible refine Below.drew ?_ | with_reducible refine belowDrewN ?_ _ | ((with_reducible refine Below.setCell ?_ ?_ _); rotate_left; focus (first | omega | (simp; done) | (simp; omega))) | ((with_reducible refine Below.alloc ?_ ?_ _); rotate_left; focus (first | omega | (simp; done) | (simp; omega))) | ((with_reducible refine Below.trans ?_ (Below.mono hb1 ?_)); rotate_left; focus (first | omega | (simp; done) | (simp; omega))))))) (HIN.out.below (by (repeat (first | with_reducible assumption | with_reducible exact Below.refl _ _ | with_reducible refine Below.drew ?_ | with_reducible refine belowDrewN ?_ _ | ((with_reducible refine Below.setCell ?_ ?_ _); rotate_left; focus (first | omega | (simp; done) | (simp; omega))) | ((with_reducible refine Below.alloc ?_ ?_ _); rotate_left; focus (first | omega | (simp; done) | (simp; omega))) | ((with_reducible refine Below.trans ?_ (Below.mono hb1 ?_)); rotate_left; focus (first | omega | (simp; done) | (simp; omega)))))))).mono ?_
      rintro e w2 ⟨xa2, xc2, a2, cap2, ms2, rfl, hi2, hm2, hb2⟩
      obtain ⟨hc2, hf2⟩ := bcell hb2; have hz2 := hb2.size; (try simp only [World.size_alloc, World.size_setCell, World.size_drew, sizeDrewN] at hz2 hc2 hf2)
      simp only [Syn.k_mk, Syn.n_mk, Syn.s_mk, Syn.x_mk, Syn.ds_mk] at hi2 hm2 ⊢
      have hr : SBox (w.heap.size + 1) 0 0 ⟨#[]⟩ (.slice none 0 0) (.slice none 0 0) w2 := SBox.below ⟨r0, r1, r2, r3, r4, g0, g1, g2, g3, g4⟩ hb2 (by omega)
      obtain ⟨s0, s1, s2, s3, s4, h0, h1, h2, h3, h4⟩ := hr
      have HI2 := Lib.hid hi2; clear hi2; have HM2 := Lib.hid hm2; clear hm2
      clear hc2 hf2
      go_wp2_with fail
      refine bodyPost_ret (v := .agg #[.int .i64 k, .int .i64 n, .string s, .slice xa2 (mapX (flipSo m) k x).length xc2, .slice a2 ms2.length cap2]) (by simp [results, Try.results19, go_sem, s0, s1, s2, s3, s4]) rfl ?_
      rw [HNO.out, mapGx_yes, mapGd_yes]
      exact ⟨xa2, xc2, a2, cap2, ms2, rfl, HI2.out, by (exact M.Mine.mono (M.Mine.keep HM2.out (fun b hb1 hb2 => by (try simp at hb1); simp (disch := (first | omega | (simp; omega))) only [heapSet, heapNew, heapDrew, heapDrewN])) (by first | omega | (simp; done) | (simp; omega))), by (repeat (first | with_reducible assumption | with_reducible exact Below.refl _ _ | with_reducible refine Below.drew ?_ | with_reducible refine belowDrewN ?_ _ | ((with_reducible refine Below.setCell ?_ ?_ _); rotate_left; focus (first | omega | (simp; done) | (simp; omega))) | ((with_reducible refine Below.alloc ?_ ?_ _); rotate_left; focus (first | omega | (simp; done) | (simp; omega))) | ((with_reducible refine Below.trans ?_ (Below.mono hb1 ?_)); rotate_left; focus (first | omega | (simp; done) | (simp; omega))) | ((with_reducible refine Below.trans ?_ (Below.mono hb2 ?_)); rotate_left; focus (first | omega | (simp; done) | (simp; omega)))))⟩
end Go.Proofs.Ytghbnehocggnnaa

/-
  Walks: StripUses. No condition. (printed by wip/tools/mkm5.py)
-/
set_option linter.unusedVariables false
set_option linter.unusedSimpArgs false
set_option maxRecDepth 100000
namespace Go.Proofs.Ytghbnehocggnnaa
open Go.RowKit

theorem isSynB_ok2 {k n : Int} {s : ByteArray} {x : List Int} {ds : List Syn} (h : isSynB k n s x ds = true) : (Syn.mk k n s x ds).ok := by classical (have h2 : IsSynP k n s x ds := by unfold isSynB at h; simpa using h); exact h2.2.2
theorem strip_same : ∀ y, ssB y = true → noUse y = woUse y := fun y hy => by simp [woUse, hy]
set_option maxHeartbeats 1000000 in
theorem iStripUses_calls (k n : Int) (s : ByteArray) (x : List Int) (ds : List Syn) (xa : Option Addr) (xc : Nat) (a : Option Addr) (cap : Nat) (ms : List M) (w : World) (hwf : (Syn.mk k n s x ds).wf) (hcB : Syn.countL ds ≤ 1000000000) (hB : s.size + (x.length + (ds.length + Syn.wtX ds)) ≤ 2000000) (hi : Syn.IsL 27 ds ms) (hown : (SynOwn 27 xa xc x a cap ms).In w) :
    Calls Try.prog 25 #[.agg #[.int .i64 k, .int .i64 n, .string s, .slice xa x.length xc, .slice a ms.length cap]] w (RetSyn 27 (.mk k n s (mapGx (isSynB k n s x ds) (woUse) k x) (mapGd (isSynB k n s x ds) (woUse) ds)) w) := by
  have hx := SynIn_x hown
  have hin := SynIn_ms hown
  have hcap := hin.len
  have hxl := Ints.len hx
  have HI := Lib.hid hi; clear hi; have HX := Lib.hid hx; clear hx; have HIN := Lib.hid hin; clear hin; have HOWN := Lib.hid hown; clear hown; have HWF := Lib.hid hwf; clear hwf
  go_enter Try.func25, Try.ntmps25
  go_wp2_with fail
  refine (iIsSyntax_calls k n s x ds xa xc a cap ms _ HWF.out hcB HI.out (HOWN.out.below (by (repeat (first | with_reducible assumption | with_reducible exact Below.refl _ _ | with_reducible refine Below.drew ?_ | with_reducible refine belowDrewN ?_ _ | ((with_reducible refine Below.setCell ?_ ?_ _); rotate_left; focus (first | omega | (simp; done) | (simp; omega))) | ((with_reducible refine Below.alloc ?_ ?_ _); rotate_left; focus (first | omega | (simp; done) | (simp; omega)))))))).mono ?_
  rintro e w1 ⟨rfl, hb1⟩
  obtain ⟨hc1, hf1⟩ := bcell hb1; have hz1 := hb1.size; (try simp only [World.size_alloc, World.size_setCell, World.size_drew, sizeDrewN] at hz1 hc1 hf1)
  have p0 : w.heap.size < w1.heap.size := by omega
  have p1 : w.heap.size + 1 < w1.heap.size := by omega
  have hq : SBox w.heap.size k n s (.slice xa x.length xc) (.slice a ms.length cap) w1 := by constructor <;> first | (simp (disch := omega) [hc1, hf1, go_sem]; done) | (simp (disch := omega) [hc1, hf1, go_sem]; rfl)
  have hr : SBox (w.heap.size + 1) 0 0 ⟨#[]⟩ (.slice none 0 0) (.slice none 0 0) w1 := by constructor <;> first | (simp (disch := omega) [hc1, hf1, go_sem]; done) | (simp (disch := omega) [hc1, hf1, go_sem]; rfl)
  obtain ⟨q0, q1, q2, q3, q4, e0, e1, e2, e3, e4⟩ := hq
  obtain ⟨r0, r1, r2, r3, r4, g0, g1, g2, g3, g4⟩ := hr
  clear hc1 hf1
  cases hv : isSynB k n s x ds with
  | false =>
    have hno : (isSynB k n s x ds) = false := by rw [hv]
    have HV := Lib.hid hv; clear hv; have HNO := Lib.hid hno; clear hno
    go_wp2_with fail
    refine (copySyntax_calls k n s x ds xa xc a cap ms _ hB HI.out (HX.out.below (by (repeat (first | with_reducible assumption | with_reducible exact Below.refl _ _ | with_reducible refine Below.drew ?_ | with_reducible refine belowDrewN ?_ _ | ((with_reducible refine Below.setCell ?_ ?_ _); rotate_left; focus (first | omega | (simp; done) | (simp; omega))) | ((with_reducible refine Below.alloc ?_ ?_ _); rotate_left; focus (first | omega | (simp; done) | (simp; omega))) | ((with_reducible refine Below.trans ?_ (Below.mono hb1 ?_)); rotate_left; focus (first | omega | (simp; done) | (simp; omega))))))) (HIN.out.below (by (repeat (first | with_reducible assumption | with_reducible exact Below.refl _ _ | with_reducible refine Below.drew ?_ | with_reducible refine belowDrewN ?_ _ | ((with_reducible refine Below.setCell ?_ ?_ _); rotate_left; focus (first | omega | (simp; done) | (simp; omega))) | ((with_reducible refine Below.alloc ?_ ?_ _); rotate_left; focus (first | omega | (simp; done) | (simp; omega))) | ((with_reducible refine Below.trans ?_ (Below.mono hb1 ?_)); rotate_left; focus (first | omega | (simp; done) | (simp; omega)))))))).mono ?_
    rintro e w2 ⟨xa2, xc2, a2, cap2, ms2, rfl, hi2, hm2, hb2⟩
    obtain ⟨hc2, hf2⟩ := bcell hb2; have hz2 := hb2.size; (try simp only [World.size_alloc, World.size_setCell, World.size_drew, sizeDrewN] at hz2 hc2 hf2)
    simp only [Syn.k_mk, Syn.n_mk, Syn.s_mk, Syn.x_mk, Syn.ds_mk] at hi2 hm2 ⊢
    have hr : SBox (w.heap.size + 1) 0 0 ⟨#[]⟩ (.slice none 0 0) (.slice none 0 0) w2 := SBox.below ⟨r0, r1, r2, r3, r4, g0, g1, g2, g3, g4⟩ hb2 (by omega)
    obtain ⟨s0, s1, s2, s3, s4, h0, h1, h2, h3, h4⟩ := hr
    have HI2 := Lib.hid hi2; clear hi2; have HM2 := Lib.hid hm2; clear hm2
    clear hc2 hf2
    go_wp2_with fail
    refine bodyPost_ret (v := .agg #[.int .i64 k, .int .i64 n, .string s, .slice xa2 (x).length xc2, .slice a2 ms2.length cap2]) (by simp [results, Try.results25, go_sem, s0, s1, s2, s3, s4]) rfl ?_
    rw [HV.out, mapGx_no, mapGd_no]
    exact ⟨xa2, xc2, a2, cap2, ms2, rfl, HI2.out, by (exact M.Mine.mono (M.Mine.keep HM2.out (fun b hb1 hb2 => by (try simp at hb1); simp (disch := (first | omega | (simp; omega))) only [heapSet, heapNew, heapDrew, heapDrewN])) (by first | omega | (simp; done) | (simp; omega))), by (repeat (first | with_reducible assumption | with_reducible exact Below.refl _ _ | with_reducible refine Below.drew ?_ | with_reducible refine belowDrewN ?_ _ | ((with_reducible refine Below.setCell ?_ ?_ _); rotate_left; focus (first | omega | (simp; done) | (simp; omega))) | ((with_reducible refine Below.alloc ?_ ?_ _); rotate_left; focus (first | omega | (simp; done) | (simp; omega))) | ((with_reducible refine Below.trans ?_ (Below.mono hb1 ?_)); rotate_left; focus (first | omega | (simp; done) | (simp; omega))) | ((with_reducible refine Below.trans ?_ (Below.mono hb2 ?_)); rotate_left; focus (first | omega | (simp; done) | (simp; omega)))))⟩
  | true =>
    have HV := Lib.hid hv; clear hv
    go_wp2_with fail
    refine (iMapStrip_calls ds k n s x xa xc a cap ms _ hB HI.out (HX.out.below (by (repeat (first | with_reducible assumption | with_reducible exact Below.refl _ _ | with_reducible refine Below.drew ?_ | with_reducible refine belowDrewN ?_ _ | ((with_reducible refine Below.setCell ?_ ?_ _); rotate_left; focus (first | omega | (simp; done) | (simp; omega))) | ((with_reducible refine Below.alloc ?_ ?_ _); rotate_left; focus (first | omega | (simp; done) | (simp; omega))) | ((with_reducible refine Below.trans ?_ (Below.mono hb1 ?_)); rotate_left; focus (first | omega | (simp; done) | (simp; omega))))))) (HIN.out.below (by (repeat (first | with_reducible assumption | with_reducible exact Below.refl _ _ | with_reducible refine Below.drew ?_ | with_reducible refine belowDrewN ?_ _ | ((with_reducible refine Below.setCell ?_ ?_ _); rotate_left; focus (first | omega | (simp; done) | (simp; omega))) | ((with_reducible refine Below.alloc ?_ ?_ _); rotate_left; focus (first | omega | (simp; done) | (simp; omega))) | ((with_reducible refine Below.trans ?_ (Below.mono hb1 ?_)); rotate_left; focus (first | omega | (simp; done) | (simp; omega)))))))).mono ?_
    rintro e w2 ⟨xa2, xc2, a2, cap2, ms2, rfl, hi2, hm2, hb2⟩
    obtain ⟨hc2, hf2⟩ := bcell hb2; have hz2 := hb2.size; (try simp only [World.size_alloc, World.size_setCell, World.size_drew, sizeDrewN] at hz2 hc2 hf2)
    simp only [Syn.k_mk, Syn.n_mk, Syn.s_mk, Syn.x_mk, Syn.ds_mk] at hi2 hm2 ⊢
    have hr : SBox (w.heap.size + 1) 0 0 ⟨#[]⟩ (.slice none 0 0) (.slice none 0 0) w2 := SBox.below ⟨r0, r1, r2, r3, r4, g0, g1, g2, g3, g4⟩ hb2 (by omega)
    obtain ⟨s0, s1, s2, s3, s4, h0, h1, h2, h3, h4⟩ := hr
    have HI2 := Lib.hid hi2; clear hi2; have HM2 := Lib.hid hm2; clear hm2
    clear hc2 hf2
    go_wp2_with fail
    refine bodyPost_ret (v := .agg #[.int .i64 k, .int .i64 n, .string s, .slice xa2 (mapX (woUse) k x).length xc2, .slice a2 ms2.length cap2]) (by simp [results, Try.results25, go_sem, s0, s1, s2, s3, s4]) rfl ?_
    rw [HV.out, mapGx_yes, mapGd_yes]
    exact ⟨xa2, xc2, a2, cap2, ms2, rfl, HI2.out, by (exact M.Mine.mono (M.Mine.keep HM2.out (fun b hb1 hb2 => by (try simp at hb1); simp (disch := (first | omega | (simp; omega))) only [heapSet, heapNew, heapDrew, heapDrewN])) (by first | omega | (simp; done) | (simp; omega))), by (repeat (first | with_reducible assumption | with_reducible exact Below.refl _ _ | with_reducible refine Below.drew ?_ | with_reducible refine belowDrewN ?_ _ | ((with_reducible refine Below.setCell ?_ ?_ _); rotate_left; focus (first | omega | (simp; done) | (simp; omega))) | ((with_reducible refine Below.alloc ?_ ?_ _); rotate_left; focus (first | omega | (simp; done) | (simp; omega))) | ((with_reducible refine Below.trans ?_ (Below.mono hb1 ?_)); rotate_left; focus (first | omega | (simp; done) | (simp; omega))) | ((with_reducible refine Below.trans ?_ (Below.mono hb2 ?_)); rotate_left; focus (first | omega | (simp; done) | (simp; omega)))))⟩
end Go.Proofs.Ytghbnehocggnnaa

/-
  Walks: is an identifier in a list. No condition.
-/
set_option linter.unusedVariables false
set_option linter.unusedSimpArgs false
set_option maxRecDepth 100000
namespace Go.Proofs.Ytghbnehocggnnaa
open Go.RowKit

end Go.Proofs.Ytghbnehocggnnaa
