/-
  Walks: captures copied and compared by the law. No condition.
-/
import Derived.Test.YtigmgfinjapchaaCP1
set_option linter.unusedVariables false
set_option linter.unusedSimpArgs false
set_option maxRecDepth 100000
namespace Go.Proofs.Ytigmgfinjapchaa
open Go.RowKit

def CapOwn (t e : TypeId) (xa1 : Option Addr) (xc1 : Nat) (x1 : List Int) (a1 : Option Addr) (cap1 : Nat) (ms1 : List M) (xa2 : Option Addr) (xc2 : Nat) (x2 : List Int) (a2 : Option Addr) (cap2 : Nat) (ms2 : List M) (a3 : Option Addr) (cap3 : Nat) (ms3 : List M) : M :=
  .ag [SynOwn t xa1 xc1 x1 a1 cap1 ms1, SynOwn t xa2 xc2 x2 a2 cap2 ms2, .sl a3 cap3 12 e ms3]
theorem CapOwn_el {t e : TypeId} {xa1 : Option Addr} {xc1 : Nat} {x1 : List Int} {a1 : Option Addr} {cap1 : Nat} {ms1 : List M} {xa2 : Option Addr} {xc2 : Nat} {x2 : List Int} {a2 : Option Addr} {cap2 : Nat} {ms2 : List M} {a3 : Option Addr} {cap3 : Nat} {ms3 : List M} {w : World} {lo : Nat}
    (h : (CapOwn t e xa1 xc1 x1 a1 cap1 ms1 xa2 xc2 x2 a2 cap2 ms2 a3 cap3 ms3).Mine w lo) (k1 n1 : Int) (s1 : ByteArray) (D k2 n2 : Int) (s2 : ByteArray) :
    (M.ag [.ag [.c (.int .i64 k1), .c (.int .i64 n1), .c (.string s1), .sl xa1 xc1 1 3 (intM x1), .sl a1 cap1 5 t ms1], .c (.int .i64 D), .ag [.c (.int .i64 k2), .c (.int .i64 n2), .c (.string s2), .sl xa2 xc2 1 3 (intM x2), .sl a2 cap2 5 t ms2], .sl a3 cap3 12 e ms3]).Mine w lo :=
  ⟨⟨⟨rfl, rfl, rfl, h.own.1⟩, rfl, ⟨rfl, rfl, rfl, h.own.2.1⟩, h.own.2.2⟩, by simpa [M.blocks, M.blocksL, SynOwn, CapOwn] using h.dup⟩
def zeroCM (t e : TypeId) : M := .ag [zeroSM t, .c (.int .i64 0), zeroSM t, .sl none 0 12 e []]
theorem zeroCM_own (t e : TypeId) (w : World) (lo : Nat) : (zeroCM t e).Own w lo := ⟨zeroSM_own t w lo, rfl, zeroSM_own t w lo, (M.Mine.nil w lo 12 e (by decide)).own, trivial⟩
def zeroCap : Cap := .mk zeroSyn 0 zeroSyn []
theorem zeroCap_is (t e : TypeId) : zeroCap.Is t e (zeroCM t e) := ⟨zeroSM t, zeroSM t, none, 0, [], rfl, zeroSyn_is t, zeroSyn_is t, rfl⟩
theorem infoCap : (Try.prog.info? 74).map (fun i => (i.zero, i.size, i.bytes)) = some (some (.agg #[.int .i64 0, .int .i64 0, .string ⟨#[]⟩, .slice none 0 0, .slice none 0 0, .int .i64 0, .int .i64 0, .int .i64 0, .string ⟨#[]⟩, .slice none 0 0, .slice none 0 0, .slice none 0 0]), 12, 192) := by kernel_rfl

def RetCap (k1 n1 : Int) (s1 : ByteArray) (x1 : List Int) (ds1 : List Syn) (D : Int) (k2 n2 : Int) (s2 : ByteArray) (x2 : List Int) (ds2 : List Syn) (es : List Cap) (w : World) (en : Ending) (w' : World) : Prop :=
  ∃ xa1 xc1 a1 cap1 ms1 xa2 xc2 a2 cap2 ms2 a3 cap3 ms3, en = .returned (.agg #[.int .i64 k1, .int .i64 n1, .string s1, .slice xa1 x1.length xc1, .slice a1 ms1.length cap1, .int .i64 D, .int .i64 k2, .int .i64 n2, .string s2, .slice xa2 x2.length xc2, .slice a2 ms2.length cap2, .slice a3 ms3.length cap3]) ∧ Syn.IsL 33 ds1 ms1 ∧ Syn.IsL 33 ds2 ms2 ∧ Cap.IsL 33 74 es ms3 ∧ (CapOwn 33 74 xa1 xc1 x1 a1 cap1 ms1 xa2 xc2 x2 a2 cap2 ms2 a3 cap3 ms3).Mine w' w.heap.size ∧ Below w.heap.size w w'
def RetCaps (ds : List Cap) (w : World) (en : Ending) (w' : World) : Prop :=
  ∃ a cap ms, en = .returned (.slice a ms.length cap) ∧ Cap.IsL 33 74 ds ms ∧ (M.sl a cap 12 74 ms).Mine w' w.heap.size ∧ Below w.heap.size w w'
def ToCs (ds : List Cap) : Prop := ∀ (a : Option Addr) (cap : Nat) (ms : List M) (w : World), ds.length + Cap.wtX ds ≤ 1048576 → Cap.IsL 70 72 ds ms → (M.sl a cap 12 72 ms).In w →
    Calls Try.prog 9 #[.slice a ms.length cap] w (RetCaps ds w)

theorem toCapture_of (es : List Cap) (H : ToCs es) (k1 n1 : Int) (s1 : ByteArray) (x1 : List Int) (ds1 : List Syn) (xa1 : Option Addr) (xc1 : Nat) (a1 : Option Addr) (cap1 : Nat) (ms1 : List M) (D : Int) (k2 n2 : Int) (s2 : ByteArray) (x2 : List Int) (ds2 : List Syn) (xa2 : Option Addr) (xc2 : Nat) (a2 : Option Addr) (cap2 : Nat) (ms2 : List M) (a3 : Option Addr) (cap3 : Nat) (ms3 : List M) (w : World)
    (hB : (Cap.mk (.mk k1 n1 s1 x1 ds1) D (.mk k2 n2 s2 x2 ds2) es).wt ≤ 1048576) (hi1 : SynAt 70 w k1 n1 s1 x1 ds1 xa1 xc1 a1 cap1 ms1) (hi2 : SynAt 70 w k2 n2 s2 x2 ds2 xa2 xc2 a2 cap2 ms2) (hi3 : Cap.IsL 70 72 es ms3) (hin3 : (M.sl a3 cap3 12 72 ms3).In w) :
    Calls Try.prog 43 #[.agg #[.int .i64 k1, .int .i64 n1, .string s1, .slice xa1 x1.length xc1, .slice a1 ms1.length cap1, .int .i64 D, .int .i64 k2, .int .i64 n2, .string s2, .slice xa2 x2.length xc2, .slice a2 ms2.length cap2, .slice a3 ms3.length cap3]] w (RetCap k1 n1 s1 x1 ds1 D k2 n2 s2 x2 ds2 es w) := by
  have hwt : (Cap.mk (.mk k1 n1 s1 x1 ds1) D (.mk k2 n2 s2 x2 ds2) es).wt = (Syn.mk k1 n1 s1 x1 ds1).wt + ((Syn.mk k2 n2 s2 x2 ds2).wt + (es.length + Cap.wtX es)) := rfl
  have hB1 : (Syn.mk k1 n1 s1 x1 ds1).wt ≤ 1048576 := by omega
  have hB2 : (Syn.mk k2 n2 s2 x2 ds2).wt ≤ 1048576 := by omega
  have hB3 : es.length + Cap.wtX es ≤ 1048576 := by omega
  have HI1 := Lib.hid hi1; clear hi1; have HI2 := Lib.hid hi2; clear hi2; have HI3 := Lib.hid hi3; clear hi3; have HIN3 := Lib.hid hin3; clear hin3; have HWT := Lib.hid hwt; clear hwt; have H_ := Lib.hid H; clear H; have HB := Lib.hid hB; clear hB; have HB1 := Lib.hid hB1; clear hB1; have HB2 := Lib.hid hB2; clear hB2; have HB3 := Lib.hid hB3; clear hB3
  go_enter Try.func43, Try.ntmps43
  go_wp2_with fail
  refine (toSyntax_w ds1 k1 n1 s1 x1 xa1 xc1 a1 cap1 ms1 _ HB1.out HI1.out.is (HI1.out.at_ (by (repeat (first | with_reducible assumption | with_reducible exact Below.refl _ _ | with_reducible refine Below.drew ?_ | with_reducible refine belowDrewN ?_ _ | ((with_reducible refine Below.setCell ?_ ?_ _); rotate_left; focus (first | omega | (simp; done) | (simp; omega))) | ((with_reducible refine Below.alloc ?_ ?_ _); rotate_left; focus (first | omega | (simp; done) | (simp; omega)))))))).mono ?_
  rintro e w1 ⟨xa1', xc1', a1', cap1', ms1', rfl, hi1', hm1, hb1⟩
  obtain ⟨hc1, hf1⟩ := bcell hb1; have hz1 := hb1.size; (try simp only [World.size_alloc, World.size_setCell, World.size_drew, sizeDrewN] at hz1 hc1 hf1); have hp1_0 : w.heap.size < w1.heap.size := (by omega); have hp1_1 : w.heap.size + 1 < w1.heap.size := (by omega); have hp1_2 : w.heap.size + 2 < w1.heap.size := (by omega)
  have hl1 := hm1.lt_size
  simp only [Syn.k_mk, Syn.n_mk, Syn.s_mk, Syn.x_mk, Syn.ds_mk] at hi1' hm1 hl1
  have HM1 := Lib.hid hm1; clear hm1; have HL1 := Lib.hid hl1; clear hl1; have HI1' := Lib.hid hi1'; clear hi1'
  go_wp2_with fail
  refine (toSyntax_w ds2 k2 n2 s2 x2 xa2 xc2 a2 cap2 ms2 _ HB2.out HI2.out.is (HI2.out.at_ (by (repeat (first | with_reducible assumption | with_reducible exact Below.refl _ _ | with_reducible refine Below.drew ?_ | with_reducible refine belowDrewN ?_ _ | ((with_reducible refine Below.setCell ?_ ?_ _); rotate_left; focus (first | omega | (simp; done) | (simp; omega))) | ((with_reducible refine Below.alloc ?_ ?_ _); rotate_left; focus (first | omega | (simp; done) | (simp; omega))) | ((with_reducible refine Below.trans ?_ (Below.mono hb1 ?_)); rotate_left; focus (first | omega | (simp; done) | (simp; omega)))))))).mono ?_
  rintro e w2 ⟨xa2', xc2', a2', cap2', ms2', rfl, hi2', hm2, hb2⟩
  obtain ⟨hc2, hf2⟩ := bcell hb2; have hz2 := hb2.size; (try simp only [World.size_alloc, World.size_setCell, World.size_drew, sizeDrewN] at hz2 hc2 hf2); have hp2_0 : w.heap.size < w2.heap.size := (by omega); have hp2_1 : w.heap.size + 1 < w2.heap.size := (by omega); have hp2_2 : w.heap.size + 2 < w2.heap.size := (by omega)
  have hl2 := hm2.lt_size
  simp only [Syn.k_mk, Syn.n_mk, Syn.s_mk, Syn.x_mk, Syn.ds_mk] at hi2' hm2 hl2
  have HM2 := Lib.hid hm2; clear hm2; have HL2 := Lib.hid hl2; clear hl2; have HI2' := Lib.hid hi2'; clear hi2'
  go_wp2_with fail
  refine (H_.out a3 cap3 ms3 _ HB3.out HI3.out (HIN3.out.below (by (repeat (first | with_reducible assumption | with_reducible exact Below.refl _ _ | with_reducible refine Below.drew ?_ | with_reducible refine belowDrewN ?_ _ | ((with_reducible refine Below.setCell ?_ ?_ _); rotate_left; focus (first | omega | (simp; done) | (simp; omega))) | ((with_reducible refine Below.alloc ?_ ?_ _); rotate_left; focus (first | omega | (simp; done) | (simp; omega))) | ((with_reducible refine Below.trans ?_ (Below.mono hb1 ?_)); rotate_left; focus (first | omega | (simp; done) | (simp; omega))) | ((with_reducible refine Below.trans ?_ (Below.mono hb2 ?_)); rotate_left; focus (first | omega | (simp; done) | (simp; omega)))))))).mono ?_
  rintro e w3 ⟨a3', cap3', ms3', rfl, hi3', hm3, hb3⟩
  obtain ⟨hc3, hf3⟩ := bcell hb3; have hz3 := hb3.size; (try simp only [World.size_alloc, World.size_setCell, World.size_drew, sizeDrewN] at hz3 hc3 hf3); have hp3_0 : w.heap.size < w3.heap.size := (by omega); have hp3_1 : w.heap.size + 1 < w3.heap.size := (by omega); have hp3_2 : w.heap.size + 2 < w3.heap.size := (by omega)
  have HM3 := Lib.hid hm3; clear hm3; have HI3' := Lib.hid hi3'; clear hi3'
  go_wp2_with fail
  refine bodyPost_ret (v := .agg #[.int .i64 k1, .int .i64 n1, .string s1, .slice xa1' x1.length xc1', .slice a1' ms1'.length cap1', .int .i64 D, .int .i64 k2, .int .i64 n2, .string s2, .slice xa2' x2.length xc2', .slice a2' ms2'.length cap2', .slice a3' ms3'.length cap3']) (by simp (disch := first | omega | (simp; done) | (simp; omega)) [results, Try.results43, go_sem, hc3, hc2, hc1]) rfl ?_
  refine ⟨xa1', xc1', a1', cap1', ms1', xa2', xc2', a2', cap2', ms2', a3', cap3', ms3', rfl, HI1'.out, HI2'.out, HI3'.out, ?_, ?_⟩
  · refine M.Mine.cons (c := w1.heap.size) (M.Mine.mono (M.Mine.keep HM1.out (fun b gb1_ gb2_ => by (try simp at gb1_ gb2_); simp (disch := (first | omega | (simp; omega))) only [heapSet, heapNew, heapDrew, heapDrewN, hb2.block, hb3.block])) (by first | omega | (simp; done) | (simp; omega))) ?_ (by omega) HL1.out
    refine M.Mine.cons (c := w2.heap.size) (M.Mine.mono (M.Mine.keep HM2.out (fun b gb1_ gb2_ => by (try simp at gb1_ gb2_); simp (disch := (first | omega | (simp; omega))) only [heapSet, heapNew, heapDrew, heapDrewN, hb2.block, hb3.block])) (by first | omega | (simp; done) | (simp; omega))) ?_ (by omega) HL2.out
    refine M.Mine.cons (c := w3.heap.size) (M.Mine.mono (M.Mine.keep HM3.out (fun b gb1_ gb2_ => by (try simp at gb1_ gb2_); simp (disch := (first | omega | (simp; omega))) only [heapSet, heapNew, heapDrew, heapDrewN, hb2.block, hb3.block])) (by first | omega | (simp; done) | (simp; omega))) (M.Mine.agNil _ _) (by omega) (fun b hb => by have := HM3.out.lt_size b hb; omega)
  · (repeat (first | with_reducible assumption | with_reducible exact Below.refl _ _ | with_reducible refine Below.drew ?_ | with_reducible refine belowDrewN ?_ _ | ((with_reducible refine Below.setCell ?_ ?_ _); rotate_left; focus (first | omega | (simp; done) | (simp; omega))) | ((with_reducible refine Below.alloc ?_ ?_ _); rotate_left; focus (first | omega | (simp; done) | (simp; omega))) | ((with_reducible refine Below.trans ?_ (Below.mono hb1 ?_)); rotate_left; focus (first | omega | (simp; done) | (simp; omega))) | ((with_reducible refine Below.trans ?_ (Below.mono hb2 ?_)); rotate_left; focus (first | omega | (simp; done) | (simp; omega))) | ((with_reducible refine Below.trans ?_ (Below.mono hb3 ?_)); rotate_left; focus (first | omega | (simp; done) | (simp; omega)))))

theorem toCaptureS_calls : ∀ ds, ToCs ds := by
  refine Cap.inductL fun ds ih => ?_
  intro a cap ms w hB hi hin
  have hln := hi.length
  have hcapm := hin.len
  have hml : ms.length ≤ 1048576 := by omega
  obtain ⟨i0, hi0, hz0, hz1, hz2⟩ := info_parts infoCap
  have IH := Lib.hid ih; clear ih; have HIN := Lib.hid hin; clear hin; have HI := Lib.hid hi; clear hi; have HLN := Lib.hid hln; clear hln; have HB := Lib.hid hB; clear hB
  go_enter Try.func9, Try.ntmps9
  go_wp2_with (at_make; refine wpList_make_full _ rfl _ _ 25 rfl w.heap.size 74 i0 _ 12 Try.underlying25 hi0 hz0 hz1 _ _ _ _ ms.length rfl rfl rfl rfl ?b2 ?b3 ?b4 ?_)
  case b2 => rw [hz2]; omega
  case b3 => unfold maxLen; omega
  case b4 => omega
  intro w1 hown hgrow
  have hm : (M.sl (some ⟨w.heap.size, 0, none⟩) ms.length 12 74 (List.replicate ms.length (zeroCM 33 74))).Mine w1 w.heap.size :=
    M.Mine.made (zeroCM 33 74) rfl rfl (by decide) rfl (fun _ _ => zeroCM_own _ _ _ _) hown
  have hb1 : Below w.heap.size w w1 := ⟨hgrow.os, hgrow.tape, hgrow.output, hgrow.size, fun k hk => hgrow.block k hk (by simp)⟩
  have HOWN := Lib.hid hown; clear hown; have HGROW := Lib.hid hgrow; clear hgrow; have HM := Lib.hid hm; clear hm
  go_wp2_with fail
  go_loopw [4] (fun i wr => ∃ (k : Nat) (ns : List M), k ≤ ms.length ∧ i = .int .i64 k ∧ ns.length = ms.length ∧ Cap.IsL 33 74 (ds.take k ++ List.replicate (ms.length - k) zeroCap) ns ∧ (M.sl (some ⟨w.heap.size, 0, none⟩) ms.length 12 74 ns).Mine wr w.heap.size ∧ Below w.heap.size w wr ∧ w.heap.size ≤ wr.heap.size) (fun i _ => ms.length - (intOf i).toNat)
  case atStart => exact ⟨0, _, Nat.zero_le _, rfl, by simp, by simpa using Cap.IsL.replicate (zeroCap_is _ _) _, HM.out, hb1, hb1.size⟩
  case round =>
    obtain ⟨k', ns, hk, rfl, hnl, hns, hmine, hb, hsz⟩ := hrel
    by_cases hlt : k' < ms.length
    · obtain ⟨b, off, k1, n1, s1, x1, ds1, xa1, xc1, a1, cap1, ms1, D, k2, n2, s2, x2, ds2, xa2, xc2, a2, cap2, ms2, es, a3, cap3, ms3, rfl, hd, hi1, hi2, hi3, hin3, ⟨c0, c1, c2, c3, c4⟩, c5, ⟨c6, c7, c8, c9, c10⟩, c11⟩ := Cap.elem (HIN.out.below hb) HI.out k' hlt
      have hle : (Cap.mk (.mk k1 n1 s1 x1 ds1) D (.mk k2 n2 s2 x2 ds2) es).wt ≤ 1048576 := by have := Cap.wt_le hd; have := HB.out; omega
      obtain ⟨g', hg', _, hgl⟩ := hmine.addr (by omega)
      simp only [Option.some.injEq, Addr.mk.injEq, and_true] at hg'
      subst hg'
      have HI1 := Lib.hid hi1; clear hi1; have HI2 := Lib.hid hi2; clear hi2; have HI3 := Lib.hid hi3; clear hi3; have HIN3 := Lib.hid hin3; clear hin3; have HD := Lib.hid hd; clear hd; have HNL := Lib.hid hnl; clear hnl; have HNS := Lib.hid hns; clear hns; have HLE := Lib.hid hle; clear hle
      have HMI := Lib.hid hmine
      clear hmine
      go_wp2_with fail
      refine (toCapture_of es (IH.out _ D _ es (List.mem_of_getElem? HD.out)) k1 n1 s1 x1 ds1 xa1 xc1 a1 cap1 ms1 D k2 n2 s2 x2 ds2 xa2 xc2 a2 cap2 ms2 a3 cap3 ms3 _ HLE.out HI1.out HI2.out HI3.out HIN3.out).mono ?_
      rintro e w2 ⟨xa1', xc1', a1', cap1', ms1', xa2', xc2', a2', cap2', ms2', a3', cap3', ms3', rfl, hi1', hi2', hi3', hm2, hb2⟩
      obtain ⟨hc2, hf2⟩ := bcell hb2; have hz2 := hb2.size; (try simp only [World.size_alloc, World.size_setCell, World.size_drew, sizeDrewN] at hz2 hc2 hf2)
      have hmi2 := HMI.out.below hb2
      obtain ⟨⟨u0, r0⟩, f0⟩ := HMI.out.row (k' * 12) (by rw [HNL.out]; omega)
      obtain ⟨⟨u1, r1⟩, f1⟩ := HMI.out.row (k' * 12 + 1) (by rw [HNL.out]; omega)
      obtain ⟨⟨u2, r2⟩, f2⟩ := HMI.out.row (k' * 12 + 2) (by rw [HNL.out]; omega)
      obtain ⟨⟨u3, r3⟩, f3⟩ := HMI.out.row (k' * 12 + 3) (by rw [HNL.out]; omega)
      obtain ⟨⟨u4, r4⟩, f4⟩ := HMI.out.row (k' * 12 + 4) (by rw [HNL.out]; omega)
      obtain ⟨⟨u5, r5⟩, f5⟩ := HMI.out.row (k' * 12 + 5) (by rw [HNL.out]; omega)
      obtain ⟨⟨u6, r6⟩, f6⟩ := HMI.out.row (k' * 12 + 6) (by rw [HNL.out]; omega)
      obtain ⟨⟨u7, r7⟩, f7⟩ := HMI.out.row (k' * 12 + 7) (by rw [HNL.out]; omega)
      obtain ⟨⟨u8, r8⟩, f8⟩ := HMI.out.row (k' * 12 + 8) (by rw [HNL.out]; omega)
      obtain ⟨⟨u9, r9⟩, f9⟩ := HMI.out.row (k' * 12 + 9) (by rw [HNL.out]; omega)
      obtain ⟨⟨u10, r10⟩, f10⟩ := HMI.out.row (k' * 12 + 10) (by rw [HNL.out]; omega)
      obtain ⟨⟨u11, r11⟩, f11⟩ := HMI.out.row (k' * 12 + 11) (by rw [HNL.out]; omega)
      have hset := hmi2.setElem k' (by rw [HNL.out]; exact hlt) (.ag [.ag [.c (.int .i64 k1), .c (.int .i64 n1), .c (.string s1), .sl xa1' xc1' 1 3 (intM x1), .sl a1' cap1' 5 33 ms1'], .c (.int .i64 D), .ag [.c (.int .i64 k2), .c (.int .i64 n2), .c (.string s2), .sl xa2' xc2' 1 3 (intM x2), .sl a2' cap2' 5 33 ms2'], .sl a3' cap3' 12 74 ms3']) rfl ((CapOwn_el hm2 k1 n1 s1 D k2 n2 s2).mono hsz) (fun b hb => by
        have h1 := hm2.lt b (by simpa [M.blocks, M.blocksL, SynOwn, CapOwn] using hb)
        have h2 := HMI.out.lt_size
        simp only [M.blocks] at h2
        exact ⟨by omega, .inr fun hn => by have := h2 b (List.mem_append.2 (.inr hn)); omega⟩)
      simp only [M.cells, M.cellsL, intM_length, List.singleton_append, List.append_nil, List.cons_append, List.nil_append] at hset
      have hns2 := HNS.out.set k' (d := .mk (.mk k1 n1 s1 x1 ds1) D (.mk k2 n2 s2 x2 ds2) es) ⟨_, _, a3', cap3', ms3', rfl, ⟨xa1', xc1', a1', cap1', ms1', rfl, hi1'⟩, ⟨xa2', xc2', a2', cap2', ms2', rfl, hi2'⟩, hi3'⟩
      rw [set_take HD.out HLN.out] at hns2
      have HI1' := Lib.hid hi1'; clear hi1'; have HI2' := Lib.hid hi2'; clear hi2'; have HI3' := Lib.hid hi3'; clear hi3'; have HM2 := Lib.hid hm2; clear hm2; have HMI2 := Lib.hid hmi2; clear hmi2; have HSET := Lib.hid hset; clear hset; have HNS2 := Lib.hid hns2; clear hns2
      go_wp2_with fail
      go_roundw
      case rel => exact ⟨k' + 1, _, by omega, by go_num, by rw [List.length_set]; exact HNL.out, HNS2.out, HSET.out, by (repeat (first | with_reducible assumption | with_reducible exact Below.refl _ _ | with_reducible refine Below.drew ?_ | with_reducible refine belowDrewN ?_ _ | ((with_reducible refine Below.setCell ?_ ?_ _); rotate_left; focus (first | omega | (simp; done) | (simp; omega))) | ((with_reducible refine Below.alloc ?_ ?_ _); rotate_left; focus (first | omega | (simp; done) | (simp; omega))) | ((with_reducible refine Below.trans ?_ (Below.mono hb2 ?_)); rotate_left; focus (first | omega | (simp; done) | (simp; omega))))), by simp; omega⟩
      case measure => simp [intOf]; omega
    · go_wp2
      go_ret
      have hk2 : k' = ms.length := by omega
      subst hk2
      refine ⟨_, _, ns, by rw [hnl]; rfl, ?_, hmine, hb⟩
      rw [Nat.sub_self, HLN.out, List.take_length] at hns
      simpa using hns
end Go.Proofs.Ytigmgfinjapchaa
