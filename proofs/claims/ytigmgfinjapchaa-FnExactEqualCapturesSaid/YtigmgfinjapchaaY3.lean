/-
  Walks: the law's own copies of syntax. No condition.
-/
import Derived.Test.YtigmgfinjapchaaY2
import Derived.Test.YtigmgfinjapchaaD3
set_option linter.unusedVariables false
set_option linter.unusedSimpArgs false
set_option maxRecDepth 100000
namespace Go.Proofs.Ytigmgfinjapchaa
open Go.RowKit

/-- the zero piece of syntax -/
def zeroSM (e : TypeId) : M := .ag [.c (.int .i64 0), .c (.int .i64 0), .c (.string ⟨#[]⟩), .sl none 0 1 3 (intM []), .sl none 0 5 e []]
theorem zeroSM_own (e : TypeId) (w : World) (lo : Nat) : (zeroSM e).Own w lo := ⟨rfl, rfl, rfl, (M.Mine.nil w lo 1 3 (by decide)).own, (M.Mine.nil w lo 5 e (by decide)).own, trivial⟩
def zeroSyn : Syn := .mk 0 0 ⟨#[]⟩ [] []
theorem zeroSyn_is (e : TypeId) : zeroSyn.Is e (zeroSM e) := ⟨none, 0, none, 0, [], rfl, rfl⟩
theorem Syn.IsL.append {e : TypeId} : ∀ {xs ys : List Syn} {ms ns : List M}, Syn.IsL e xs ms → Syn.IsL e ys ns → Syn.IsL e (xs ++ ys) (ms ++ ns)
  | [], _, ms, _, h, h2 => by simp [Syn.IsL] at h; subst h; simpa using h2
  | x :: xs, ys, ms, ns, h, h2 => by
    obtain ⟨m, r, rfl, h1, h3⟩ := h
    exact ⟨m, r ++ ns, rfl, h1, Syn.IsL.append h3 h2⟩
theorem Syn.IsL.set {e : TypeId} : ∀ {xs : List Syn} {ms : List M} {d : Syn} {m : M} (k : Nat), Syn.IsL e xs ms → d.Is e m → Syn.IsL e (xs.set k d) (ms.set k m)
  | [], ms, d, m, k, h, _ => by simp [Syn.IsL] at h; subst h; simp [Syn.IsL]
  | x :: xs, ms, d, m, 0, h, hd => by obtain ⟨y, r, rfl, h1, h3⟩ := h; exact ⟨m, r, rfl, hd, h3⟩
  | x :: xs, ms, d, m, k + 1, h, hd => by obtain ⟨y, r, rfl, h1, h3⟩ := h; exact ⟨y, r.set k m, rfl, h1, Syn.IsL.set k h3 hd⟩
theorem Syn.IsL.replicate {e : TypeId} {d : Syn} {m : M} (h : d.Is e m) : ∀ n, Syn.IsL e (List.replicate n d) (List.replicate n m)
  | 0 => rfl
  | n + 1 => ⟨m, List.replicate n m, rfl, h, Syn.IsL.replicate h n⟩
theorem SynOwn_el {e : TypeId} {xa : Option Addr} {xc : Nat} {x : List Int} {a : Option Addr} {cap : Nat} {ms : List M} {w : World} {lo : Nat} (h : (SynOwn e xa xc x a cap ms).Mine w lo) (k n : Int) (s : ByteArray) :
    (M.ag [.c (.int .i64 k), .c (.int .i64 n), .c (.string s), .sl xa xc 1 3 (intM x), .sl a cap 5 e ms]).Mine w lo :=
  ⟨⟨rfl, rfl, rfl, h.own⟩, by simpa [M.blocks, M.blocksL, SynOwn] using h.dup⟩
theorem SynOwn_x {e : TypeId} {xa : Option Addr} {xc : Nat} {x : List Int} {a : Option Addr} {cap : Nat} {ms : List M} {w : World} {lo : Nat} (h : (SynOwn e xa xc x a cap ms).Mine w lo) : (M.sl xa xc 1 3 (intM x)).Mine w lo :=
  ⟨h.own.1, by have := h.dup; simp only [SynOwn, M.blocks, M.blocksL, List.append_nil] at this; exact (List.nodup_append.1 this).1⟩
theorem SynOwn_ms {e : TypeId} {xa : Option Addr} {xc : Nat} {x : List Int} {a : Option Addr} {cap : Nat} {ms : List M} {w : World} {lo : Nat} (h : (SynOwn e xa xc x a cap ms).Mine w lo) : (M.sl a cap 5 e ms).Mine w lo :=
  ⟨h.own.2.1, by have := h.dup; simp only [SynOwn, M.blocks, M.blocksL, List.append_nil] at this; exact (List.nodup_append.1 this).2.1⟩
/-- two rows of one's own, one of them newer than all of the other, are one piece of one's own -/
theorem SynOwn_two {e : TypeId} {xa : Option Addr} {xc : Nat} {x : List Int} {a : Option Addr} {cap : Nat} {ms : List M} {w : World} {lo c : Nat} (h1 : (M.sl xa xc 1 3 (intM x)).Mine w lo) (h2 : (M.sl a cap 5 e ms).Mine w c) (hc : lo ≤ c)
    (hl : ∀ b ∈ (M.sl xa xc 1 3 (intM x)).blocks, b < c) : (SynOwn e xa xc x a cap ms).Mine w lo :=
  ⟨⟨h1.own, (h2.mono hc).own, trivial⟩, by
    simp only [SynOwn, M.blocks, M.blocksL, List.append_nil]
    exact List.nodup_append.2 ⟨h1.dup, h2.dup, fun b hb b' hb' he => by subst he; have := hl b hb; have := (h2.lt b hb').1; omega⟩⟩

theorem infoSyn : (Try.prog.info? 33).map (fun i => (i.zero, i.size, i.bytes)) = some (some (.agg #[.int .i64 0, .int .i64 0, .string ⟨#[]⟩, .slice none 0 0, .slice none 0 0]), 5, 80) := by kernel_rfl

theorem Syn.wt_le : ∀ {ds : List Syn} {k : Nat} {d : Syn}, ds[k]? = some d → d.wt ≤ Syn.wtX ds
  | [], k, d, h => by simp at h
  | x :: r, 0, d, h => by simp at h; subst h; simp only [Syn.wtX]; omega
  | x :: r, k + 1, d, h => by have := Syn.wt_le (ds := r) (k := k) (d := d) (by simpa using h); simp only [Syn.wtX]; omega

def ToSs (ds : List Syn) : Prop := ∀ (a : Option Addr) (cap : Nat) (ms : List M) (w : World), ds.length + Syn.wtX ds ≤ 1048576 → Syn.IsL 70 ds ms → (M.sl a cap 5 70 ms).In w →
    Calls Try.prog 123 #[.slice a ms.length cap] w (RetSyns 33 ds w)

theorem toSyntax_of (ds : List Syn) (H : ToSs ds) (k n : Int) (s : ByteArray) (x : List Int) (xa : Option Addr) (xc : Nat) (a : Option Addr) (cap : Nat) (ms : List M) (w : World) (hB : (Syn.mk k n s x ds).wt ≤ 1048576)
    (hi : Syn.IsL 70 ds ms) (hx : (M.sl xa xc 1 3 (intM x)).In w) (hin : (M.sl a cap 5 70 ms).In w) :
    Calls Try.prog 87 #[.agg #[.int .i64 k, .int .i64 n, .string s, .slice xa x.length xc, .slice a ms.length cap]] w (RetSyn 33 (.mk k n s x ds) w) := by
  have hwt : (Syn.mk k n s x ds).wt = s.size + (x.length + (ds.length + Syn.wtX ds)) := rfl
  have hB1 : x.length ≤ 1048576 := by omega
  have hB2 : ds.length + Syn.wtX ds ≤ 1048576 := by omega
  have HI := Lib.hid hi; clear hi; have HIN := Lib.hid hin; clear hin; have HX := Lib.hid hx; clear hx; have H_ := Lib.hid H; clear H; have HB := Lib.hid hB; clear hB; have HWT := Lib.hid hwt; clear hwt; have HB2 := Lib.hid hB2; clear hB2
  go_enter Try.func87, Try.ntmps87
  go_wp2_with fail
  refine (toIntS_calls xa xc x _ (HX.out.below (by (repeat (first | with_reducible assumption | with_reducible exact Below.refl _ _ | with_reducible refine Below.drew ?_ | with_reducible refine belowDrewN ?_ _ | ((with_reducible refine Below.setCell ?_ ?_ _); rotate_left; focus (first | omega | (simp; done) | (simp; omega))) | ((with_reducible refine Below.alloc ?_ ?_ _); rotate_left; focus (first | omega | (simp; done) | (simp; omega))))))) hB1).mono ?_
  rintro e w1 ⟨a1, cap1, rfl, hm1, hb1⟩
  obtain ⟨hc1, hf1⟩ := bcell hb1; have hz1 := hb1.size; (try simp only [World.size_alloc, World.size_setCell, World.size_drew, sizeDrewN] at hz1 hc1 hf1); have hp1_0 : w.heap.size < w1.heap.size := (by omega); have hp1_1 : w.heap.size + 1 < w1.heap.size := (by omega); have hp1_2 : w.heap.size + 2 < w1.heap.size := (by omega)
  have hl1 := hm1.lt_size
  have HM1 := Lib.hid hm1; clear hm1; have HL1 := Lib.hid hl1; clear hl1
  go_wp2_with fail
  refine (H_.out a cap ms _ HB2.out HI.out (HIN.out.below (by (repeat (first | with_reducible assumption | with_reducible exact Below.refl _ _ | with_reducible refine Below.drew ?_ | with_reducible refine belowDrewN ?_ _ | ((with_reducible refine Below.setCell ?_ ?_ _); rotate_left; focus (first | omega | (simp; done) | (simp; omega))) | ((with_reducible refine Below.alloc ?_ ?_ _); rotate_left; focus (first | omega | (simp; done) | (simp; omega))) | ((with_reducible refine Below.trans ?_ (Below.mono hb1 ?_)); rotate_left; focus (first | omega | (simp; done) | (simp; omega)))))))).mono ?_
  rintro e w2 ⟨a2, cap2, ms2, rfl, hi2, hm2, hb2⟩
  obtain ⟨hc2, hf2⟩ := bcell hb2; have hz2 := hb2.size; (try simp only [World.size_alloc, World.size_setCell, World.size_drew, sizeDrewN] at hz2 hc2 hf2); have hp2_0 : w.heap.size < w2.heap.size := (by omega); have hp2_1 : w.heap.size + 1 < w2.heap.size := (by omega); have hp2_2 : w.heap.size + 2 < w2.heap.size := (by omega)
  have HI2 := Lib.hid hi2; clear hi2; have HM2 := Lib.hid hm2; clear hm2
  go_wp2_with fail
  refine bodyPost_ret (v := .agg #[.int .i64 k, .int .i64 n, .string s, .slice a1 x.length cap1, .slice a2 ms2.length cap2]) (by simp (disch := first | omega | (simp; done) | (simp; omega)) [results, Try.results87, go_sem, hc2, hc1]) rfl ?_
  refine ⟨a1, cap1, a2, cap2, ms2, rfl, HI2.out, ?_, ?_⟩
  · exact SynOwn_two (c := w1.heap.size) (M.Mine.mono (M.Mine.keep HM1.out (fun b gb1_ gb2_ => by (try simp at gb1_ gb2_); simp (disch := (first | omega | (simp; omega))) only [heapSet, heapNew, heapDrew, heapDrewN, hb2.block])) (by first | omega | (simp; done) | (simp; omega))) (M.Mine.mono (M.Mine.keep HM2.out (fun b gb1_ gb2_ => by (try simp at gb1_ gb2_); simp (disch := (first | omega | (simp; omega))) only [heapSet, heapNew, heapDrew, heapDrewN, hb2.block])) (by first | omega | (simp; done) | (simp; omega))) (by omega) HL1.out
  · (repeat (first | with_reducible assumption | with_reducible exact Below.refl _ _ | with_reducible refine Below.drew ?_ | with_reducible refine belowDrewN ?_ _ | ((with_reducible refine Below.setCell ?_ ?_ _); rotate_left; focus (first | omega | (simp; done) | (simp; omega))) | ((with_reducible refine Below.alloc ?_ ?_ _); rotate_left; focus (first | omega | (simp; done) | (simp; omega))) | ((with_reducible refine Below.trans ?_ (Below.mono hb1 ?_)); rotate_left; focus (first | omega | (simp; done) | (simp; omega))) | ((with_reducible refine Below.trans ?_ (Below.mono hb2 ?_)); rotate_left; focus (first | omega | (simp; done) | (simp; omega)))))

theorem toSyntaxS_calls : ∀ ds, ToSs ds := by
  refine Syn.inductL fun ds ih => ?_
  intro a cap ms w hB hi hin
  have hln := hi.length
  have hcapm := hin.len
  have hml : ms.length ≤ 1048576 := by omega
  obtain ⟨i0, hi0, hz0, hz1, hz2⟩ := info_parts infoSyn
  have IH := Lib.hid ih; clear ih; have HIN := Lib.hid hin; clear hin; have HI := Lib.hid hi; clear hi; have HLN := Lib.hid hln; clear hln; have HB := Lib.hid hB; clear hB
  go_enter Try.func123, Try.ntmps123
  go_wp2_with (at_make; refine wpList_make_full _ rfl _ _ 31 rfl w.heap.size 33 i0 _ 5 Try.underlying31 hi0 hz0 hz1 _ _ _ _ ms.length rfl rfl rfl rfl ?b2 ?b3 ?b4 ?_)
  case b2 => rw [hz2]; omega
  case b3 => unfold maxLen; omega
  case b4 => omega
  intro w1 hown hgrow
  have hm : (M.sl (some ⟨w.heap.size, 0, none⟩) ms.length 5 33 (List.replicate ms.length (zeroSM 33))).Mine w1 w.heap.size :=
    M.Mine.made (zeroSM 33) rfl rfl (by decide) rfl (fun _ _ => zeroSM_own _ _ _) hown
  have hb1 : Below w.heap.size w w1 := ⟨hgrow.os, hgrow.tape, hgrow.output, hgrow.size, fun k hk => hgrow.block k hk (by simp)⟩
  have HOWN := Lib.hid hown; clear hown; have HGROW := Lib.hid hgrow; clear hgrow; have HM := Lib.hid hm; clear hm
  go_wp2_with fail
  go_loopw [4] (fun i wr => ∃ (k : Nat) (ns : List M), k ≤ ms.length ∧ i = .int .i64 k ∧ ns.length = ms.length ∧ Syn.IsL 33 (ds.take k ++ List.replicate (ms.length - k) zeroSyn) ns ∧ (M.sl (some ⟨w.heap.size, 0, none⟩) ms.length 5 33 ns).Mine wr w.heap.size ∧ Below w.heap.size w wr ∧ w.heap.size ≤ wr.heap.size) (fun i _ => ms.length - (intOf i).toNat)
  case atStart => exact ⟨0, _, Nat.zero_le _, rfl, by simp, by simpa using Syn.IsL.replicate (zeroSyn_is _) _, HM.out, hb1, hb1.size⟩
  case round =>
    obtain ⟨k', ns, hk, rfl, hnl, hns, hmine, hb, hsz⟩ := hrel
    by_cases hlt : k' < ms.length
    · obtain ⟨b, off, k1, n1, s1, x1, ds1, xa1, xc1, a1, cap1, ms1, rfl, hd, hi1, hx1, hin1, c0, c1, c2, c3, c4⟩ := Syn.elem (HIN.out.below hb) HI.out k' hlt
      have hle : (Syn.mk k1 n1 s1 x1 ds1).wt ≤ 1048576 := by have := Syn.wt_le hd; have := HB.out; omega
      obtain ⟨g', hg', _, hgl⟩ := hmine.addr (by omega)
      simp only [Option.some.injEq, Addr.mk.injEq, and_true] at hg'
      subst hg'
      have HI1 := Lib.hid hi1; clear hi1; have HIN1 := Lib.hid hin1; clear hin1; have HX1 := Lib.hid hx1; clear hx1; have HD := Lib.hid hd; clear hd; have HNL := Lib.hid hnl; clear hnl; have HNS := Lib.hid hns; clear hns; have HLE := Lib.hid hle; clear hle
      have HMI := Lib.hid hmine
      clear hmine
      go_wp2_with fail
      refine (toSyntax_of ds1 (IH.out k1 n1 s1 x1 ds1 (List.mem_of_getElem? HD.out)) k1 n1 s1 x1 xa1 xc1 a1 cap1 ms1 _ HLE.out HI1.out HX1.out HIN1.out).mono ?_
      rintro e w2 ⟨xa2, xc2, a2, cap2, ms2, rfl, hi2, hm2, hb2⟩
      obtain ⟨hc2, hf2⟩ := bcell hb2; have hz2 := hb2.size; (try simp only [World.size_alloc, World.size_setCell, World.size_drew, sizeDrewN] at hz2 hc2 hf2)
      have hmi2 := HMI.out.below hb2
      obtain ⟨⟨u0, r0⟩, f0⟩ := HMI.out.row (k' * 5) (by rw [HNL.out]; omega)
      obtain ⟨⟨u1, r1⟩, f1⟩ := HMI.out.row (k' * 5 + 1) (by rw [HNL.out]; omega)
      obtain ⟨⟨u2, r2⟩, f2⟩ := HMI.out.row (k' * 5 + 2) (by rw [HNL.out]; omega)
      obtain ⟨⟨u3, r3⟩, f3⟩ := HMI.out.row (k' * 5 + 3) (by rw [HNL.out]; omega)
      obtain ⟨⟨u4, r4⟩, f4⟩ := HMI.out.row (k' * 5 + 4) (by rw [HNL.out]; omega)
      simp only [Syn.k_mk, Syn.n_mk, Syn.s_mk, Syn.x_mk, Syn.ds_mk] at *
      have hset := hmi2.setElem k' (by rw [HNL.out]; exact hlt) (.ag [.c (.int .i64 k1), .c (.int .i64 n1), .c (.string s1), .sl xa2 xc2 1 3 (intM x1), .sl a2 cap2 5 33 ms2]) rfl ((SynOwn_el hm2 k1 n1 s1).mono hsz) (fun b hb => by
        have h1 := hm2.lt b (by simpa [M.blocks, M.blocksL, SynOwn] using hb)
        have h2 := HMI.out.lt_size
        simp only [M.blocks] at h2
        exact ⟨by omega, .inr fun hn => by have := h2 b (List.mem_append.2 (.inr hn)); omega⟩)
      simp only [M.cells, M.cellsL, intM_length, List.singleton_append, List.append_nil] at hset
      have hns2 := HNS.out.set k' (d := .mk k1 n1 s1 x1 ds1) ⟨xa2, xc2, a2, cap2, ms2, rfl, hi2⟩
      rw [set_take HD.out HLN.out] at hns2
      have HI2 := Lib.hid hi2; clear hi2; have HM2 := Lib.hid hm2; clear hm2; have HMI2 := Lib.hid hmi2; clear hmi2; have HSET := Lib.hid hset; clear hset; have HNS2 := Lib.hid hns2; clear hns2
      go_wp2_with fail
      go_roundw
      case rel => exact ⟨k' + 1, _, by omega, by go_num, by rw [List.length_set]; exact HNL.out, HNS2.out, HSET.out, by (repeat (first | with_reducible assumption | with_reducible exact Below.refl _ _ | with_reducible refine Below.drew ?_ | with_reducible refine belowDrewN ?_ _ | ((with_reducible refine Below.setCell ?_ ?_ _); rotate_left; focus (first | omega | (simp; done) | (simp; omega))) | ((with_reducible refine Below.alloc ?_ ?_ _); rotate_left; focus (first | omega | (simp; done) | (simp; omega))) | ((with_reducible refine Below.trans ?_ (Below.mono hb2 ?_)); rotate_left; focus (first | omega | (simp; done) | (simp; omega))))), by simp; omega⟩
      case measure => simp [intOf]; omega
    · go_wp2
      go_ret
      have hk2 : k' = ms.length := by omega
      subst hk2
      refine ⟨_, _, ns, by rw [hnl]; rfl, ?_, hmine, hb⟩
      rw [Nat.sub_self, HLN.out, List.take_length] at hns
      simpa using hns
theorem toSyntax_w (ds : List Syn) (k n : Int) (s : ByteArray) (x : List Int) (xa : Option Addr) (xc : Nat) (a : Option Addr) (cap : Nat) (ms : List M) (w : World) (hB : (Syn.mk k n s x ds).wt ≤ 1048576)
    (hi : Syn.IsL 70 ds ms) (hin : (SynOwn 70 xa xc x a cap ms).In w) :
    Calls Try.prog 87 #[.agg #[.int .i64 k, .int .i64 n, .string s, .slice xa x.length xc, .slice a ms.length cap]] w (RetSyn 33 (.mk k n s x ds) w) :=
  toSyntax_of ds (toSyntaxS_calls ds) k n s x xa xc a cap ms w hB hi (SynIn_x hin) (SynIn_ms hin)
end Go.Proofs.Ytigmgfinjapchaa
