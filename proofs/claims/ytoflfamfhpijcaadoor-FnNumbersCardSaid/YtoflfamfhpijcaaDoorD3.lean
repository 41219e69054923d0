/-
  Walks: the law's own copies of data, and their comparison. No condition.
-/
import Derived.Test.YtoflfamfhpijcaaDoorD2
set_option linter.unusedVariables false
set_option linter.unusedSimpArgs false
set_option maxRecDepth 100000
namespace Go.Proofs.YtoflfamfhpijcaaDoor
open Go.RowKit

theorem infoDat : (Tryd.prog.info? 31).map (fun i => (i.zero, i.size, i.bytes)) = some (some (.agg #[.int .i64 0, .int .i64 0, .string ⟨#[]⟩, .slice none 0 0]), 4, 56) := by kernel_rfl
/-- the zero datum -/
def zeroM (e : TypeId) : M := .ag [.c (.int .i64 0), .c (.int .i64 0), .c (.string ⟨#[]⟩), .sl none 0 4 e []]
theorem zeroM_own (e : TypeId) (w : World) (lo : Nat) : (zeroM e).Own w lo := ⟨rfl, rfl, rfl, (M.Mine.nil w lo 4 e (by decide)).own, trivial⟩
def zeroD : Dat := .mk 0 0 ⟨#[]⟩ []
theorem zero_is (e : TypeId) : zeroD.Is e (zeroM e) := ⟨none, 0, [], rfl, rfl⟩
theorem Dat.IsL.append {e : TypeId} : ∀ {xs ys : List Dat} {ms ns : List M}, Dat.IsL e xs ms → Dat.IsL e ys ns → Dat.IsL e (xs ++ ys) (ms ++ ns)
  | [], _, ms, _, h, h2 => by simp [Dat.IsL] at h; subst h; simpa using h2
  | x :: xs, ys, ms, ns, h, h2 => by
    obtain ⟨m, r, rfl, h1, h3⟩ := h
    exact ⟨m, r ++ ns, rfl, h1, Dat.IsL.append h3 h2⟩
theorem Dat.IsL.set {e : TypeId} : ∀ {xs : List Dat} {ms : List M} {d : Dat} {m : M} (k : Nat), Dat.IsL e xs ms → d.Is e m → Dat.IsL e (xs.set k d) (ms.set k m)
  | [], ms, d, m, k, h, _ => by simp [Dat.IsL] at h; subst h; simp [Dat.IsL]
  | x :: xs, ms, d, m, 0, h, hd => by obtain ⟨y, r, rfl, h1, h3⟩ := h; exact ⟨m, r, rfl, hd, h3⟩
  | x :: xs, ms, d, m, k + 1, h, hd => by obtain ⟨y, r, rfl, h1, h3⟩ := h; exact ⟨y, r.set k m, rfl, h1, Dat.IsL.set k h3 hd⟩
theorem Dat.IsL.replicate {e : TypeId} {d : Dat} {m : M} (h : d.Is e m) : ∀ n, Dat.IsL e (List.replicate n d) (List.replicate n m)
  | 0 => rfl
  | n + 1 => ⟨m, List.replicate n m, rfl, h, Dat.IsL.replicate h n⟩

def ToDs (ds : List Dat) : Prop := ∀ (a : Option Addr) (cap : Nat) (ms : List M) (w : World), Dat.countL ds ≤ 1048576 → Dat.IsL 50 ds ms → (M.sl a cap 4 50 ms).In w →
    Calls Tryd.prog 36 #[.slice a ms.length cap] w (RetDats 31 ds w)

theorem toDatum_of (ds : List Dat) (H : ToDs ds) (k n : Int) (s : ByteArray) (a : Option Addr) (cap : Nat) (ms : List M) (w : World) (hB : Dat.countL ds ≤ 1048576)
    (hi : Dat.IsL 50 ds ms) (hin : (M.sl a cap 4 50 ms).In w) :
    Calls Tryd.prog 31 #[.agg #[.int .i64 k, .int .i64 n, .string s, .slice a ms.length cap]] w (RetDat 31 (.mk k n s ds) w) := by
  have HI := Lib.hid hi; clear hi; have HIN := Lib.hid hin; clear hin; have H_ := Lib.hid H; clear H
  go_enter Tryd.func31, Tryd.ntmps31
  go_wp2_with fail
  refine (H_.out a cap ms _ hB HI.out (HIN.out.below (by (repeat (first | with_reducible assumption | with_reducible exact Below.refl _ _ | with_reducible refine Below.drew ?_ | with_reducible refine belowDrewN ?_ _ | ((with_reducible refine Below.setCell ?_ ?_ _); rotate_left; focus (first | omega | (simp; done) | (simp; omega))) | ((with_reducible refine Below.alloc ?_ ?_ _); rotate_left; focus (first | omega | (simp; done) | (simp; omega)))))))).mono ?_
  rintro e w1 ⟨a2, cap2, ms2, rfl, hi2, hm2, hb2⟩
  obtain ⟨hc2, hf2⟩ := bcell hb2; have hz2 := hb2.size; (try simp only [World.size_alloc, World.size_setCell, World.size_drew, sizeDrewN] at hz2 hc2 hf2)
  go_wp2_with fail
  refine bodyPost_ret (v := .agg #[.int .i64 k, .int .i64 n, .string s, .slice a2 ms2.length cap2]) (by simp [results, Tryd.results31, go_sem, hc2]) rfl ?_
  refine ⟨a2, cap2, ms2, rfl, hi2, ?_, ?_⟩
  · (exact M.Mine.mono (M.Mine.keep hm2 (fun b hb1 hb2 => by (try simp at hb1); simp (disch := (first | omega | (simp; omega))) only [heapSet, heapNew, heapDrew, heapDrewN])) (by first | omega | (simp; done) | (simp; omega)))
  · (repeat (first | with_reducible assumption | with_reducible exact Below.refl _ _ | with_reducible refine Below.drew ?_ | with_reducible refine belowDrewN ?_ _ | ((with_reducible refine Below.setCell ?_ ?_ _); rotate_left; focus (first | omega | (simp; done) | (simp; omega))) | ((with_reducible refine Below.alloc ?_ ?_ _); rotate_left; focus (first | omega | (simp; done) | (simp; omega))) | ((with_reducible refine Below.trans ?_ (Below.mono hb2 ?_)); rotate_left; focus (first | omega | (simp; done) | (simp; omega)))))

theorem toDatumS_calls : ∀ ds, ToDs ds := by
  refine Dat.inductL fun ds ih => ?_
  intro a cap ms w hB hi hin
  have hln := hi.length
  have hcapm := hin.len
  have hdl := Dat.length_le ds
  have hml : ms.length ≤ 1048576 := by omega
  obtain ⟨i0, hi0, hz0, hz1, hz2⟩ := info_parts infoDat
  have IH := Lib.hid ih; clear ih; have HIN := Lib.hid hin; clear hin; have HI := Lib.hid hi; clear hi; have HLN := Lib.hid hln; clear hln
  go_enter Tryd.func36, Tryd.ntmps36
  go_wp2_with (at_make; refine wpList_make_full _ rfl _ _ 23 rfl w.heap.size 31 i0 _ 4 Tryd.underlying23 hi0 hz0 hz1 _ _ _ _ ms.length rfl rfl rfl rfl ?b2 ?b3 ?b4 ?_)
  case b2 => rw [hz2]; omega
  case b3 => unfold maxLen; omega
  case b4 => omega
  intro w1 hown hgrow
  have hm : (M.sl (some ⟨w.heap.size, 0, none⟩) ms.length 4 31 (List.replicate ms.length (zeroM 31))).Mine w1 w.heap.size :=
    M.Mine.made (zeroM 31) rfl rfl (by decide) rfl (fun _ _ => zeroM_own _ _ _) hown
  have hb1 : Below w.heap.size w w1 := ⟨hgrow.os, hgrow.tape, hgrow.output, hgrow.size, fun k hk => hgrow.block k hk (by simp)⟩
  have HOWN := Lib.hid hown; clear hown; have HGROW := Lib.hid hgrow; clear hgrow; have HM := Lib.hid hm; clear hm
  go_wp2_with fail
  go_loopw [4] (fun i wr => ∃ (k : Nat) (ns : List M), k ≤ ms.length ∧ i = .int .i64 k ∧ ns.length = ms.length ∧ Dat.IsL 31 (ds.take k ++ List.replicate (ms.length - k) zeroD) ns ∧ (M.sl (some ⟨w.heap.size, 0, none⟩) ms.length 4 31 ns).Mine wr w.heap.size ∧ Below w.heap.size w wr ∧ w.heap.size ≤ wr.heap.size) (fun i _ => ms.length - (intOf i).toNat)
  case atStart => exact ⟨0, _, Nat.zero_le _, rfl, by simp, by simpa using Dat.IsL.replicate (zero_is _) _, HM.out, hb1, hb1.size⟩
  case round =>
    obtain ⟨k', ns, hk, rfl, hnl, hns, hmine, hb, hsz⟩ := hrel
    by_cases hlt : k' < ms.length
    · obtain ⟨b, off, k1, n1, s1, ds1, a1, cap1, ms1, rfl, hd, hi1, hin1, c0, c1, c2, c3⟩ := Dat.elem (HIN.out.below hb) HI.out k' hlt
      obtain ⟨ht, hle⟩ := Dat.countL_le ds k' _ hd
      simp only [Dat.count] at hle
      clear ht
      obtain ⟨g', hg', _, hgl⟩ := hmine.addr (by omega)
      simp only [Option.some.injEq, Addr.mk.injEq, and_true] at hg'
      subst hg'
      have HI1 := Lib.hid hi1; clear hi1; have HIN1 := Lib.hid hin1; clear hin1; have HD := Lib.hid hd; clear hd; have HNL := Lib.hid hnl; clear hnl; have HNS := Lib.hid hns; clear hns
      have HMI := Lib.hid hmine
      clear hmine
      go_wp2_with fail
      refine (toDatum_of ds1 (IH.out k1 n1 s1 ds1 (List.mem_of_getElem? HD.out)) k1 n1 s1 a1 cap1 ms1 _ (by omega) HI1.out HIN1.out).mono ?_
      rintro e w2 ⟨a2, cap2, ms2, rfl, hi2, hm2, hb2⟩
      obtain ⟨hc2, hf2⟩ := bcell hb2; have hz2 := hb2.size; (try simp only [World.size_alloc, World.size_setCell, World.size_drew, sizeDrewN] at hz2 hc2 hf2)
      have hmi2 := HMI.out.below hb2
      obtain ⟨⟨u0, r0⟩, f0⟩ := HMI.out.row (k' * 4) (by rw [HNL.out]; omega)
      obtain ⟨⟨u1, r1⟩, f1⟩ := HMI.out.row (k' * 4 + 1) (by rw [HNL.out]; omega)
      obtain ⟨⟨u2, r2⟩, f2⟩ := HMI.out.row (k' * 4 + 2) (by rw [HNL.out]; omega)
      obtain ⟨⟨u3, r3⟩, f3⟩ := HMI.out.row (k' * 4 + 3) (by rw [HNL.out]; omega)
      have hset := hmi2.setElem k' (by rw [HNL.out]; exact hlt) (.ag [.c (.int .i64 k1), .c (.int .i64 n1), .c (.string s1), .sl a2 cap2 4 31 ms2]) rfl ((Dat.mine hm2).mono hsz) (fun b hb => by
        have h1 := hm2.lt b (by simpa [M.blocks, M.blocksL] using hb)
        have h2 := HMI.out.lt_size
        simp only [M.blocks] at h2
        exact ⟨by omega, .inr fun hn => by have := h2 b (List.mem_append.2 (.inr hn)); omega⟩)
      have hns2 := HNS.out.set k' (d := .mk k1 n1 s1 ds1) ⟨a2, cap2, ms2, rfl, hi2⟩
      rw [set_take HD.out HLN.out] at hns2
      have HI2 := Lib.hid hi2; clear hi2; have HM2 := Lib.hid hm2; clear hm2; have HMI2 := Lib.hid hmi2; clear hmi2; have HSET := Lib.hid hset; clear hset; have HNS2 := Lib.hid hns2; clear hns2
      go_wp2_with fail
      go_roundw
      case rel => exact ⟨k' + 1, _, by omega, by go_num, by rw [List.length_set]; exact HNL.out, HNS2.out, HSET.out, by (repeat (first | with_reducible assumption | with_reducible exact Below.refl _ _ | with_reducible refine Below.drew ?_ | with_reducible refine belowDrewN ?_ _ | ((with_reducible refine Below.setCell ?_ ?_ _); rotate_left; focus (first | omega | (simp; done) | (simp; omega))) | ((with_reducible refine Below.alloc ?_ ?_ _); rotate_left; focus (first | omega | (simp; done) | (simp; omega))) | ((with_reducible refine Below.trans ?_ (Below.mono hb2 ?_)); rotate_left; focus (first | omega | (simp; done) | (simp; omega))))), by simp; omega⟩
      case measure => simp [intOf]; omega
    · go_wp2
      go_ret
      have hk2 : k' = ms.length := by omega
      subst hk2
      refine ⟨_, _, ns, by rw [hnl]; rfl, ?_, hmine, hb⟩
      rw [Nat.sub_self, HLN.out, List.take_length] at hns
      simpa using hns
end Go.Proofs.YtoflfamfhpijcaaDoor
