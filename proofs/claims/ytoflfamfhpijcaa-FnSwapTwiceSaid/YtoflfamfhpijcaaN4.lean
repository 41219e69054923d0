/-
  Walks: few nodes (a counter behind a pointer). No condition.
-/
import Derived.Test.YtoflfamfhpijcaaN3
import Derived.Test.YtoflfamfhpijcaaAt
set_option linter.unusedVariables false
set_option linter.unusedSimpArgs false
set_option maxRecDepth 100000
namespace Go.Proofs.Ytoflfamfhpijcaa
open Go.RowKit

/-- A budget L after m have been taken: never below -1. -/
def few (L : Int) (m : Nat) : Int := if (m : Int) ≤ L then L - m else -1
theorem few_pos {L : Int} {m : Nat} (h : (m : Int) ≤ L) : few L m = L - m := by simp [few, h]
theorem few_neg {L : Int} {m : Nat} (h : ¬ (m : Int) ≤ L) : few L m = -1 := by simp [few, h]
theorem few_add {L : Int} {m c : Nat} (h : 0 ≤ few L m) : few (few L m) c = few L (m + c) := by
  unfold few at *
  split at h
  · rename_i h1
    simp only [h1, if_true]
    by_cases h2 : (c : Int) ≤ L - m
    · rw [if_pos h2, if_pos (by push_cast; omega)]; push_cast; omega
    · rw [if_neg h2, if_neg (by push_cast; omega)]
  · omega
theorem few_more {L : Int} {m : Nat} (h : few L m < 0) (hL : 0 ≤ L) (c : Nat) : few L (m + c) = -1 := by
  apply few_neg
  unfold few at h
  split at h
  · omega
  · push_cast; omega
theorem few_lo (L : Int) (m : Nat) : -1 ≤ few L m := by unfold few; split <;> omega
theorem few_hi (L : Int) (m : Nat) (h : 0 ≤ L) : few L m ≤ L := by unfold few; split <;> omega
theorem few_one {L : Int} (h : 0 ≤ L) : L - 1 = few L 1 := by
  unfold few; split
  · rfl
  · omega
theorem OnlyIn.refl (lo hi : Nat) (w : World) : OnlyIn lo hi w w := ⟨rfl, rfl, rfl, Nat.le_refl _, fun _ _ _ => rfl⟩
theorem OnlyIn.trans {lo hi : Nat} {a b c : World} (h : OnlyIn lo hi a b) (k : OnlyIn lo hi b c) : OnlyIn lo hi a c :=
  ⟨k.os.trans h.os, k.tape.trans h.tape, k.output.trans h.output, Nat.le_trans h.size k.size, fun i hi' hd => (k.block i (Nat.lt_of_lt_of_le hi' h.size) hd).trans (h.block i hi' hd)⟩
theorem OnlyIn.set {lo hi : Nat} {a b : World} (h : OnlyIn lo hi a b) (p : Addr) (v : Value) (h1 : lo ≤ p.block) (h2 : p.block < hi) : OnlyIn lo hi a (b.setCell p v) :=
  h.trans ⟨rfl, rfl, rfl, by simp, fun k hk hd => heapSet _ _ _ _ (by omega)⟩
theorem OnlyIn.new {lo hi : Nat} {a b : World} (h : OnlyIn lo hi a b) (o : Obj) : OnlyIn lo hi a (b.alloc o) :=
  h.trans ⟨rfl, rfl, rfl, by simp, fun k hk hd => heapNew _ _ _ hk⟩
theorem OnlyIn.drew {lo hi : Nat} {a b : World} (h : OnlyIn lo hi a b) : OnlyIn lo hi a b.drew := ⟨h.os, h.tape, h.output, h.size, h.block⟩
theorem OnlyIn.of_below {lo hi : Nat} {a b : World} (h : Below a.heap.size a b) : OnlyIn lo hi a b := ⟨h.os, h.tape, h.output, h.size, fun k hk _ => h.block k hk⟩
theorem OnlyIn.low {lo hi : Nat} {z a b : World} (h : OnlyIn lo hi a b) (hz : Below z.heap.size z a) (hl : z.heap.size ≤ lo) : Below z.heap.size z b :=
  hz.trans (h.below hl hz.size)

def RetFew (L : Int) (m : Nat) (pb : Nat) (w : World) (e : Ending) (w' : World) : Prop :=
  e = .returned (.bool (decide (0 ≤ few L m))) ∧ w'.cell? ⟨pb, 0, none⟩ = some (.int .i64 (few L m)) ∧ w'.frozen? ⟨pb, 0, none⟩ = false ∧ OnlyIn pb (pb + 1) w w'
def FwDs (ds : List Dat) : Prop := ∀ (k n : Int) (s : ByteArray) (a : Option Addr) (cap : Nat) (ms : List M) (pb : Nat) (L : Int) (w0 w : World), Dat.countL ds ≤ 1000000000 → Dat.IsL 31 ds ms → (M.sl a cap 4 31 ms).In w0 →
    Below w0.heap.size w0 w → w0.heap.size ≤ pb → 0 ≤ L → L ≤ 1000000000 → w.cell? ⟨pb, 0, none⟩ = some (.int .i64 L) → w.frozen? ⟨pb, 0, none⟩ = false →
    Calls Try.prog 67 #[.agg #[.int .i64 k, .int .i64 n, .string s, .slice a ms.length cap], .pointer (some ⟨pb, 0, none⟩)] w (RetFew L (1 + Dat.countL ds) pb w)
theorem l1Few_calls : ∀ ds, FwDs ds := by
  refine Dat.inductL fun ds ih => ?_
  intro k n s a cap ms pb L w0 w hB hi hin hb0 hpb hL0 hL9 hp hpf
  have hl := hi.length
  have hcap := hin.len
  have hpw := World.block_lt_of_cell? w _ hp
  simp only at hpw
  have IH := Lib.hid ih; clear ih; have HIN := Lib.hid hin; clear hin; have HI := Lib.hid hi; clear hi; have HL := Lib.hid hl; clear hl
  go_enter Try.func67, Try.ntmps67
  go_wp2_with fail
  go_loopw [5] (fun i wr => ∃ (j : Nat), j ≤ ms.length ∧ i = .int .i64 j ∧ (wr.cell? ⟨pb, 0, none⟩ = some (.int .i64 (few L (1 + Dat.countL (ds.take j)))) ∧ wr.frozen? ⟨pb, 0, none⟩ = false) ∧
     wr.cell? ⟨w.heap.size, 3, none⟩ = some (.slice a ms.length cap) ∧ OnlyIn pb (pb + 1) w wr ∧ w.heap.size + 1 ≤ wr.heap.size) (fun i _ => ms.length - (intOf i).toNat)
  case atStart =>
    have hne : pb ≠ w.heap.size := by omega
    refine ⟨0, Nat.zero_le _, rfl, ?_, ?_, ?_, ?_⟩
    · rw [List.take_zero, show 1 + Dat.countL [] = 1 from rfl, ← few_one hL0]
      simp (disch := (first | omega | (simp; omega))) [go_sem, hp, hpf]
    · have hs' : (w.setCell ⟨pb, 0, none⟩ (.int .i64 (L - 1))).heap.size = w.heap.size := by simp
      rw [← hs', World.cell?_alloc_new]; rfl
    · exact ((OnlyIn.refl pb (pb + 1) w).set ⟨pb, 0, none⟩ _ (Nat.le_refl _) (Nat.lt_succ_self _)).new _
    · simp
  case round =>
    obtain ⟨j, hj, rfl, ⟨q, qf⟩, c3b, ho, hsz⟩ := hrel
    have hbz := ho.low hb0 hpb
    by_cases hlt : j < ms.length
    · by_cases hneg : few L (1 + Dat.countL (ds.take j)) < 0
      · have hlo := few_lo L (1 + Dat.countL (ds.take j))
        have hall : few L (1 + Dat.countL ds) = few L (1 + Dat.countL (ds.take j)) := by
          have h1 := few_more hneg hL0 (Dat.countL (ds.drop j))
          rw [Nat.add_assoc, ← Dat.countL_append, List.take_append_drop] at h1
          omega
        rw [← hall] at q hneg hlo
        have HO := Lib.hid ho; clear ho; have HBZ := Lib.hid hbz; clear hbz; have HALL := Lib.hid hall; clear hall
        go_wp2_with fail
        go_ret
        exact ⟨rfl, q, qf, HO.out⟩
      · have hpos : 0 ≤ few L (1 + Dat.countL (ds.take j)) := by omega
        have hhi := few_hi L (1 + Dat.countL (ds.take j)) hL0
        obtain ⟨b, off, k1, n1, s1, ds1, a1, cap1, ms1, rfl, hd, hi1, hin1, c0, c1, c2, c3⟩ := Dat.elem HIN.out HI.out j hlt
        have hbl := World.block_lt_of_cell? w0 _ c0
        simp only at hbl
        have e0 := (hbz.cell (p := ⟨b, _, none⟩) hbl).trans c0
        have e1 := (hbz.cell (p := ⟨b, _, none⟩) hbl).trans c1
        have e2 := (hbz.cell (p := ⟨b, _, none⟩) hbl).trans c2
        have e3 := (hbz.cell (p := ⟨b, _, none⟩) hbl).trans c3
        clear c0 c1 c2 c3
        obtain ⟨ht, hle⟩ := Dat.countL_le ds j _ hd
        have hmem := List.mem_of_getElem? hd
        have hadd := few_add (c := 1 + Dat.countL ds1) hpos
        simp only [Dat.count] at hle ht
        rw [show 1 + Dat.countL (ds.take j) + (1 + Dat.countL ds1) = 1 + Dat.countL (ds.take (j + 1)) by rw [ht]; omega] at hadd
        generalize hF : few L (1 + Dat.countL (ds.take j)) = F at *
        have HD := Lib.hid hd; clear hd; have HI1 := Lib.hid hi1; clear hi1; have HIN1 := Lib.hid hin1; clear hin1; have HMEM := Lib.hid hmem; clear hmem; have HT := Lib.hid ht; clear ht; have HF := Lib.hid hF; clear hF; have HB0 := Lib.hid hb0; clear hb0; have HBZ := Lib.hid hbz; clear hbz; have HO := Lib.hid ho; clear ho
        go_wp2_with fail
        refine (IH.out k1 n1 s1 ds1 HMEM.out k1 n1 s1 a1 cap1 ms1 pb F w0 _ (by omega) HI1.out HIN1.out HBZ.out hpb hpos (by omega) q qf).mono ?_
        rintro e w1 ⟨rfl, q', qf', ho1⟩
        obtain ⟨hc1, hf1⟩ := ocell ho1
        have hz1 := ho1.size
        have c3c : w1.cell? ⟨w.heap.size, 3, none⟩ = some (.slice (some ⟨b, off, none⟩) ms.length cap) := by rw [hc1 _ _ (by omega) (by omega)]; exact c3b
        have hof := HO.out.trans ho1
        rw [hadd] at q'
        have HOF := Lib.hid hof; clear hof; have HO1 := Lib.hid ho1; clear ho1
        go_wp2_with fail
        go_roundw
        case rel => exact ⟨j + 1, by omega, by go_num, ⟨q', qf'⟩, c3c, HOF.out, by omega⟩
        case measure => simp [intOf]; omega
    · have hk2 : j = ms.length := by omega
      subst hk2
      have hlo := few_lo L (1 + Dat.countL (ds.take ms.length))
      have hhi := few_hi L (1 + Dat.countL (ds.take ms.length)) hL0
      have hd2 : ds.take ms.length = ds := by rw [HL.out, List.take_length]
      rw [hd2] at q hlo hhi
      have HO := Lib.hid ho; clear ho; have HBZ := Lib.hid hbz; clear hbz; have HD2 := Lib.hid hd2; clear hd2
      go_wp2_with fail
      go_ret
      exact ⟨rfl, q, qf, HO.out⟩
end Go.Proofs.Ytoflfamfhpijcaa
