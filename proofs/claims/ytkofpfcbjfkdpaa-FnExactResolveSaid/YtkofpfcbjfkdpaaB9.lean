/-
  Walks: the reference's l3Resolve; Resolve. No condition.
-/
import Derived.Test.YtkofpfcbjfkdpaaB7
import Derived.Test.YtkofpfcbjfkdpaaB6
set_option linter.unusedVariables false
set_option linter.unusedSimpArgs false
set_option maxRecDepth 100000
namespace Go.Proofs.Ytkofpfcbjfkdpaa
open Go.RowKit


theorem foldl_first (b : Bnd) (r : List Bnd) : bestOf (b :: r) = (b :: r).foldl better (some b) := by
  simp [bestOf, better]
theorem foldl_some : ∀ (l : List Bnd) (c : Bnd), ∃ d, l.foldl better (some c) = some d := foldl_better_some
theorem foldl_mem2 {l : List Bnd} {c d : Bnd} (h : l.foldl better (some c) = some d) : d = c ∨ d ∈ l := by
  rcases foldl_better_mem l (some c) d h with h1 | h1
  · exact .inl (by simpa using h1.symm)
  · exact .inr h1
theorem fold_take {L : List Bnd} {j : Nat} {d : Bnd} {z : Option Bnd} (h : L[j]? = some d) : (L.take (j + 1)).foldl better z = better ((L.take j).foldl better z) d := by rw [take_snoc h, List.foldl_append]; rfl
theorem Bnd.wt_mem : ∀ {ds : List Bnd} {d : Bnd}, d ∈ ds → d.wt ≤ Bnd.wtX ds
  | [], d, h => by cases h
  | x :: r, d, h => by
    rcases List.mem_cons.1 h with rfl | h
    · simp only [Bnd.wtX]; omega
    · have := Bnd.wt_mem h; simp only [Bnd.wtX]; omega
theorem BBox.set4 {b : Nat} {k n : Int} {s : ByteArray} {x : Value} {w : World} (h : BBox b s x k n w) (s' : ByteArray) (x' : Value) (k' n' : Int) :
    BBox b s' x' k' n' ((((w.setCell ⟨b, 0, none⟩ (.string s')).setCell ⟨b, 1, none⟩ x').setCell ⟨b, 2, none⟩ (.int .i64 k')).setCell ⟨b, 3, none⟩ (.int .i64 n')) := by
  have here : ∀ (W : World) (i : Nat) (u y : Value), W.cell? ⟨b, i, none⟩ = some y → (W.setCell ⟨b, i, none⟩ u).cell? ⟨b, i, none⟩ = some u := fun W i u y hy => by rw [cell?_setCell_eq, hy]; rfl
  have far : ∀ (W : World) (i j : Nat) (u y : Value), i ≠ j → W.cell? ⟨b, i, none⟩ = some y → (W.setCell ⟨b, j, none⟩ u).cell? ⟨b, i, none⟩ = some y := fun W i j u y hij hy => (cellSet_ne u hij).trans hy
  constructor
  · exact far _ _ _ _ _ (by decide) (far _ _ _ _ _ (by decide) (far _ _ _ _ _ (by decide) (here _ _ _ _ h.c0)))
  · exact far _ _ _ _ _ (by decide) (far _ _ _ _ _ (by decide) (here _ _ _ _ (far _ _ _ _ _ (by decide) h.c1)))
  · exact far _ _ _ _ _ (by decide) (here _ _ _ _ (far _ _ _ _ _ (by decide) (far _ _ _ _ _ (by decide) h.c2)))
  · exact here _ _ _ _ (far _ _ _ _ _ (by decide) (far _ _ _ _ _ (by decide) (far _ _ _ _ _ (by decide) h.c3)))
  all_goals simp only [frozenSet]
  · exact h.f0
  · exact h.f1
  · exact h.f2
  · exact h.f3
theorem set4_below {B b : Nat} {w : World} {v0 v1 v2 v3 : Value} {i0 i1 i2 i3 : Nat} (h : B ≤ b) : Below B w ((((w.setCell ⟨b, i0, none⟩ v0).setCell ⟨b, i1, none⟩ v1).setCell ⟨b, i2, none⟩ v2).setCell ⟨b, i3, none⟩ v3) :=
  ((((Below.refl B w).setCell (p := ⟨b, i0, none⟩) h v0).setCell (p := ⟨b, i1, none⟩) h v1).setCell (p := ⟨b, i2, none⟩) h v2).setCell (p := ⟨b, i3, none⟩) h v3
set_option maxHeartbeats 4000000 in
theorem l3Resolve_calls (ds : List Bnd) (a : Option Addr) (cap : Nat) (ms : List M) (k n : Int) (s : ByteArray) (x : List Int) (xa : Option Addr) (xc : Nat) (ia : Option Addr) (il ic : Nat) (w : World)
    (hB : ds.length + Bnd.wtX ds ≤ 2000000) (hi : Bnd.IsL ds ms) (hin : (M.sl a cap 4 49 ms).In w) (hx : (M.sl xa xc 1 3 (intM x)).In w) :
    Calls Try.prog 116 #[.slice a ms.length cap, .agg #[.int .i64 k, .int .i64 n, .string s, .slice xa x.length xc, .slice ia il ic]] w (RetRes (resB s x ds) w) := by
  have hl := hi.length
  have hcap := hin.len
  have hxl := Ints.len hx
  have hcw : Bnd.wtX (cands s x ds) ≤ 2000000 := by have h2 : Bnd.wtX (cands s x ds) ≤ Bnd.wtX ds := Bnd.wtX_filter _ _; omega
  have HI := Lib.hid hi; clear hi; have HIN := Lib.hid hin; clear hin; have HX := Lib.hid hx; clear hx; have HL := Lib.hid hl; clear hl
  go_enter Try.func116, Try.ntmps116
  go_wp2_with fail
  refine (l3Candidates_calls ds a cap ms k n s x xa xc ia il ic _ (by omega) HI.out (HIN.out.below (by (repeat (first | with_reducible assumption | with_reducible exact Below.refl _ _ | with_reducible refine Below.drew ?_ | with_reducible refine belowDrewN ?_ _ | ((with_reducible refine Below.setCell ?_ ?_ _); rotate_left; focus (first | omega | (simp; done) | (simp; omega))) | ((with_reducible refine Below.alloc ?_ ?_ _); rotate_left; focus (first | omega | (simp; done) | (simp; omega))))))) (HX.out.below (by (repeat (first | with_reducible assumption | with_reducible exact Below.refl _ _ | with_reducible refine Below.drew ?_ | with_reducible refine belowDrewN ?_ _ | ((with_reducible refine Below.setCell ?_ ?_ _); rotate_left; focus (first | omega | (simp; done) | (simp; omega))) | ((with_reducible refine Below.alloc ?_ ?_ _); rotate_left; focus (first | omega | (simp; done) | (simp; omega)))))))).mono ?_
  rintro e w1 ⟨a1, cap1, ms1, rfl, hi1, hin1, hb1⟩
  have hz1 := hb1.size
  simp only [World.size_alloc] at hz1
  have hr1 : BBox (w.heap.size + 1) ⟨#[]⟩ (.slice none 0 0) 0 0 w1 := by
    have h := (BBox.new ⟨#[]⟩ (.slice none 0 0) 0 0 (w.alloc (.cells #[.int .i64 k, .int .i64 n, .string s, .slice xa x.length xc, .slice ia il ic] 43))).below hb1 (by simp); simpa using h
  have hbz : Below w.heap.size w w1 := by (repeat (first | with_reducible assumption | with_reducible exact Below.refl _ _ | with_reducible refine Below.drew ?_ | with_reducible refine belowDrewN ?_ _ | ((with_reducible refine Below.setCell ?_ ?_ _); rotate_left; focus (first | omega | (simp; done) | (simp; omega))) | ((with_reducible refine Below.alloc ?_ ?_ _); rotate_left; focus (first | omega | (simp; done) | (simp; omega))) | ((with_reducible refine Below.trans ?_ (Below.mono hb1 ?_)); rotate_left; focus (first | omega | (simp; done) | (simp; omega)))))
  have hl1 := hi1.length
  have hcap1 := hin1.len
  generalize hC : cands s x ds = C at *
  cases C with
  | nil =>
    have hm0 : ms1 = [] := by simpa [Bnd.IsL] using hi1
    subst hm0
    have hres : resB s x ds = (.mk ⟨#[]⟩ [] 0 0, 0) := resB_none (by rw [hC]; rfl)
    obtain ⟨r0, r1, r2, r3, g0, g1, g2, g3⟩ := hr1
    have HC := Lib.hid hC; clear hC; have HRES := Lib.hid hres; clear hres; have HI1 := Lib.hid hi1; clear hi1; have HIN1 := Lib.hid hin1; clear hin1; have HL1 := Lib.hid hl1; clear hl1; have HB1 := Lib.hid hb1; clear hb1
    simp only [List.length_nil]
    go_wp2_with fail
    refine bodyPost_ret (v := .tuple #[.agg #[.string ⟨#[]⟩, .slice none 0 0, .int .i64 0, .int .i64 0], .int .i64 0]) (by simp [results, Try.results116, go_sem, r0, r1, r2, r3]) rfl ?_
    rw [HRES.out]
    exact ⟨none, 0, rfl, M.Mine.nil _ _ _ _ (by decide), by (repeat (first | with_reducible assumption | with_reducible exact Below.refl _ _ | with_reducible refine Below.drew ?_ | with_reducible refine belowDrewN ?_ _ | ((with_reducible refine Below.setCell ?_ ?_ _); rotate_left; focus (first | omega | (simp; done) | (simp; omega))) | ((with_reducible refine Below.alloc ?_ ?_ _); rotate_left; focus (first | omega | (simp; done) | (simp; omega))) | ((with_reducible refine Below.trans ?_ (Below.mono hbz ?_)); rotate_left; focus (first | omega | (simp; done) | (simp; omega)))))⟩
  | cons c0 C =>
    have hpos : 0 < ms1.length := by rw [hl1]; simp
    have hne : ((ms1.length : Int) == 0) = false := by simp; intro h; rw [h] at hpos; simp at hpos
    obtain ⟨b, off, s0, x0, k0, n0, xa0, xc0, rfl, hd0, hx0, c0_, c1_, c2_, c3_⟩ := Bnd.elem hin1 hi1 0 hpos
    have hbw := World.block_lt_of_cell? w1 _ c0_
    simp only [Nat.zero_mul, Nat.add_zero] at c0_ c1_ c2_ c3_
    simp at hd0
    subst hd0
    have hbo : bestOf (cands s x ds) = (Bnd.mk s0 x0 k0 n0 :: C).foldl better (some (.mk s0 x0 k0 n0)) := by rw [hC]; exact foldl_first _ _
    have hp1 : w.heap.size + 1 < w1.heap.size := hr1.lt
    have hi0' : (0 : Int) < (ms1.length : Int) := by omega
    have hlz : ms1.length ≤ 2000000 := by
      have h2 := cands_length s x ds; rw [hC] at h2; rw [hl1]; omega
    have hwL : ∀ d ∈ Bnd.mk s0 x0 k0 n0 :: C, d.wt ≤ 2000000 := fun d hd => by have := Bnd.wt_mem hd; omega
    have hc0m : Bnd.mk s0 x0 k0 n0 ∈ Bnd.mk s0 x0 k0 n0 :: C := List.mem_cons_self ..
    have hr1' := hr1.of (heapNew w1 (.cells #[.string s0, .slice xa0 x0.length xc0, .int .i64 k0, .int .i64 n0] 49) _ hp1)
    have hq1' := BBox.new s0 (.slice xa0 x0.length xc0) k0 n0 w1
    generalize hLe : (Bnd.mk s0 x0 k0 n0 :: C) = L at *
    have HC := Lib.hid hC; clear hC; have HI1 := Lib.hid hi1; clear hi1; have HIN1 := Lib.hid hin1; clear hin1; have HBO := Lib.hid hbo; clear hbo; have HR1 := Lib.hid hr1; clear hr1; have HL1 := Lib.hid hl1; clear hl1; have HX0 := Lib.hid hx0; clear hx0; have HB1 := Lib.hid hb1; clear hb1; have HWL := Lib.hid hwL; clear hwL; have HC0M := Lib.hid hc0m; clear hc0m; have HR1' := Lib.hid hr1'; clear hr1'; have HQ1' := Lib.hid hq1'; clear hq1'; have HLE := Lib.hid hLe; clear hLe
    go_wp2_with fail
    go_loopw [24] (fun t wr => ∃ (j : Nat) (sc : ByteArray) (xl : List Int) (kc nc : Int) (xac : Option Addr) (xcc : Nat), j ≤ ms1.length ∧ t = .int .i64 j ∧ (L.take j).foldl better (some (.mk s0 x0 k0 n0)) = some (.mk sc xl kc nc) ∧ BBox w1.heap.size sc (.slice xac xl.length xcc) kc nc wr ∧ (M.sl xac xcc 1 3 (intM xl)).In w1 ∧
        BBox (w.heap.size + 1) ⟨#[]⟩ (.slice none 0 0) 0 0 wr ∧ Below w1.heap.size w1 wr ∧ w1.heap.size + 1 ≤ wr.heap.size) (fun t _ => ms1.length - (intOf t).toNat)
    case atStart => exact ⟨0, s0, x0, k0, n0, xa0, xc0, Nat.zero_le _, rfl, by simp, HQ1'.out, HX0.out, HR1'.out, by (repeat (first | with_reducible assumption | with_reducible exact Below.refl _ _ | with_reducible refine Below.drew ?_ | with_reducible refine belowDrewN ?_ _ | ((with_reducible refine Below.setCell ?_ ?_ _); rotate_left; focus (first | omega | (simp; done) | (simp; omega))) | ((with_reducible refine Below.alloc ?_ ?_ _); rotate_left; focus (first | omega | (simp; done) | (simp; omega))))), by simp⟩
    case round =>
      obtain ⟨j, sc, xl, kc, nc, xac, xcc, hj, rfl, hfo, hq, hinc, hr, hb, hsz⟩ := hrel
      have p1 := hq.lt
      have p2 := hr.lt
      by_cases hlt : j < ms1.length
      · obtain ⟨b', off', s2, x2, k2, n2, xa2, xc2, hbo', hd, hx2, c0, c1, c2, c3⟩ := Bnd.elem HIN1.out HI1.out j hlt
        simp only [Option.some.injEq, Addr.mk.injEq, and_true] at hbo'
        obtain ⟨rfl, rfl⟩ := hbo'
        replace c0 := (hb.cell (p := ⟨b, off + j * 4, none⟩) hbw).trans c0
        replace c1 := (hb.cell (p := ⟨b, off + j * 4 + 1, none⟩) hbw).trans c1
        replace c2 := (hb.cell (p := ⟨b, off + j * 4 + 2, none⟩) hbw).trans c2
        replace c3 := (hb.cell (p := ⟨b, off + j * 4 + 3, none⟩) hbw).trans c3
        have hst := fold_take (z := some (.mk s0 x0 k0 n0)) hd
        rw [hfo] at hst
        have hbA : Below wr.heap.size wr (wr.alloc (.cells #[.string s2, .slice xa2 x2.length xc2, .int .i64 k2, .int .i64 n2] 49)) := by (repeat (first | with_reducible assumption | with_reducible exact Below.refl _ _ | with_reducible refine Below.drew ?_ | with_reducible refine belowDrewN ?_ _ | ((with_reducible refine Below.setCell ?_ ?_ _); rotate_left; focus (first | omega | (simp; done) | (simp; omega))) | ((with_reducible refine Below.alloc ?_ ?_ _); rotate_left; focus (first | omega | (simp; done) | (simp; omega)))))
        have hq1' := hq.below hbA p1
        have hr1' := hr.below hbA p2
        have hbB : Below w1.heap.size w1 (wr.alloc (.cells #[.string s2, .slice xa2 x2.length xc2, .int .i64 k2, .int .i64 n2] 49)) := by (repeat (first | with_reducible assumption | with_reducible exact Below.refl _ _ | with_reducible refine Below.drew ?_ | with_reducible refine belowDrewN ?_ _ | ((with_reducible refine Below.setCell ?_ ?_ _); rotate_left; focus (first | omega | (simp; done) | (simp; omega))) | ((with_reducible refine Below.alloc ?_ ?_ _); rotate_left; focus (first | omega | (simp; done) | (simp; omega))) | ((with_reducible refine Below.trans ?_ (Below.mono hb ?_)); rotate_left; focus (first | omega | (simp; done) | (simp; omega)))))
        have hq0 := hq
        obtain ⟨q0, q1, q2, q3, f0, f1, f2, f3⟩ := hq
        by_cases hlen : xl.length < x2.length
        · have hlen' : (xl.length : Int) < (x2.length : Int) := by omega
          have hst2 : (L.take (j + 1)).foldl better (some (.mk s0 x0 k0 n0)) = some (.mk s2 x2 k2 n2) := by rw [hst]; simp [better, hlen]
          have HD := Lib.hid hd; clear hd; have HX2 := Lib.hid hx2; clear hx2; have HFO := Lib.hid hfo; clear hfo; have HST := Lib.hid hst; clear hst; have HST2 := Lib.hid hst2; clear hst2; have HQ0 := Lib.hid hq0; clear hq0; have HQ1' := Lib.hid hq1'; clear hq1'; have HR := Lib.hid hr; clear hr; have HR1' := Lib.hid hr1'; clear hr1'; have HBA := Lib.hid hbA; clear hbA; have HBB := Lib.hid hbB; clear hbB; have HINC := Lib.hid hinc; clear hinc; have HLEN := Lib.hid hlen; clear hlen
          go_wp2_with fail
          go_roundw
          case rel => exact ⟨j + 1, s2, x2, k2, n2, xa2, xc2, by omega, by go_num, HST2.out, (HQ0.out.set4 _ _ _ _).of (heapNew _ _ _ (by simp; omega)), HX2.out, (HR.out.below (B := w1.heap.size) (set4_below (Nat.le_refl _)) hp1).of (heapNew _ _ _ (by simp; omega)), by (repeat (first | with_reducible assumption | with_reducible exact Below.refl _ _ | with_reducible refine Below.drew ?_ | with_reducible refine belowDrewN ?_ _ | ((with_reducible refine Below.setCell ?_ ?_ _); rotate_left; focus (first | omega | (simp; done) | (simp; omega))) | ((with_reducible refine Below.alloc ?_ ?_ _); rotate_left; focus (first | omega | (simp; done) | (simp; omega))) | ((with_reducible refine Below.trans ?_ (Below.mono hb ?_)); rotate_left; focus (first | omega | (simp; done) | (simp; omega))))), by simp; omega⟩
          case measure => simp [intOf]; omega
        · have hlen' : ¬ (xl.length : Int) < (x2.length : Int) := by omega
          have hst2 : (L.take (j + 1)).foldl better (some (.mk s0 x0 k0 n0)) = some (.mk sc xl kc nc) := by rw [hst]; simp [better, hlen]
          have HD := Lib.hid hd; clear hd; have HX2 := Lib.hid hx2; clear hx2; have HFO := Lib.hid hfo; clear hfo; have HST := Lib.hid hst; clear hst; have HST2 := Lib.hid hst2; clear hst2; have HQ0 := Lib.hid hq0; clear hq0; have HQ1' := Lib.hid hq1'; clear hq1'; have HR := Lib.hid hr; clear hr; have HR1' := Lib.hid hr1'; clear hr1'; have HBA := Lib.hid hbA; clear hbA; have HBB := Lib.hid hbB; clear hbB; have HINC := Lib.hid hinc; clear hinc; have HLEN := Lib.hid hlen; clear hlen
          go_wp2_with fail
          go_roundw
          case rel => exact ⟨j + 1, sc, xl, kc, nc, xac, xcc, by omega, by go_num, HST2.out, HQ1'.out, HINC.out, HR1'.out, HBB.out, by simp; omega⟩
          case measure => simp [intOf]; omega
      · have hj2 : j = ms1.length := by omega
        subst hj2
        rw [HL1.out, List.take_length, ← HBO.out] at hfo
        have hmem : Bnd.mk sc xl kc nc ∈ L := by
          have h := HBO.out; rw [hfo] at h
          rcases foldl_mem2 h.symm with h1 | h1
          · rw [h1]; exact HC0M.out
          · exact h1
        have hxB : sc.size + xl.length ≤ 3000000 := by have := HWL.out _ hmem; simp only [Bnd.wt] at this; omega
        have hq0 := hq
        have HFO := Lib.hid hfo; clear hfo; have HMEM := Lib.hid hmem; clear hmem; have HQ := Lib.hid hq; clear hq; have HR := Lib.hid hr; clear hr; have HINC := Lib.hid hinc; clear hinc; have HXB := Lib.hid hxB; clear hxB
        clear hlt hj
        generalize hW1 : wr = wq at *
        clear hW1
        go_wp2_with fail
        go_loopw [39] (fun t wr => ∃ (j : Nat), j ≤ ms1.length ∧ t = .int .i64 j ∧ (∀ c ∈ L.take j, subB c.x xl = true) ∧ BBox w1.heap.size sc (.slice xac xl.length xcc) kc nc wr ∧ BBox (w.heap.size + 1) ⟨#[]⟩ (.slice none 0 0) 0 0 wr ∧ Below w1.heap.size w1 wr ∧ w1.heap.size + 1 ≤ wr.heap.size) (fun t _ => ms1.length - (intOf t).toNat)
        case atStart => exact ⟨0, Nat.zero_le _, rfl, by simp, HQ.out, HR.out, hb, hsz⟩
        case round =>
          obtain ⟨j, hj, rfl, hall, hq, hr, hb, hsz⟩ := hrel
          have p1 := hq.lt
          have p2 := hr.lt
          have hq0 := hq
          obtain ⟨q0, q1, q2, q3, f0, f1, f2, f3⟩ := hq
          by_cases hlt : j < ms1.length
          · obtain ⟨b', off', s2, x2, k2, n2, xa2, xc2, hbo', hd, hx2, c0, c1, c2, c3⟩ := Bnd.elem HIN1.out HI1.out j hlt
            simp only [Option.some.injEq, Addr.mk.injEq, and_true] at hbo'
            obtain ⟨rfl, rfl⟩ := hbo'
            replace c0 := (hb.cell (p := ⟨b, off + j * 4, none⟩) hbw).trans c0
            replace c1 := (hb.cell (p := ⟨b, off + j * 4 + 1, none⟩) hbw).trans c1
            replace c2 := (hb.cell (p := ⟨b, off + j * 4 + 2, none⟩) hbw).trans c2
            replace c3 := (hb.cell (p := ⟨b, off + j * 4 + 3, none⟩) hbw).trans c3
            have hbA : Below wr.heap.size wr (wr.alloc (.cells #[.string s2, .slice xa2 x2.length xc2, .int .i64 k2, .int .i64 n2] 49)) := by (repeat (first | with_reducible assumption | with_reducible exact Below.refl _ _ | with_reducible refine Below.drew ?_ | with_reducible refine belowDrewN ?_ _ | ((with_reducible refine Below.setCell ?_ ?_ _); rotate_left; focus (first | omega | (simp; done) | (simp; omega))) | ((with_reducible refine Below.alloc ?_ ?_ _); rotate_left; focus (first | omega | (simp; done) | (simp; omega)))))
            have hq1' := hq0.below hbA p1
            have hr1' := hr.below hbA p2
            have hbB : Below w1.heap.size w1 (wr.alloc (.cells #[.string s2, .slice xa2 x2.length xc2, .int .i64 k2, .int .i64 n2] 49)) := by (repeat (first | with_reducible assumption | with_reducible exact Below.refl _ _ | with_reducible refine Below.drew ?_ | with_reducible refine belowDrewN ?_ _ | ((with_reducible refine Below.setCell ?_ ?_ _); rotate_left; focus (first | omega | (simp; done) | (simp; omega))) | ((with_reducible refine Below.alloc ?_ ?_ _); rotate_left; focus (first | omega | (simp; done) | (simp; omega))) | ((with_reducible refine Below.trans ?_ (Below.mono hb ?_)); rotate_left; focus (first | omega | (simp; done) | (simp; omega)))))
            cases hsub : subB x2 xl with
            | true =>
              have hnext : ∀ c ∈ L.take (j + 1), subB c.x xl = true := by
                rw [take_snoc hd]; intro c hc
                rcases List.mem_append.1 hc with hc | hc
                · exact hall c hc
                · simp at hc; subst hc; exact hsub
              have HD := Lib.hid hd; clear hd; have HX2 := Lib.hid hx2; clear hx2; have HNEXT := Lib.hid hnext; clear hnext; have HALL := Lib.hid hall; clear hall; have HQ0 := Lib.hid hq0; clear hq0; have HQ1' := Lib.hid hq1'; clear hq1'; have HR := Lib.hid hr; clear hr; have HR1' := Lib.hid hr1'; clear hr1'; have HBA := Lib.hid hbA; clear hbA; have HBB := Lib.hid hbB; clear hbB
              go_wp2_with fail
              refine (sWithin_eq xa2 xc2 x2 xac xcc xl _ (HX2.out.below (by (repeat (first | with_reducible assumption | with_reducible exact Below.refl _ _ | with_reducible refine Below.drew ?_ | with_reducible refine belowDrewN ?_ _ | ((with_reducible refine Below.setCell ?_ ?_ _); rotate_left; focus (first | omega | (simp; done) | (simp; omega))) | ((with_reducible refine Below.alloc ?_ ?_ _); rotate_left; focus (first | omega | (simp; done) | (simp; omega))) | ((with_reducible refine Below.trans ?_ (Below.mono hb ?_)); rotate_left; focus (first | omega | (simp; done) | (simp; omega))))))) (HINC.out.below (by (repeat (first | with_reducible assumption | with_reducible exact Below.refl _ _ | with_reducible refine Below.drew ?_ | with_reducible refine belowDrewN ?_ _ | ((with_reducible refine Below.setCell ?_ ?_ _); rotate_left; focus (first | omega | (simp; done) | (simp; omega))) | ((with_reducible refine Below.alloc ?_ ?_ _); rotate_left; focus (first | omega | (simp; done) | (simp; omega))) | ((with_reducible refine Below.trans ?_ (Below.mono hb ?_)); rotate_left; focus (first | omega | (simp; done) | (simp; omega)))))))).mono ?_
              rintro e w3 ⟨rfl, rfl⟩
              go_wp2_with fail
              go_roundw
              case rel => exact ⟨j + 1, by omega, by go_num, HNEXT.out, HQ1'.out, HR1'.out, HBB.out, by simp; omega⟩
              case measure => simp [intOf]; omega
            | false =>
              have hres : resB s x ds = (.mk ⟨#[]⟩ [] 0 0, 2) := resB_amb HFO.out (c := .mk s2 x2 k2 n2) (by rw [HC.out]; exact List.mem_of_getElem? hd) hsub
              obtain ⟨r0, r1, r2, r3, g0, g1, g2, g3⟩ := hr
              have HD := Lib.hid hd; clear hd; have HX2 := Lib.hid hx2; clear hx2; have HALL := Lib.hid hall; clear hall; have HQ0 := Lib.hid hq0; clear hq0; have HQ1' := Lib.hid hq1'; clear hq1'; have HR1' := Lib.hid hr1'; clear hr1'; have HBA := Lib.hid hbA; clear hbA; have HBB := Lib.hid hbB; clear hbB; have HRES := Lib.hid hres; clear hres
              go_wp2_with fail
              refine (sWithin_eq xa2 xc2 x2 xac xcc xl _ (HX2.out.below (by (repeat (first | with_reducible assumption | with_reducible exact Below.refl _ _ | with_reducible refine Below.drew ?_ | with_reducible refine belowDrewN ?_ _ | ((with_reducible refine Below.setCell ?_ ?_ _); rotate_left; focus (first | omega | (simp; done) | (simp; omega))) | ((with_reducible refine Below.alloc ?_ ?_ _); rotate_left; focus (first | omega | (simp; done) | (simp; omega))) | ((with_reducible refine Below.trans ?_ (Below.mono hb ?_)); rotate_left; focus (first | omega | (simp; done) | (simp; omega))))))) (HINC.out.below (by (repeat (first | with_reducible assumption | with_reducible exact Below.refl _ _ | with_reducible refine Below.drew ?_ | with_reducible refine belowDrewN ?_ _ | ((with_reducible refine Below.setCell ?_ ?_ _); rotate_left; focus (first | omega | (simp; done) | (simp; omega))) | ((with_reducible refine Below.alloc ?_ ?_ _); rotate_left; focus (first | omega | (simp; done) | (simp; omega))) | ((with_reducible refine Below.trans ?_ (Below.mono hb ?_)); rotate_left; focus (first | omega | (simp; done) | (simp; omega)))))))).mono ?_
              rintro e w3 ⟨rfl, rfl⟩
              go_wp2_with fail
              refine bodyPost_ret (v := .tuple #[.agg #[.string ⟨#[]⟩, .slice none 0 0, .int .i64 0, .int .i64 0], .int .i64 2]) (by simp [results, Try.results116, go_sem, r0, r1, r2, r3, p2]) rfl ?_
              rw [HRES.out]
              exact ⟨none, 0, rfl, M.Mine.nil _ _ _ _ (by decide), by (repeat (first | with_reducible assumption | with_reducible exact Below.refl _ _ | with_reducible refine Below.drew ?_ | with_reducible refine belowDrewN ?_ _ | ((with_reducible refine Below.setCell ?_ ?_ _); rotate_left; focus (first | omega | (simp; done) | (simp; omega))) | ((with_reducible refine Below.alloc ?_ ?_ _); rotate_left; focus (first | omega | (simp; done) | (simp; omega))) | ((with_reducible refine Below.trans ?_ (Below.mono hbz ?_)); rotate_left; focus (first | omega | (simp; done) | (simp; omega))) | ((with_reducible refine Below.trans ?_ (Below.mono hb ?_)); rotate_left; focus (first | omega | (simp; done) | (simp; omega)))))⟩
          · have hj2 : j = ms1.length := by omega
            subst hj2
            rw [HL1.out, List.take_length] at hall
            have hres : resB s x ds = (.mk sc xl kc nc, 1) := resB_found HFO.out (by rw [HC.out]; exact hall)
            have HALL := Lib.hid hall; clear hall; have HRES := Lib.hid hres; clear hres; have HQ0 := Lib.hid hq0; clear hq0; have HR := Lib.hid hr; clear hr
            go_wp2_with fail
            refine (l3Copy_one sc xl kc nc xac xcc _ _ HXB.out (one_in (HINC.out.below (by (repeat (first | with_reducible assumption | with_reducible exact Below.refl _ _ | with_reducible refine Below.drew ?_ | with_reducible refine belowDrewN ?_ _ | ((with_reducible refine Below.setCell ?_ ?_ _); rotate_left; focus (first | omega | (simp; done) | (simp; omega))) | ((with_reducible refine Below.alloc ?_ ?_ _); rotate_left; focus (first | omega | (simp; done) | (simp; omega))) | ((with_reducible refine Below.trans ?_ (Below.mono hb ?_)); rotate_left; focus (first | omega | (simp; done) | (simp; omega))))))))).mono ?_
            rintro e w5 ⟨a5, cap5, ms5, rfl, hi5, hm5, hb5⟩
            have hz5 := hb5.size
            simp only [World.size_alloc] at hz5
            obtain ⟨m, r, rfl, ⟨xa5, xc5, rfl⟩, hrr⟩ := hi5
            simp only [Bnd.IsL] at hrr
            subst hrr
            obtain ⟨g5, rfl, _, hg5⟩ := hm5.addr (by simp)
            obtain ⟨bb, oo, hg0, hel⟩ := hm5.in_.elem (by simp)
            obtain ⟨rfl, rfl⟩ : g5 = bb ∧ oo = 0 := by simp only [Option.some.injEq, Addr.mk.injEq, and_true] at hg0; exact ⟨hg0.1, hg0.2.symm⟩
            have t0 := hel 0 (by simp) 0 (.string sc) (by simp [bndM_cells])
            have t1 := hel 0 (by simp) 1 (.slice xa5 xl.length xc5) (by simp [bndM_cells])
            have t2 := hel 0 (by simp) 2 (.int .i64 kc) (by simp [bndM_cells])
            have t3 := hel 0 (by simp) 3 (.int .i64 nc) (by simp [bndM_cells])
            simp only [Nat.zero_mul, Nat.zero_add, Nat.add_zero] at t0 t1 t2 t3
            have hsc := hm5.piece (k := 0) (ys := [.c (.string sc), .sl xa5 xc5 1 3 (intM xl), .c (.int .i64 kc), .c (.int .i64 nc)]) rfl (j := 1) rfl
            have hrr5 : BBox (w.heap.size + 1) ⟨#[]⟩ (.slice none 0 0) 0 0 w5 := HR.out.of ((hb5.block _ (by simp; omega)).trans (heapNew _ _ _ p2))
            obtain ⟨r0, r1, r2, r3, g0, g1, g2, g3⟩ := hrr5
            have hsc2 := hsc.mono (lo' := w.heap.size) (by simp; omega)
            have hbf : Below w.heap.size w w5 := by (repeat (first | with_reducible assumption | with_reducible exact Below.refl _ _ | with_reducible refine Below.drew ?_ | with_reducible refine belowDrewN ?_ _ | ((with_reducible refine Below.setCell ?_ ?_ _); rotate_left; focus (first | omega | (simp; done) | (simp; omega))) | ((with_reducible refine Below.alloc ?_ ?_ _); rotate_left; focus (first | omega | (simp; done) | (simp; omega))) | ((with_reducible refine Below.trans ?_ (Below.mono hbz ?_)); rotate_left; focus (first | omega | (simp; done) | (simp; omega))) | ((with_reducible refine Below.trans ?_ (Below.mono hb ?_)); rotate_left; focus (first | omega | (simp; done) | (simp; omega))) | ((with_reducible refine Below.trans ?_ (Below.mono hb5 ?_)); rotate_left; focus (first | omega | (simp; done) | (simp; omega)))))
            have HM5 := Lib.hid hm5; clear hm5; have HEL := Lib.hid hel; clear hel; have HSC := Lib.hid hsc; clear hsc; have HSC2 := Lib.hid hsc2; clear hsc2; have HB5 := Lib.hid hb5; clear hb5
            simp only [List.length_cons, List.length_nil, Nat.zero_add]
            go_wp2_with fail
            refine bodyPost_ret (v := .tuple #[.agg #[.string sc, .slice xa5 xl.length xc5, .int .i64 kc, .int .i64 nc], .int .i64 1]) (by simp [results, Try.results116, go_sem, r0, r1, r2, r3]) rfl ?_
            rw [HRES.out]
            exact ⟨xa5, xc5, rfl, by exact M.Mine.mono ⟨M.Own.frame _ HSC2.out.own fun b hb => by have h1 := HSC.out.lt b hb; (try simp only [World.size_alloc] at h1); simp (disch := (first | omega | (simp; omega))) only [heapSet], HSC2.out.dup⟩ (Nat.le_refl _), by (repeat (first | with_reducible assumption | with_reducible exact Below.refl _ _ | with_reducible refine Below.drew ?_ | with_reducible refine belowDrewN ?_ _ | ((with_reducible refine Below.setCell ?_ ?_ _); rotate_left; focus (first | omega | (simp; done) | (simp; omega))) | ((with_reducible refine Below.alloc ?_ ?_ _); rotate_left; focus (first | omega | (simp; done) | (simp; omega))) | ((with_reducible refine Below.trans ?_ (Below.mono hbf ?_)); rotate_left; focus (first | omega | (simp; done) | (simp; omega)))))⟩

theorem resG_no (s : ByteArray) (x : List Int) (ds : List Bnd) : resG false s x ds = (.mk ⟨#[]⟩ [] 0 0, 0) := rfl
theorem resG_yes (s : ByteArray) (x : List Int) (ds : List Bnd) : resG true s x ds = resB s x ds := rfl
theorem resB_x (s : ByteArray) (x : List Int) (ds : List Bnd) : (resB s x ds).1.x.length ≤ Bnd.wtX ds := by
  unfold resB
  split
  · simp
  · rename_i b hb
    split
    · have h1 := Bnd.wt_mem (cands_mem.1 (bestOf_mem hb)).1
      obtain ⟨s', x', k', n'⟩ := b
      simp only [Bnd.wt] at h1
      simp only [Bnd.x_mk]; omega
    · simp
theorem resG_x (ok : Bool) (s : ByteArray) (x : List Int) (ds : List Bnd) : (resG ok s x ds).1.x.length ≤ Bnd.wtX ds := by
  cases ok with
  | false => simp [resG_no]
  | true => exact resB_x s x ds
set_option maxHeartbeats 2000000 in
theorem iResolve_calls (ds : List Bnd) (a : Option Addr) (cap : Nat) (ms : List M) (k n : Int) (s : ByteArray) (x : List Int) (es : List Syn) (xa : Option Addr) (xc : Nat) (ia : Option Addr) (ic : Nat) (ims : List M) (w : World) (hwf : Bnd.wfL ds) (hs9 : ∀ d ∈ ds, d.s.size ≤ 1048576)
    (hB : ds.length + Bnd.wtX ds ≤ 2000000) (hi : Bnd.IsL ds ms) (hin : (M.sl a cap 4 49 ms).In w) (hwf2 : (Syn.mk k n s x es).wf) (hcB : Syn.countL es ≤ 1000000000) (hi2 : Syn.IsL 43 es ims) (hown : (SynOwn 43 xa xc x ia ic ims).In w) :
    Calls Try.prog 37 #[.slice a ms.length cap, .agg #[.int .i64 k, .int .i64 n, .string s, .slice xa x.length xc, .slice ia ims.length ic]] w (RetRes (resG (areB ds && isIdB k n s x es) s x ds) w) := by
  have hl := hi.length
  have hcap := hin.len
  have hx := SynIn_x hown
  have hxl := Ints.len hx
  have HI := Lib.hid hi; clear hi; have HIN := Lib.hid hin; clear hin; have HX := Lib.hid hx; clear hx; have HWF := Lib.hid hwf; clear hwf; have HS9 := Lib.hid hs9; clear hs9; have HL := Lib.hid hl; clear hl; have HI2 := Lib.hid hi2; clear hi2; have HOWN := Lib.hid hown; clear hown; have HWF2 := Lib.hid hwf2; clear hwf2
  go_enter Try.func37, Try.ntmps37
  go_wp2_with fail
  refine (iAreBindings_calls ds a cap ms _ HWF.out HI.out (HIN.out.below (by (repeat (first | with_reducible assumption | with_reducible exact Below.refl _ _ | with_reducible refine Below.drew ?_ | with_reducible refine belowDrewN ?_ _ | ((with_reducible refine Below.setCell ?_ ?_ _); rotate_left; focus (first | omega | (simp; done) | (simp; omega))) | ((with_reducible refine Below.alloc ?_ ?_ _); rotate_left; focus (first | omega | (simp; done) | (simp; omega))))))) HS9.out).mono ?_
  rintro e w1 ⟨rfl, hb1⟩
  have hq1 : SBox w.heap.size k n s (.slice xa x.length xc) (.slice ia ims.length ic) w1 := ((SBox.new k n s (.slice xa x.length xc) (.slice ia ims.length ic) w).of (heapNew _ _ _ (by simp))).below hb1 (by simp; omega)
  have hr1 : BBox (w.heap.size + 1) ⟨#[]⟩ (.slice none 0 0) 0 0 w1 := by
    have h := (BBox.new ⟨#[]⟩ (.slice none 0 0) 0 0 (w.alloc (.cells #[.int .i64 k, .int .i64 n, .string s, .slice xa x.length xc, .slice ia ims.length ic] 43))).below hb1 (by simp); simpa using h
  have hz1 := hb1.size
  simp only [World.size_alloc] at hz1
  have p0 := hq1.lt
  have p1 := hr1.lt
  cases hA : areB ds with
  | false =>
    have hno : resG (areB ds && isIdB k n s x es) s x ds = (.mk ⟨#[]⟩ [] 0 0, 0) := by rw [hA]; rfl
    obtain ⟨r0, r1, r2, r3, g0, g1, g2, g3⟩ := hr1
    have HA := Lib.hid hA; clear hA; have HNO := Lib.hid hno; clear hno; have HQ1 := Lib.hid hq1; clear hq1
    go_wp2_with fail
    refine bodyPost_ret (v := .tuple #[.agg #[.string ⟨#[]⟩, .slice none 0 0, .int .i64 0, .int .i64 0], .int .i64 0]) (by simp [results, Try.results37, go_sem, r0, r1, r2, r3]) rfl ?_
    rw [HNO.out]
    exact ⟨none, 0, rfl, M.Mine.nil _ _ _ _ (by decide), by (repeat (first | with_reducible assumption | with_reducible exact Below.refl _ _ | with_reducible refine Below.drew ?_ | with_reducible refine belowDrewN ?_ _ | ((with_reducible refine Below.setCell ?_ ?_ _); rotate_left; focus (first | omega | (simp; done) | (simp; omega))) | ((with_reducible refine Below.alloc ?_ ?_ _); rotate_left; focus (first | omega | (simp; done) | (simp; omega))) | ((with_reducible refine Below.trans ?_ (Below.mono hb1 ?_)); rotate_left; focus (first | omega | (simp; done) | (simp; omega)))))⟩
  | true =>
    obtain ⟨q0, q1, q2, q3, q4, f0, f1, f2, f3, f4⟩ := hq1
    have HR1 := Lib.hid hr1; clear hr1
    go_wp2_with fail
    refine (iIsIdentifier_calls k n s x es xa xc ia ic ims _ HWF2.out hcB HI2.out (HOWN.out.below (by (repeat (first | with_reducible assumption | with_reducible exact Below.refl _ _ | with_reducible refine Below.drew ?_ | with_reducible refine belowDrewN ?_ _ | ((with_reducible refine Below.setCell ?_ ?_ _); rotate_left; focus (first | omega | (simp; done) | (simp; omega))) | ((with_reducible refine Below.alloc ?_ ?_ _); rotate_left; focus (first | omega | (simp; done) | (simp; omega))) | ((with_reducible refine Below.trans ?_ (Below.mono hb1 ?_)); rotate_left; focus (first | omega | (simp; done) | (simp; omega)))))))).mono ?_
    rintro e w2 ⟨rfl, hb2⟩
    have hq2 : SBox w.heap.size k n s (.slice xa x.length xc) (.slice ia ims.length ic) w2 := SBox.below ⟨q0, q1, q2, q3, q4, f0, f1, f2, f3, f4⟩ hb2 p0
    have hr2 := HR1.out.below hb2 p1
    clear q0 q1 q2 q3 q4 f0 f1 f2 f3 f4
    have hz2 := hb2.size
    have p2 := hr2.lt
    cases hid : isIdB k n s x es with
    | false =>
      have hno : resG (areB ds && isIdB k n s x es) s x ds = (.mk ⟨#[]⟩ [] 0 0, 0) := by rw [hA, hid]; rfl
      obtain ⟨r0, r1, r2, r3, g0, g1, g2, g3⟩ := hr2
      have HA := Lib.hid hA; clear hA; have HID := Lib.hid hid; clear hid; have HNO := Lib.hid hno; clear hno; have HQ2 := Lib.hid hq2; clear hq2
      go_wp2_with fail
      refine bodyPost_ret (v := .tuple #[.agg #[.string ⟨#[]⟩, .slice none 0 0, .int .i64 0, .int .i64 0], .int .i64 0]) (by simp [results, Try.results37, go_sem, r0, r1, r2, r3]) rfl ?_
      rw [HNO.out]
      exact ⟨none, 0, rfl, M.Mine.nil _ _ _ _ (by decide), by (repeat (first | with_reducible assumption | with_reducible exact Below.refl _ _ | with_reducible refine Below.drew ?_ | with_reducible refine belowDrewN ?_ _ | ((with_reducible refine Below.setCell ?_ ?_ _); rotate_left; focus (first | omega | (simp; done) | (simp; omega))) | ((with_reducible refine Below.alloc ?_ ?_ _); rotate_left; focus (first | omega | (simp; done) | (simp; omega))) | ((with_reducible refine Below.trans ?_ (Below.mono hb1 ?_)); rotate_left; focus (first | omega | (simp; done) | (simp; omega))) | ((with_reducible refine Below.trans ?_ (Below.mono hb2 ?_)); rotate_left; focus (first | omega | (simp; done) | (simp; omega)))))⟩
    | true =>
      have hno : resG (areB ds && isIdB k n s x es) s x ds = resB s x ds := by rw [hA, hid]; rfl
      have hbz : Below w.heap.size w w2 := by (repeat (first | with_reducible assumption | with_reducible exact Below.refl _ _ | with_reducible refine Below.drew ?_ | with_reducible refine belowDrewN ?_ _ | ((with_reducible refine Below.setCell ?_ ?_ _); rotate_left; focus (first | omega | (simp; done) | (simp; omega))) | ((with_reducible refine Below.alloc ?_ ?_ _); rotate_left; focus (first | omega | (simp; done) | (simp; omega))) | ((with_reducible refine Below.trans ?_ (Below.mono hb1 ?_)); rotate_left; focus (first | omega | (simp; done) | (simp; omega))) | ((with_reducible refine Below.trans ?_ (Below.mono hb2 ?_)); rotate_left; focus (first | omega | (simp; done) | (simp; omega)))))
      obtain ⟨q0, q1, q2, q3, q4, f0, f1, f2, f3, f4⟩ := hq2
      have HA := Lib.hid hA; clear hA; have HID := Lib.hid hid; clear hid; have HNO := Lib.hid hno; clear hno; have HR2 := Lib.hid hr2; clear hr2
      go_wp2_with fail
      refine (lookUp_calls ds a cap ms k n s x xa xc ia ims.length ic _ (by omega) HI.out (HIN.out.below (by (repeat (first | with_reducible assumption | with_reducible exact Below.refl _ _ | with_reducible refine Below.drew ?_ | with_reducible refine belowDrewN ?_ _ | ((with_reducible refine Below.setCell ?_ ?_ _); rotate_left; focus (first | omega | (simp; done) | (simp; omega))) | ((with_reducible refine Below.alloc ?_ ?_ _); rotate_left; focus (first | omega | (simp; done) | (simp; omega))) | ((with_reducible refine Below.trans ?_ (Below.mono hbz ?_)); rotate_left; focus (first | omega | (simp; done) | (simp; omega))))))) (HX.out.below (by (repeat (first | with_reducible assumption | with_reducible exact Below.refl _ _ | with_reducible refine Below.drew ?_ | with_reducible refine belowDrewN ?_ _ | ((with_reducible refine Below.setCell ?_ ?_ _); rotate_left; focus (first | omega | (simp; done) | (simp; omega))) | ((with_reducible refine Below.alloc ?_ ?_ _); rotate_left; focus (first | omega | (simp; done) | (simp; omega))) | ((with_reducible refine Below.trans ?_ (Below.mono hbz ?_)); rotate_left; focus (first | omega | (simp; done) | (simp; omega)))))))).mono ?_
      rintro e w3 ⟨xa3, xc3, rfl, hm3, hb3⟩
      have hz3 := hb3.size
      obtain ⟨r0, r1, r2, r3, g0, g1, g2, g3⟩ := HR2.out.below hb3 p2
      generalize hres : resB s x ds = R at *
      have HM3 := Lib.hid hm3; clear hm3
      go_wp2_with fail
      refine bodyPost_ret (v := .tuple #[.agg #[.string R.1.s, .slice xa3 R.1.x.length xc3, .int .i64 R.1.k, .int .i64 R.1.n], .int .i64 R.2]) (by simp [results, Try.results37, go_sem, r0, r1, r2, r3]) rfl ?_
      rw [HNO.out]
      exact ⟨xa3, xc3, rfl, by (exact M.Mine.mono (M.Mine.keep HM3.out (fun b hb1 hb2 => by (try simp at hb1); simp (disch := (first | omega | (simp; omega))) only [heapSet, heapNew, heapDrew, heapDrewN])) (by first | omega | (simp; done) | (simp; omega))), by (repeat (first | with_reducible assumption | with_reducible exact Below.refl _ _ | with_reducible refine Below.drew ?_ | with_reducible refine belowDrewN ?_ _ | ((with_reducible refine Below.setCell ?_ ?_ _); rotate_left; focus (first | omega | (simp; done) | (simp; omega))) | ((with_reducible refine Below.alloc ?_ ?_ _); rotate_left; focus (first | omega | (simp; done) | (simp; omega))) | ((with_reducible refine Below.trans ?_ (Below.mono hbz ?_)); rotate_left; focus (first | omega | (simp; done) | (simp; omega))) | ((with_reducible refine Below.trans ?_ (Below.mono hb3 ?_)); rotate_left; focus (first | omega | (simp; done) | (simp; omega)))))⟩
set_option maxHeartbeats 2000000 in
theorem sResolve_calls (ds : List Bnd) (a : Option Addr) (cap : Nat) (ms : List M) (k n : Int) (s : ByteArray) (x : List Int) (es : List Syn) (xa : Option Addr) (xc : Nat) (ia : Option Addr) (ic : Nat) (ims : List M) (w : World) (hwf : Bnd.wfL ds) (hs9 : ∀ d ∈ ds, d.s.size ≤ 1048576)
    (hB : ds.length + Bnd.wtX ds ≤ 2000000) (hi : Bnd.IsL ds ms) (hin : (M.sl a cap 4 49 ms).In w) (hwf2 : (Syn.mk k n s x es).wf) (hcB : Syn.countL es ≤ 1000000000) (hi2 : Syn.IsL 43 es ims) (hown : (SynOwn 43 xa xc x ia ic ims).In w) :
    Calls Try.prog 40 #[.slice a ms.length cap, .agg #[.int .i64 k, .int .i64 n, .string s, .slice xa x.length xc, .slice ia ims.length ic]] w (RetRes (resG (areB ds && isIdB k n s x es) s x ds) w) := by
  have hl := hi.length
  have hcap := hin.len
  have hx := SynIn_x hown
  have hxl := Ints.len hx
  have HI := Lib.hid hi; clear hi; have HIN := Lib.hid hin; clear hin; have HX := Lib.hid hx; clear hx; have HWF := Lib.hid hwf; clear hwf; have HS9 := Lib.hid hs9; clear hs9; have HL := Lib.hid hl; clear hl; have HI2 := Lib.hid hi2; clear hi2; have HOWN := Lib.hid hown; clear hown; have HWF2 := Lib.hid hwf2; clear hwf2
  go_enter Try.func40, Try.ntmps40
  go_wp2_with fail
  refine (sAreBindings_calls ds a cap ms _ HWF.out HI.out (HIN.out.below (by (repeat (first | with_reducible assumption | with_reducible exact Below.refl _ _ | with_reducible refine Below.drew ?_ | with_reducible refine belowDrewN ?_ _ | ((with_reducible refine Below.setCell ?_ ?_ _); rotate_left; focus (first | omega | (simp; done) | (simp; omega))) | ((with_reducible refine Below.alloc ?_ ?_ _); rotate_left; focus (first | omega | (simp; done) | (simp; omega)))))))  ).mono ?_
  rintro e w1 ⟨rfl, hb1⟩
  have hq1 : SBox w.heap.size k n s (.slice xa x.length xc) (.slice ia ims.length ic) w1 := ((SBox.new k n s (.slice xa x.length xc) (.slice ia ims.length ic) w).of (heapNew _ _ _ (by simp))).below hb1 (by simp; omega)
  have hr1 : BBox (w.heap.size + 1) ⟨#[]⟩ (.slice none 0 0) 0 0 w1 := by
    have h := (BBox.new ⟨#[]⟩ (.slice none 0 0) 0 0 (w.alloc (.cells #[.int .i64 k, .int .i64 n, .string s, .slice xa x.length xc, .slice ia ims.length ic] 43))).below hb1 (by simp); simpa using h
  have hz1 := hb1.size
  simp only [World.size_alloc] at hz1
  have p0 := hq1.lt
  have p1 := hr1.lt
  cases hA : areB ds with
  | false =>
    have hno : resG (areB ds && isIdB k n s x es) s x ds = (.mk ⟨#[]⟩ [] 0 0, 0) := by rw [hA]; rfl
    obtain ⟨r0, r1, r2, r3, g0, g1, g2, g3⟩ := hr1
    have HA := Lib.hid hA; clear hA; have HNO := Lib.hid hno; clear hno; have HQ1 := Lib.hid hq1; clear hq1
    go_wp2_with fail
    refine bodyPost_ret (v := .tuple #[.agg #[.string ⟨#[]⟩, .slice none 0 0, .int .i64 0, .int .i64 0], .int .i64 0]) (by simp [results, Try.results40, go_sem, r0, r1, r2, r3]) rfl ?_
    rw [HNO.out]
    exact ⟨none, 0, rfl, M.Mine.nil _ _ _ _ (by decide), by (repeat (first | with_reducible assumption | with_reducible exact Below.refl _ _ | with_reducible refine Below.drew ?_ | with_reducible refine belowDrewN ?_ _ | ((with_reducible refine Below.setCell ?_ ?_ _); rotate_left; focus (first | omega | (simp; done) | (simp; omega))) | ((with_reducible refine Below.alloc ?_ ?_ _); rotate_left; focus (first | omega | (simp; done) | (simp; omega))) | ((with_reducible refine Below.trans ?_ (Below.mono hb1 ?_)); rotate_left; focus (first | omega | (simp; done) | (simp; omega)))))⟩
  | true =>
    obtain ⟨q0, q1, q2, q3, q4, f0, f1, f2, f3, f4⟩ := hq1
    have HR1 := Lib.hid hr1; clear hr1
    go_wp2_with fail
    refine (sIsIdentifier_calls k n s x es xa xc ia ic ims _ HWF2.out hcB HI2.out (HOWN.out.below (by (repeat (first | with_reducible assumption | with_reducible exact Below.refl _ _ | with_reducible refine Below.drew ?_ | with_reducible refine belowDrewN ?_ _ | ((with_reducible refine Below.setCell ?_ ?_ _); rotate_left; focus (first | omega | (simp; done) | (simp; omega))) | ((with_reducible refine Below.alloc ?_ ?_ _); rotate_left; focus (first | omega | (simp; done) | (simp; omega))) | ((with_reducible refine Below.trans ?_ (Below.mono hb1 ?_)); rotate_left; focus (first | omega | (simp; done) | (simp; omega)))))))).mono ?_
    rintro e w2 ⟨rfl, hb2⟩
    have hq2 : SBox w.heap.size k n s (.slice xa x.length xc) (.slice ia ims.length ic) w2 := SBox.below ⟨q0, q1, q2, q3, q4, f0, f1, f2, f3, f4⟩ hb2 p0
    have hr2 := HR1.out.below hb2 p1
    clear q0 q1 q2 q3 q4 f0 f1 f2 f3 f4
    have hz2 := hb2.size
    have p2 := hr2.lt
    cases hid : isIdB k n s x es with
    | false =>
      have hno : resG (areB ds && isIdB k n s x es) s x ds = (.mk ⟨#[]⟩ [] 0 0, 0) := by rw [hA, hid]; rfl
      obtain ⟨r0, r1, r2, r3, g0, g1, g2, g3⟩ := hr2
      have HA := Lib.hid hA; clear hA; have HID := Lib.hid hid; clear hid; have HNO := Lib.hid hno; clear hno; have HQ2 := Lib.hid hq2; clear hq2
      go_wp2_with fail
      refine bodyPost_ret (v := .tuple #[.agg #[.string ⟨#[]⟩, .slice none 0 0, .int .i64 0, .int .i64 0], .int .i64 0]) (by simp [results, Try.results40, go_sem, r0, r1, r2, r3]) rfl ?_
      rw [HNO.out]
      exact ⟨none, 0, rfl, M.Mine.nil _ _ _ _ (by decide), by (repeat (first | with_reducible assumption | with_reducible exact Below.refl _ _ | with_reducible refine Below.drew ?_ | with_reducible refine belowDrewN ?_ _ | ((with_reducible refine Below.setCell ?_ ?_ _); rotate_left; focus (first | omega | (simp; done) | (simp; omega))) | ((with_reducible refine Below.alloc ?_ ?_ _); rotate_left; focus (first | omega | (simp; done) | (simp; omega))) | ((with_reducible refine Below.trans ?_ (Below.mono hb1 ?_)); rotate_left; focus (first | omega | (simp; done) | (simp; omega))) | ((with_reducible refine Below.trans ?_ (Below.mono hb2 ?_)); rotate_left; focus (first | omega | (simp; done) | (simp; omega)))))⟩
    | true =>
      have hno : resG (areB ds && isIdB k n s x es) s x ds = resB s x ds := by rw [hA, hid]; rfl
      have hbz : Below w.heap.size w w2 := by (repeat (first | with_reducible assumption | with_reducible exact Below.refl _ _ | with_reducible refine Below.drew ?_ | with_reducible refine belowDrewN ?_ _ | ((with_reducible refine Below.setCell ?_ ?_ _); rotate_left; focus (first | omega | (simp; done) | (simp; omega))) | ((with_reducible refine Below.alloc ?_ ?_ _); rotate_left; focus (first | omega | (simp; done) | (simp; omega))) | ((with_reducible refine Below.trans ?_ (Below.mono hb1 ?_)); rotate_left; focus (first | omega | (simp; done) | (simp; omega))) | ((with_reducible refine Below.trans ?_ (Below.mono hb2 ?_)); rotate_left; focus (first | omega | (simp; done) | (simp; omega)))))
      obtain ⟨q0, q1, q2, q3, q4, f0, f1, f2, f3, f4⟩ := hq2
      have HA := Lib.hid hA; clear hA; have HID := Lib.hid hid; clear hid; have HNO := Lib.hid hno; clear hno; have HR2 := Lib.hid hr2; clear hr2
      go_wp2_with fail
      refine (l3Resolve_calls ds a cap ms k n s x xa xc ia ims.length ic _ (by omega) HI.out (HIN.out.below (by (repeat (first | with_reducible assumption | with_reducible exact Below.refl _ _ | with_reducible refine Below.drew ?_ | with_reducible refine belowDrewN ?_ _ | ((with_reducible refine Below.setCell ?_ ?_ _); rotate_left; focus (first | omega | (simp; done) | (simp; omega))) | ((with_reducible refine Below.alloc ?_ ?_ _); rotate_left; focus (first | omega | (simp; done) | (simp; omega))) | ((with_reducible refine Below.trans ?_ (Below.mono hbz ?_)); rotate_left; focus (first | omega | (simp; done) | (simp; omega))))))) (HX.out.below (by (repeat (first | with_reducible assumption | with_reducible exact Below.refl _ _ | with_reducible refine Below.drew ?_ | with_reducible refine belowDrewN ?_ _ | ((with_reducible refine Below.setCell ?_ ?_ _); rotate_left; focus (first | omega | (simp; done) | (simp; omega))) | ((with_reducible refine Below.alloc ?_ ?_ _); rotate_left; focus (first | omega | (simp; done) | (simp; omega))) | ((with_reducible refine Below.trans ?_ (Below.mono hbz ?_)); rotate_left; focus (first | omega | (simp; done) | (simp; omega)))))))).mono ?_
      rintro e w3 ⟨xa3, xc3, rfl, hm3, hb3⟩
      have hz3 := hb3.size
      obtain ⟨r0, r1, r2, r3, g0, g1, g2, g3⟩ := HR2.out.below hb3 p2
      generalize hres : resB s x ds = R at *
      have HM3 := Lib.hid hm3; clear hm3
      go_wp2_with fail
      refine bodyPost_ret (v := .tuple #[.agg #[.string R.1.s, .slice xa3 R.1.x.length xc3, .int .i64 R.1.k, .int .i64 R.1.n], .int .i64 R.2]) (by simp [results, Try.results40, go_sem, r0, r1, r2, r3]) rfl ?_
      rw [HNO.out]
      exact ⟨xa3, xc3, rfl, by (exact M.Mine.mono (M.Mine.keep HM3.out (fun b hb1 hb2 => by (try simp at hb1); simp (disch := (first | omega | (simp; omega))) only [heapSet, heapNew, heapDrew, heapDrewN])) (by first | omega | (simp; done) | (simp; omega))), by (repeat (first | with_reducible assumption | with_reducible exact Below.refl _ _ | with_reducible refine Below.drew ?_ | with_reducible refine belowDrewN ?_ _ | ((with_reducible refine Below.setCell ?_ ?_ _); rotate_left; focus (first | omega | (simp; done) | (simp; omega))) | ((with_reducible refine Below.alloc ?_ ?_ _); rotate_left; focus (first | omega | (simp; done) | (simp; omega))) | ((with_reducible refine Below.trans ?_ (Below.mono hbz ?_)); rotate_left; focus (first | omega | (simp; done) | (simp; omega))) | ((with_reducible refine Below.trans ?_ (Below.mono hb3 ?_)); rotate_left; focus (first | omega | (simp; done) | (simp; omega)))))⟩
end Go.Proofs.Ytkofpfcbjfkdpaa
