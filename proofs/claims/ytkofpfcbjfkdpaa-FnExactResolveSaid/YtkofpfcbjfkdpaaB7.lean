/-
  Walks: the program's lookUp. No condition.
-/
import Derived.Test.YtkofpfcbjfkdpaaB5
set_option linter.unusedVariables false
set_option linter.unusedSimpArgs false
set_option maxRecDepth 100000
namespace Go.Proofs.Ytkofpfcbjfkdpaa
open Go.RowKit

theorem RetEq.q {v : Value} {w : World} {e : Ending} {w' : World} (h : RetEq v w e w') : RetQ v w e w' := ⟨h.1, 0, h.2.symm⟩
/-- What resolving hands back. -/
def RetRes (r : Bnd × Int) (w : World) (en : Ending) (w' : World) : Prop :=
  ∃ xa xc, en = .returned (.tuple #[.agg #[.string r.1.s, .slice xa r.1.x.length xc, .int .i64 r.1.k, .int .i64 r.1.n], .int .i64 r.2]) ∧ (M.sl xa xc 1 3 (intM r.1.x)).Mine w' w.heap.size ∧ Below w.heap.size w w'
/-- the best so far -/
def BestAt (s : ByteArray) (x : List Int) (ds : List Bnd) (j : Nat) (b : Int) : Prop :=
  (b = -1 ∧ bestOf (cands s x (ds.take j)) = none) ∨ ∃ (i : Nat) (c : Bnd), b = (i : Int) ∧ i < j ∧ ds[i]? = some c ∧ bestOf (cands s x (ds.take j)) = some c
theorem BestAt.zero (s : ByteArray) (x : List Int) (ds : List Bnd) : BestAt s x ds 0 (-1) := .inl ⟨rfl, by simp [cands, bestOf]⟩
theorem BestAt.no {s : ByteArray} {x : List Int} {ds : List Bnd} {j : Nat} {b : Int} {d : Bnd} (h : BestAt s x ds j b) (hd : ds[j]? = some d) (hc : candB s x d = false) : BestAt s x ds (j + 1) b := by
  rcases h with ⟨h1, h2⟩ | ⟨i, c, h1, h2, h3, h4⟩
  · exact .inl ⟨h1, by rw [cands_no hd hc]; exact h2⟩
  · exact .inr ⟨i, c, h1, by omega, h3, by rw [cands_no hd hc]; exact h4⟩
theorem BestAt.first {s : ByteArray} {x : List Int} {ds : List Bnd} {j : Nat} {d : Bnd} (h2 : bestOf (cands s x (ds.take j)) = none) (hd : ds[j]? = some d) (hc : candB s x d = true) : BestAt s x ds (j + 1) (j : Int) :=
  .inr ⟨j, d, rfl, by omega, hd, by rw [cands_yes hd hc, bestOf_snoc, h2]; rfl⟩
theorem BestAt.more {s : ByteArray} {x : List Int} {ds : List Bnd} {j : Nat} {d c : Bnd} (h2 : bestOf (cands s x (ds.take j)) = some c) (hd : ds[j]? = some d) (hc : candB s x d = true) (hl : c.x.length < d.x.length) : BestAt s x ds (j + 1) (j : Int) :=
  .inr ⟨j, d, rfl, by omega, hd, by rw [cands_yes hd hc, bestOf_snoc, h2]; simp [better, hl]⟩
theorem BestAt.stay {s : ByteArray} {x : List Int} {ds : List Bnd} {i j : Nat} {d c : Bnd} (hi : i < j) (hdi : ds[i]? = some c) (h2 : bestOf (cands s x (ds.take j)) = some c) (hd : ds[j]? = some d) (hc : candB s x d = true) (hl : ¬ c.x.length < d.x.length) : BestAt s x ds (j + 1) (i : Int) :=
  .inr ⟨i, c, rfl, by omega, hdi, by rw [cands_yes hd hc, bestOf_snoc, h2]; simp [better, hl]⟩
theorem iWithin_q (a : Option Addr) (cap : Nat) (l : List Int) (a' : Option Addr) (cap' : Nat) (r : List Int) (w : World) (h : (M.sl a cap 1 3 (intM l)).In w) (h' : (M.sl a' cap' 1 3 (intM r)).In w) :
    Calls Try.prog 159 #[.slice a l.length cap, .slice a' r.length cap'] w (RetQ (.bool (subB l r)) w) := (iWithin_eq a cap l a' cap' r w h h').mono fun _ _ h => h.q
set_option maxHeartbeats 4000000 in
theorem lookUp_calls (ds : List Bnd) (a : Option Addr) (cap : Nat) (ms : List M) (k n : Int) (s : ByteArray) (x : List Int) (xa : Option Addr) (xc : Nat) (ia : Option Addr) (il ic : Nat) (w : World)
    (hB : ds.length + Bnd.wtX ds ≤ 4000000) (hi : Bnd.IsL ds ms) (hin : (M.sl a cap 4 49 ms).In w) (hx : (M.sl xa xc 1 3 (intM x)).In w) :
    Calls Try.prog 113 #[.slice a ms.length cap, .agg #[.int .i64 k, .int .i64 n, .string s, .slice xa x.length xc, .slice ia il ic]] w (RetRes (resB s x ds) w) := by
  have hl := hi.length
  have hcap := hin.len
  have hxl := Ints.len hx
  have HI := Lib.hid hi; clear hi; have HIN := Lib.hid hin; clear hin; have HX := Lib.hid hx; clear hx; have HL := Lib.hid hl; clear hl
  go_enter Try.func113, Try.ntmps113
  go_wp2_with fail
  go_loopw [6, 13] (fun t i wr => ∃ (j : Nat) (bi : Int), j ≤ ms.length ∧ i = .int .i64 j ∧ t = .int .i64 bi ∧ BestAt s x ds j bi ∧ SBox w.heap.size k n s (.slice xa x.length xc) (.slice ia il ic) wr ∧ BBox (w.heap.size + 1) ⟨#[]⟩ (.slice none 0 0) 0 0 wr ∧ Below w.heap.size w wr ∧ w.heap.size + 1 + 1 ≤ wr.heap.size) (fun _ i _ => ms.length - (intOf i).toNat)
  case atStart => exact ⟨0, -1, Nat.zero_le _, rfl, rfl, BestAt.zero _ _ _, (SBox.new _ _ _ _ _ _).of (heapNew _ _ _ (by simp)), (by have h := BBox.new ⟨#[]⟩ (.slice none 0 0) 0 0 (w.alloc (.cells #[.int .i64 k, .int .i64 n, .string s, .slice xa x.length xc, .slice ia il ic] 43)); simpa using h), by (repeat (first | with_reducible assumption | with_reducible exact Below.refl _ _ | with_reducible refine Below.drew ?_ | with_reducible refine belowDrewN ?_ _ | ((with_reducible refine Below.setCell ?_ ?_ _); rotate_left; focus (first | omega | (simp; done) | (simp; omega))) | ((with_reducible refine Below.alloc ?_ ?_ _); rotate_left; focus (first | omega | (simp; done) | (simp; omega))))), by simp⟩
  case round =>
    obtain ⟨j, bi, hj, rfl, rfl, hbest, hq, hr, hb, hsz⟩ := hrel
    have p1 := hq.lt
    have p2 := hr.lt
    have hq0 := hq
    obtain ⟨q0, q1, q2, q3, q4, f0, f1, f2, f3, f4⟩ := hq
    by_cases hlt : j < ms.length
    · obtain ⟨b, off, s1, x1, k1, n1, xa1, xc1, rfl, hd, hx1, c0, c1, c2, c3⟩ := Bnd.elem HIN.out HI.out j hlt
      have hbl := World.block_lt_of_cell? w _ c0
      replace c0 := (hb.cell (p := ⟨b, off + j * 4, none⟩) hbl).trans c0
      replace c1 := (hb.cell (p := ⟨b, off + j * 4 + 1, none⟩) hbl).trans c1
      replace c2 := (hb.cell (p := ⟨b, off + j * 4 + 2, none⟩) hbl).trans c2
      replace c3 := (hb.cell (p := ⟨b, off + j * 4 + 3, none⟩) hbl).trans c3
      have hbA : Below wr.heap.size wr (wr.alloc (.cells #[.string s1, .slice xa1 x1.length xc1, .int .i64 k1, .int .i64 n1] 49)) := by (repeat (first | with_reducible assumption | with_reducible exact Below.refl _ _ | with_reducible refine Below.drew ?_ | with_reducible refine belowDrewN ?_ _ | ((with_reducible refine Below.setCell ?_ ?_ _); rotate_left; focus (first | omega | (simp; done) | (simp; omega))) | ((with_reducible refine Below.alloc ?_ ?_ _); rotate_left; focus (first | omega | (simp; done) | (simp; omega)))))
      have hq1' := hq0.below hbA p1
      have hr1' := hr.below hbA p2
      have hbB : Below w.heap.size w (wr.alloc (.cells #[.string s1, .slice xa1 x1.length xc1, .int .i64 k1, .int .i64 n1] 49)) := by (repeat (first | with_reducible assumption | with_reducible exact Below.refl _ _ | with_reducible refine Below.drew ?_ | with_reducible refine belowDrewN ?_ _ | ((with_reducible refine Below.setCell ?_ ?_ _); rotate_left; focus (first | omega | (simp; done) | (simp; omega))) | ((with_reducible refine Below.alloc ?_ ?_ _); rotate_left; focus (first | omega | (simp; done) | (simp; omega))) | ((with_reducible refine Below.trans ?_ (Below.mono hb ?_)); rotate_left; focus (first | omega | (simp; done) | (simp; omega)))))
      by_cases hs : s1 = s
      · have hss : (s1.toList == s.toList) = true := by rw [hs]; simp
        cases hsub : subB x1 x with
        | true =>
          have hcy := candB_yes (b := .mk s1 x1 k1 n1) hs hsub
          rcases hbest with ⟨rfl, hn⟩ | ⟨i, ⟨si, xi, ki, ni⟩, rfl, hij, hdi, hsome⟩
          · have hnext := BestAt.first hn hd hcy
            have HD := Lib.hid hd; clear hd; have HX1 := Lib.hid hx1; clear hx1; have HS := Lib.hid hs; clear hs; have HCY := Lib.hid hcy; clear hcy; have HN := Lib.hid hn; clear hn; have HNEXT := Lib.hid hnext; clear hnext; have HQ0 := Lib.hid hq0; clear hq0; have HQ1' := Lib.hid hq1'; clear hq1'; have HR := Lib.hid hr; clear hr; have HR1' := Lib.hid hr1'; clear hr1'; have HBA := Lib.hid hbA; clear hbA; have HBB := Lib.hid hbB; clear hbB
            go_wp2_with fail
            go_quiet (first | (go_at_call 159; refine Calls.quiet_of (iWithin_q xa1 xc1 x1 xa xc x _ (HX1.out.below (by (repeat (first | with_reducible assumption | with_reducible exact Below.refl _ _ | with_reducible refine Below.drew ?_ | with_reducible refine belowDrewN ?_ _ | ((with_reducible refine Below.setCell ?_ ?_ _); rotate_left; focus (first | omega | (simp; done) | (simp; omega))) | ((with_reducible refine Below.alloc ?_ ?_ _); rotate_left; focus (first | omega | (simp; done) | (simp; omega))) | ((with_reducible refine Below.trans ?_ (Below.mono hb ?_)); rotate_left; focus (first | omega | (simp; done) | (simp; omega))))))) (HX.out.below (by (repeat (first | with_reducible assumption | with_reducible exact Below.refl _ _ | with_reducible refine Below.drew ?_ | with_reducible refine belowDrewN ?_ _ | ((with_reducible refine Below.setCell ?_ ?_ _); rotate_left; focus (first | omega | (simp; done) | (simp; omega))) | ((with_reducible refine Below.alloc ?_ ?_ _); rotate_left; focus (first | omega | (simp; done) | (simp; omega))) | ((with_reducible refine Below.trans ?_ (Below.mono hb ?_)); rotate_left; focus (first | omega | (simp; done) | (simp; omega))))))))))
            try simp only [hsub]
            go_wp2_with fail
            go_roundw
            case rel => exact ⟨j + 1, (j : Int), by omega, by go_num, rfl, HNEXT.out, HQ1'.out.of (heapDrewN _ _ _), HR1'.out.of (heapDrewN _ _ _), belowDrewN HBB.out _, by simp; omega⟩
            case measure => simp [intOf]; omega
          · obtain ⟨b', off', si', xi', ki', ni', xai, xci, hbo, hdi', hxi, e0, e1, e2, e3⟩ := Bnd.elem HIN.out HI.out i (by omega)
            simp only [Option.some.injEq, Addr.mk.injEq, and_true] at hbo
            obtain ⟨rfl, rfl⟩ := hbo
            rw [hdi] at hdi'
            simp only [Option.some.injEq, Bnd.mk.injEq] at hdi'
            obtain ⟨rfl, rfl, rfl, rfl⟩ := hdi'
            replace e1 := (hb.cell (p := ⟨b, off + i * 4 + 1, none⟩) hbl).trans e1
            clear e0 e2 e3
            have hbw := World.block_lt_of_cell? wr _ e1
            have hi0 : (0 : Int) ≤ (i : Int) := by omega
            have him : (i : Int) < (ms.length : Int) := by omega
            have hilt : i < ms.length := by omega
            by_cases hlen : xi.length < x1.length
            · have hnext := BestAt.more hsome hd hcy hlen
              have hlen' : (xi.length : Int) < (x1.length : Int) := by omega
              have HD := Lib.hid hd; clear hd; have HX1 := Lib.hid hx1; clear hx1; have HXI := Lib.hid hxi; clear hxi; have HS := Lib.hid hs; clear hs; have HCY := Lib.hid hcy; clear hcy; have HSOME := Lib.hid hsome; clear hsome; have HNEXT := Lib.hid hnext; clear hnext; have HQ0 := Lib.hid hq0; clear hq0; have HQ1' := Lib.hid hq1'; clear hq1'; have HR := Lib.hid hr; clear hr; have HR1' := Lib.hid hr1'; clear hr1'; have HBA := Lib.hid hbA; clear hbA; have HBB := Lib.hid hbB; clear hbB; have HDI := Lib.hid hdi; clear hdi; have HIJ := Lib.hid hij; clear hij; have HLEN := Lib.hid hlen; clear hlen
              go_wp2_with fail
              go_quiet (first | (go_at_call 159; refine Calls.quiet_of (iWithin_q xa1 xc1 x1 xa xc x _ (HX1.out.below (by (repeat (first | with_reducible assumption | with_reducible exact Below.refl _ _ | with_reducible refine Below.drew ?_ | with_reducible refine belowDrewN ?_ _ | ((with_reducible refine Below.setCell ?_ ?_ _); rotate_left; focus (first | omega | (simp; done) | (simp; omega))) | ((with_reducible refine Below.alloc ?_ ?_ _); rotate_left; focus (first | omega | (simp; done) | (simp; omega))) | ((with_reducible refine Below.trans ?_ (Below.mono hb ?_)); rotate_left; focus (first | omega | (simp; done) | (simp; omega))))))) (HX.out.below (by (repeat (first | with_reducible assumption | with_reducible exact Below.refl _ _ | with_reducible refine Below.drew ?_ | with_reducible refine belowDrewN ?_ _ | ((with_reducible refine Below.setCell ?_ ?_ _); rotate_left; focus (first | omega | (simp; done) | (simp; omega))) | ((with_reducible refine Below.alloc ?_ ?_ _); rotate_left; focus (first | omega | (simp; done) | (simp; omega))) | ((with_reducible refine Below.trans ?_ (Below.mono hb ?_)); rotate_left; focus (first | omega | (simp; done) | (simp; omega))))))))))
              try simp only [hsub]
              go_wp2_with fail
              go_roundw
              case rel => exact ⟨j + 1, (j : Int), by omega, by go_num, rfl, HNEXT.out, HQ1'.out.of (heapDrewN _ _ _), HR1'.out.of (heapDrewN _ _ _), belowDrewN HBB.out _, by simp; omega⟩
              case measure => simp [intOf]; omega
            · have hnext := BestAt.stay hij hdi hsome hd hcy hlen
              have hlen' : ¬ (xi.length : Int) < (x1.length : Int) := by omega
              have HD := Lib.hid hd; clear hd; have HX1 := Lib.hid hx1; clear hx1; have HXI := Lib.hid hxi; clear hxi; have HS := Lib.hid hs; clear hs; have HCY := Lib.hid hcy; clear hcy; have HSOME := Lib.hid hsome; clear hsome; have HNEXT := Lib.hid hnext; clear hnext; have HQ0 := Lib.hid hq0; clear hq0; have HQ1' := Lib.hid hq1'; clear hq1'; have HR := Lib.hid hr; clear hr; have HR1' := Lib.hid hr1'; clear hr1'; have HBA := Lib.hid hbA; clear hbA; have HBB := Lib.hid hbB; clear hbB; have HDI := Lib.hid hdi; clear hdi; have HIJ := Lib.hid hij; clear hij; have HLEN := Lib.hid hlen; clear hlen
              go_wp2_with fail
              go_quiet (first | (go_at_call 159; refine Calls.quiet_of (iWithin_q xa1 xc1 x1 xa xc x _ (HX1.out.below (by (repeat (first | with_reducible assumption | with_reducible exact Below.refl _ _ | with_reducible refine Below.drew ?_ | with_reducible refine belowDrewN ?_ _ | ((with_reducible refine Below.setCell ?_ ?_ _); rotate_left; focus (first | omega | (simp; done) | (simp; omega))) | ((with_reducible refine Below.alloc ?_ ?_ _); rotate_left; focus (first | omega | (simp; done) | (simp; omega))) | ((with_reducible refine Below.trans ?_ (Below.mono hb ?_)); rotate_left; focus (first | omega | (simp; done) | (simp; omega))))))) (HX.out.below (by (repeat (first | with_reducible assumption | with_reducible exact Below.refl _ _ | with_reducible refine Below.drew ?_ | with_reducible refine belowDrewN ?_ _ | ((with_reducible refine Below.setCell ?_ ?_ _); rotate_left; focus (first | omega | (simp; done) | (simp; omega))) | ((with_reducible refine Below.alloc ?_ ?_ _); rotate_left; focus (first | omega | (simp; done) | (simp; omega))) | ((with_reducible refine Below.trans ?_ (Below.mono hb ?_)); rotate_left; focus (first | omega | (simp; done) | (simp; omega))))))))))
              try simp only [hsub]
              go_wp2_with fail
              go_roundw
              case rel => exact ⟨j + 1, (i : Int), by omega, by go_num, rfl, HNEXT.out, HQ1'.out.of (heapDrewN _ _ _), HR1'.out.of (heapDrewN _ _ _), belowDrewN HBB.out _, by simp; omega⟩
              case measure => simp [intOf]; omega
        | false =>
          have hnext := hbest.no hd (candB_no2 (b := .mk s1 x1 k1 n1) hsub)
          have HD := Lib.hid hd; clear hd; have HX1 := Lib.hid hx1; clear hx1; have HS := Lib.hid hs; clear hs; have HBEST := Lib.hid hbest; clear hbest; have HNEXT := Lib.hid hnext; clear hnext; have HQ0 := Lib.hid hq0; clear hq0; have HQ1' := Lib.hid hq1'; clear hq1'; have HR := Lib.hid hr; clear hr; have HR1' := Lib.hid hr1'; clear hr1'; have HBA := Lib.hid hbA; clear hbA; have HBB := Lib.hid hbB; clear hbB
          go_wp2_with fail
          go_quiet (first | (go_at_call 159; refine Calls.quiet_of (iWithin_q xa1 xc1 x1 xa xc x _ (HX1.out.below (by (repeat (first | with_reducible assumption | with_reducible exact Below.refl _ _ | with_reducible refine Below.drew ?_ | with_reducible refine belowDrewN ?_ _ | ((with_reducible refine Below.setCell ?_ ?_ _); rotate_left; focus (first | omega | (simp; done) | (simp; omega))) | ((with_reducible refine Below.alloc ?_ ?_ _); rotate_left; focus (first | omega | (simp; done) | (simp; omega))) | ((with_reducible refine Below.trans ?_ (Below.mono hb ?_)); rotate_left; focus (first | omega | (simp; done) | (simp; omega))))))) (HX.out.below (by (repeat (first | with_reducible assumption | with_reducible exact Below.refl _ _ | with_reducible refine Below.drew ?_ | with_reducible refine belowDrewN ?_ _ | ((with_reducible refine Below.setCell ?_ ?_ _); rotate_left; focus (first | omega | (simp; done) | (simp; omega))) | ((with_reducible refine Below.alloc ?_ ?_ _); rotate_left; focus (first | omega | (simp; done) | (simp; omega))) | ((with_reducible refine Below.trans ?_ (Below.mono hb ?_)); rotate_left; focus (first | omega | (simp; done) | (simp; omega))))))))))
          try simp only [hsub]
          go_wp2_with fail
          go_roundw
          case rel => exact ⟨j + 1, bi, by omega, by go_num, rfl, HNEXT.out, HQ1'.out.of (heapDrewN _ _ _), HR1'.out.of (heapDrewN _ _ _), belowDrewN HBB.out _, by simp; omega⟩
          case measure => simp [intOf]; omega
      · have hss := ba_ne hs
        have hnext := hbest.no hd (candB_no1 (b := .mk s1 x1 k1 n1) hs)
        have HD := Lib.hid hd; clear hd; have HX1 := Lib.hid hx1; clear hx1; have HS := Lib.hid hs; clear hs; have HBEST := Lib.hid hbest; clear hbest; have HNEXT := Lib.hid hnext; clear hnext; have HQ0 := Lib.hid hq0; clear hq0; have HQ1' := Lib.hid hq1'; clear hq1'; have HR := Lib.hid hr; clear hr; have HR1' := Lib.hid hr1'; clear hr1'; have HBA := Lib.hid hbA; clear hbA; have HBB := Lib.hid hbB; clear hbB
        go_wp2_with fail
        go_quiet (first | (go_at_call 159; refine Calls.quiet_of (iWithin_q xa1 xc1 x1 xa xc x _ (HX1.out.below (by (repeat (first | with_reducible assumption | with_reducible exact Below.refl _ _ | with_reducible refine Below.drew ?_ | with_reducible refine belowDrewN ?_ _ | ((with_reducible refine Below.setCell ?_ ?_ _); rotate_left; focus (first | omega | (simp; done) | (simp; omega))) | ((with_reducible refine Below.alloc ?_ ?_ _); rotate_left; focus (first | omega | (simp; done) | (simp; omega))) | ((with_reducible refine Below.trans ?_ (Below.mono hb ?_)); rotate_left; focus (first | omega | (simp; done) | (simp; omega))))))) (HX.out.below (by (repeat (first | with_reducible assumption | with_reducible exact Below.refl _ _ | with_reducible refine Below.drew ?_ | with_reducible refine belowDrewN ?_ _ | ((with_reducible refine Below.setCell ?_ ?_ _); rotate_left; focus (first | omega | (simp; done) | (simp; omega))) | ((with_reducible refine Below.alloc ?_ ?_ _); rotate_left; focus (first | omega | (simp; done) | (simp; omega))) | ((with_reducible refine Below.trans ?_ (Below.mono hb ?_)); rotate_left; focus (first | omega | (simp; done) | (simp; omega))))))))))
        go_wp2_with fail
        go_roundw
        case rel => exact ⟨j + 1, bi, by omega, by go_num, rfl, HNEXT.out, HQ1'.out.of (heapDrewN _ _ _), HR1'.out.of (heapDrewN _ _ _), belowDrewN HBB.out _, by simp; omega⟩
        case measure => simp [intOf]; omega
    · have hj2 : j = ms.length := by omega
      subst hj2
      rw [HL.out] at hbest
      rcases hbest with ⟨rfl, hn⟩ | ⟨i, ⟨si, xi, ki, ni⟩, rfl, hij, hdi, hsome⟩
      · rw [List.take_length] at hn
        have hres := resB_none hn
        obtain ⟨r0, r1, r2, r3, g0, g1, g2, g3⟩ := hr
        have HN := Lib.hid hn; clear hn; have HRES := Lib.hid hres; clear hres; have HQ0 := Lib.hid hq0; clear hq0
        go_wp2_with fail
        refine bodyPost_ret (v := .tuple #[.agg #[.string ⟨#[]⟩, .slice none 0 0, .int .i64 0, .int .i64 0], .int .i64 0]) (by simp [results, Try.results113, go_sem, r0, r1, r2, r3]) rfl ?_
        rw [HRES.out]
        exact ⟨none, 0, rfl, M.Mine.nil _ _ _ _ (by decide), by (repeat (first | with_reducible assumption | with_reducible exact Below.refl _ _ | with_reducible refine Below.drew ?_ | with_reducible refine belowDrewN ?_ _ | ((with_reducible refine Below.setCell ?_ ?_ _); rotate_left; focus (first | omega | (simp; done) | (simp; omega))) | ((with_reducible refine Below.alloc ?_ ?_ _); rotate_left; focus (first | omega | (simp; done) | (simp; omega))) | ((with_reducible refine Below.trans ?_ (Below.mono hb ?_)); rotate_left; focus (first | omega | (simp; done) | (simp; omega)))))⟩
      · rw [List.take_length] at hsome
        have hilt : i < ms.length := by have := HL.out; omega
        obtain ⟨b', off', si', xi', ki', ni', xai, xci, rfl, hdi', hxi, e0, e1, e2, e3⟩ := Bnd.elem HIN.out HI.out i hilt
        rw [hdi] at hdi'
        simp only [Option.some.injEq, Bnd.mk.injEq] at hdi'
        obtain ⟨rfl, rfl, rfl, rfl⟩ := hdi'
        have hbl := World.block_lt_of_cell? w _ e0
        have hi0 : (0 : Int) ≤ (i : Int) := by omega
        have hineg : ¬ (i : Int) < 0 := by omega
        have him : (i : Int) < (ms.length : Int) := by omega
        have hxB : xi.length ≤ 4000000 := Bnd.x_le hdi (by omega)
        have HSOME := Lib.hid hsome; clear hsome; have HDI := Lib.hid hdi; clear hdi; have HQ0 := Lib.hid hq0; clear hq0; have HR := Lib.hid hr; clear hr; have HXI := Lib.hid hxi; clear hxi
        clear q0 q1 q2 q3 q4 f0 f1 f2 f3 f4 hij
        generalize hW1 : wr = wq at *
        clear hW1
        go_wp2_with fail
        go_loopw [53] (fun t wr => ∃ (j : Nat), j ≤ ms.length ∧ t = .int .i64 j ∧ (∀ c ∈ cands s x (ds.take j), subB c.x xi = true) ∧ SBox w.heap.size k n s (.slice xa x.length xc) (.slice ia il ic) wr ∧ BBox (w.heap.size + 1) ⟨#[]⟩ (.slice none 0 0) 0 0 wr ∧ Below w.heap.size w wr ∧ w.heap.size + 1 + 1 ≤ wr.heap.size) (fun t _ => ms.length - (intOf t).toNat)
        case atStart => exact ⟨0, Nat.zero_le _, rfl, by simp [cands], HQ0.out, HR.out, hb, hsz⟩
        case round =>
          obtain ⟨j, hj, rfl, hall, hq, hr, hb, hsz⟩ := hrel
          have p1 := hq.lt
          have p2 := hr.lt
          have hq0 := hq
          obtain ⟨q0, q1, q2, q3, q4, f0, f1, f2, f3, f4⟩ := hq
          have e1' := (hb.cell (p := ⟨b', off' + i * 4 + 1, none⟩) hbl).trans e1
          have hbw := World.block_lt_of_cell? wr _ e1'
          by_cases hlt : j < ms.length
          · obtain ⟨b, off, s1, x1, k1, n1, xa1, xc1, hbo, hd, hx1, c0, c1, c2, c3⟩ := Bnd.elem HIN.out HI.out j hlt
            simp only [Option.some.injEq, Addr.mk.injEq, and_true] at hbo
            obtain ⟨rfl, rfl⟩ := hbo
            replace c0 := (hb.cell (p := ⟨b', off' + j * 4, none⟩) hbl).trans c0
            replace c1 := (hb.cell (p := ⟨b', off' + j * 4 + 1, none⟩) hbl).trans c1
            replace c2 := (hb.cell (p := ⟨b', off' + j * 4 + 2, none⟩) hbl).trans c2
            replace c3 := (hb.cell (p := ⟨b', off' + j * 4 + 3, none⟩) hbl).trans c3
            have hbA : Below wr.heap.size wr (wr.alloc (.cells #[.string s1, .slice xa1 x1.length xc1, .int .i64 k1, .int .i64 n1] 49)) := by (repeat (first | with_reducible assumption | with_reducible exact Below.refl _ _ | with_reducible refine Below.drew ?_ | with_reducible refine belowDrewN ?_ _ | ((with_reducible refine Below.setCell ?_ ?_ _); rotate_left; focus (first | omega | (simp; done) | (simp; omega))) | ((with_reducible refine Below.alloc ?_ ?_ _); rotate_left; focus (first | omega | (simp; done) | (simp; omega)))))
            have hq1' := hq0.below hbA p1
            have hr1' := hr.below hbA p2
            have hbB : Below w.heap.size w (wr.alloc (.cells #[.string s1, .slice xa1 x1.length xc1, .int .i64 k1, .int .i64 n1] 49)) := by (repeat (first | with_reducible assumption | with_reducible exact Below.refl _ _ | with_reducible refine Below.drew ?_ | with_reducible refine belowDrewN ?_ _ | ((with_reducible refine Below.setCell ?_ ?_ _); rotate_left; focus (first | omega | (simp; done) | (simp; omega))) | ((with_reducible refine Below.alloc ?_ ?_ _); rotate_left; focus (first | omega | (simp; done) | (simp; omega))) | ((with_reducible refine Below.trans ?_ (Below.mono hb ?_)); rotate_left; focus (first | omega | (simp; done) | (simp; omega)))))
            by_cases hs : s1 = s
            · have hss : (s1.toList == s.toList) = true := by rw [hs]; simp
              cases hsub : subB x1 x with
              | true =>
                have hcy := candB_yes (b := .mk s1 x1 k1 n1) hs hsub
                cases hsub2 : subB x1 xi with
                | true =>
                  have hnext : ∀ c ∈ cands s x (ds.take (j + 1)), subB c.x xi = true := by
                    rw [cands_yes hd hcy]; intro c hc
                    rcases List.mem_append.1 hc with hc | hc
                    · exact hall c hc
                    · simp at hc; subst hc; exact hsub2
                  have HD := Lib.hid hd; clear hd; have HX1 := Lib.hid hx1; clear hx1; have HS := Lib.hid hs; clear hs; have HCY := Lib.hid hcy; clear hcy; have HNEXT := Lib.hid hnext; clear hnext; have HALL := Lib.hid hall; clear hall; have HQ0 := Lib.hid hq0; clear hq0; have HQ1' := Lib.hid hq1'; clear hq1'; have HR := Lib.hid hr; clear hr; have HR1' := Lib.hid hr1'; clear hr1'; have HBA := Lib.hid hbA; clear hbA; have HBB := Lib.hid hbB; clear hbB
                  go_wp2_with fail
                  go_quiet (first | (go_at_call 159; (with_reducible refine Calls.quiet_of (iWithin_q xa1 xc1 x1 xa xc x _ (HX1.out.below (by (repeat (first | with_reducible assumption | with_reducible exact Below.refl _ _ | with_reducible refine Below.drew ?_ | with_reducible refine belowDrewN ?_ _ | ((with_reducible refine Below.setCell ?_ ?_ _); rotate_left; focus (first | omega | (simp; done) | (simp; omega))) | ((with_reducible refine Below.alloc ?_ ?_ _); rotate_left; focus (first | omega | (simp; done) | (simp; omega))) | ((with_reducible refine Below.trans ?_ (Below.mono hb ?_)); rotate_left; focus (first | omega | (simp; done) | (simp; omega))))))) (HX.out.below (by (repeat (first | with_reducible assumption | with_reducible exact Below.refl _ _ | with_reducible refine Below.drew ?_ | with_reducible refine belowDrewN ?_ _ | ((with_reducible refine Below.setCell ?_ ?_ _); rotate_left; focus (first | omega | (simp; done) | (simp; omega))) | ((with_reducible refine Below.alloc ?_ ?_ _); rotate_left; focus (first | omega | (simp; done) | (simp; omega))) | ((with_reducible refine Below.trans ?_ (Below.mono hb ?_)); rotate_left; focus (first | omega | (simp; done) | (simp; omega)))))))))) | (go_at_call 159; (with_reducible refine Calls.quiet_of (iWithin_q xa1 xc1 x1 xai xci xi _ (HX1.out.below (by (repeat (first | with_reducible assumption | with_reducible exact Below.refl _ _ | with_reducible refine Below.drew ?_ | with_reducible refine belowDrewN ?_ _ | ((with_reducible refine Below.setCell ?_ ?_ _); rotate_left; focus (first | omega | (simp; done) | (simp; omega))) | ((with_reducible refine Below.alloc ?_ ?_ _); rotate_left; focus (first | omega | (simp; done) | (simp; omega))) | ((with_reducible refine Below.trans ?_ (Below.mono hb ?_)); rotate_left; focus (first | omega | (simp; done) | (simp; omega))))))) (HXI.out.below (by (repeat (first | with_reducible assumption | with_reducible exact Below.refl _ _ | with_reducible refine Below.drew ?_ | with_reducible refine belowDrewN ?_ _ | ((with_reducible refine Below.setCell ?_ ?_ _); rotate_left; focus (first | omega | (simp; done) | (simp; omega))) | ((with_reducible refine Below.alloc ?_ ?_ _); rotate_left; focus (first | omega | (simp; done) | (simp; omega))) | ((with_reducible refine Below.trans ?_ (Below.mono hb ?_)); rotate_left; focus (first | omega | (simp; done) | (simp; omega)))))))))))
                  try simp only [hsub, hsub2]
                  go_wp2_with fail
                  go_roundw
                  case rel => exact ⟨j + 1, by omega, by go_num, HNEXT.out, HQ1'.out.of (heapDrewN _ _ _), HR1'.out.of (heapDrewN _ _ _), belowDrewN HBB.out _, by simp; omega⟩
                  case measure => simp [intOf]; omega
                | false =>
                  have hres := resB_amb HSOME.out (cands_mem.2 ⟨List.mem_of_getElem? hd, hcy⟩) hsub2
                  obtain ⟨r0, r1, r2, r3, g0, g1, g2, g3⟩ := hr
                  have hr2 : BBox (w.heap.size + 1) ⟨#[]⟩ (.slice none 0 0) 0 0 wr := ⟨r0, r1, r2, r3, g0, g1, g2, g3⟩
                  have HD := Lib.hid hd; clear hd; have HX1 := Lib.hid hx1; clear hx1; have HS := Lib.hid hs; clear hs; have HCY := Lib.hid hcy; clear hcy; have HALL := Lib.hid hall; clear hall; have HQ0 := Lib.hid hq0; clear hq0; have HQ1' := Lib.hid hq1'; clear hq1'; have HR1' := Lib.hid hr1'; clear hr1'; have HR2 := Lib.hid hr2; clear hr2; have HBA := Lib.hid hbA; clear hbA; have HBB := Lib.hid hbB; clear hbB; have HRES := Lib.hid hres; clear hres
                  go_wp2_with fail
                  go_quiet (first | (go_at_call 159; (with_reducible refine Calls.quiet_of (iWithin_q xa1 xc1 x1 xa xc x _ (HX1.out.below (by (repeat (first | with_reducible assumption | with_reducible exact Below.refl _ _ | with_reducible refine Below.drew ?_ | with_reducible refine belowDrewN ?_ _ | ((with_reducible refine Below.setCell ?_ ?_ _); rotate_left; focus (first | omega | (simp; done) | (simp; omega))) | ((with_reducible refine Below.alloc ?_ ?_ _); rotate_left; focus (first | omega | (simp; done) | (simp; omega))) | ((with_reducible refine Below.trans ?_ (Below.mono hb ?_)); rotate_left; focus (first | omega | (simp; done) | (simp; omega))))))) (HX.out.below (by (repeat (first | with_reducible assumption | with_reducible exact Below.refl _ _ | with_reducible refine Below.drew ?_ | with_reducible refine belowDrewN ?_ _ | ((with_reducible refine Below.setCell ?_ ?_ _); rotate_left; focus (first | omega | (simp; done) | (simp; omega))) | ((with_reducible refine Below.alloc ?_ ?_ _); rotate_left; focus (first | omega | (simp; done) | (simp; omega))) | ((with_reducible refine Below.trans ?_ (Below.mono hb ?_)); rotate_left; focus (first | omega | (simp; done) | (simp; omega)))))))))) | (go_at_call 159; (with_reducible refine Calls.quiet_of (iWithin_q xa1 xc1 x1 xai xci xi _ (HX1.out.below (by (repeat (first | with_reducible assumption | with_reducible exact Below.refl _ _ | with_reducible refine Below.drew ?_ | with_reducible refine belowDrewN ?_ _ | ((with_reducible refine Below.setCell ?_ ?_ _); rotate_left; focus (first | omega | (simp; done) | (simp; omega))) | ((with_reducible refine Below.alloc ?_ ?_ _); rotate_left; focus (first | omega | (simp; done) | (simp; omega))) | ((with_reducible refine Below.trans ?_ (Below.mono hb ?_)); rotate_left; focus (first | omega | (simp; done) | (simp; omega))))))) (HXI.out.below (by (repeat (first | with_reducible assumption | with_reducible exact Below.refl _ _ | with_reducible refine Below.drew ?_ | with_reducible refine belowDrewN ?_ _ | ((with_reducible refine Below.setCell ?_ ?_ _); rotate_left; focus (first | omega | (simp; done) | (simp; omega))) | ((with_reducible refine Below.alloc ?_ ?_ _); rotate_left; focus (first | omega | (simp; done) | (simp; omega))) | ((with_reducible refine Below.trans ?_ (Below.mono hb ?_)); rotate_left; focus (first | omega | (simp; done) | (simp; omega)))))))))))
                  try simp only [hsub, hsub2]
                  go_wp2_with fail
                  refine bodyPost_ret (v := .tuple #[.agg #[.string ⟨#[]⟩, .slice none 0 0, .int .i64 0, .int .i64 0], .int .i64 2]) (by simp [results, Try.results113, go_sem, r0, r1, r2, r3, p2]) rfl ?_
                  rw [HRES.out]
                  exact ⟨none, 0, rfl, M.Mine.nil _ _ _ _ (by decide), by have := HBB.out; (repeat (first | with_reducible assumption | with_reducible exact Below.refl _ _ | with_reducible refine Below.drew ?_ | with_reducible refine belowDrewN ?_ _ | ((with_reducible refine Below.setCell ?_ ?_ _); rotate_left; focus (first | omega | (simp; done) | (simp; omega))) | ((with_reducible refine Below.alloc ?_ ?_ _); rotate_left; focus (first | omega | (simp; done) | (simp; omega))) | ((with_reducible refine Below.trans ?_ (Below.mono hb ?_)); rotate_left; focus (first | omega | (simp; done) | (simp; omega)))))⟩
              | false =>
                have hcn := candB_no2 (s := s) (x := x) (b := .mk s1 x1 k1 n1) hsub
                have hnext : ∀ c ∈ cands s x (ds.take (j + 1)), subB c.x xi = true := by rw [cands_no hd hcn]; exact hall
                have HD := Lib.hid hd; clear hd; have HX1 := Lib.hid hx1; clear hx1; have HS := Lib.hid hs; clear hs; have HCN := Lib.hid hcn; clear hcn; have HNEXT := Lib.hid hnext; clear hnext; have HALL := Lib.hid hall; clear hall; have HQ0 := Lib.hid hq0; clear hq0; have HQ1' := Lib.hid hq1'; clear hq1'; have HR := Lib.hid hr; clear hr; have HR1' := Lib.hid hr1'; clear hr1'; have HBA := Lib.hid hbA; clear hbA; have HBB := Lib.hid hbB; clear hbB
                go_wp2_with fail
                go_quiet (first | (go_at_call 159; (with_reducible refine Calls.quiet_of (iWithin_q xa1 xc1 x1 xa xc x _ (HX1.out.below (by (repeat (first | with_reducible assumption | with_reducible exact Below.refl _ _ | with_reducible refine Below.drew ?_ | with_reducible refine belowDrewN ?_ _ | ((with_reducible refine Below.setCell ?_ ?_ _); rotate_left; focus (first | omega | (simp; done) | (simp; omega))) | ((with_reducible refine Below.alloc ?_ ?_ _); rotate_left; focus (first | omega | (simp; done) | (simp; omega))) | ((with_reducible refine Below.trans ?_ (Below.mono hb ?_)); rotate_left; focus (first | omega | (simp; done) | (simp; omega))))))) (HX.out.below (by (repeat (first | with_reducible assumption | with_reducible exact Below.refl _ _ | with_reducible refine Below.drew ?_ | with_reducible refine belowDrewN ?_ _ | ((with_reducible refine Below.setCell ?_ ?_ _); rotate_left; focus (first | omega | (simp; done) | (simp; omega))) | ((with_reducible refine Below.alloc ?_ ?_ _); rotate_left; focus (first | omega | (simp; done) | (simp; omega))) | ((with_reducible refine Below.trans ?_ (Below.mono hb ?_)); rotate_left; focus (first | omega | (simp; done) | (simp; omega)))))))))) | (go_at_call 159; (with_reducible refine Calls.quiet_of (iWithin_q xa1 xc1 x1 xai xci xi _ (HX1.out.below (by (repeat (first | with_reducible assumption | with_reducible exact Below.refl _ _ | with_reducible refine Below.drew ?_ | with_reducible refine belowDrewN ?_ _ | ((with_reducible refine Below.setCell ?_ ?_ _); rotate_left; focus (first | omega | (simp; done) | (simp; omega))) | ((with_reducible refine Below.alloc ?_ ?_ _); rotate_left; focus (first | omega | (simp; done) | (simp; omega))) | ((with_reducible refine Below.trans ?_ (Below.mono hb ?_)); rotate_left; focus (first | omega | (simp; done) | (simp; omega))))))) (HXI.out.below (by (repeat (first | with_reducible assumption | with_reducible exact Below.refl _ _ | with_reducible refine Below.drew ?_ | with_reducible refine belowDrewN ?_ _ | ((with_reducible refine Below.setCell ?_ ?_ _); rotate_left; focus (first | omega | (simp; done) | (simp; omega))) | ((with_reducible refine Below.alloc ?_ ?_ _); rotate_left; focus (first | omega | (simp; done) | (simp; omega))) | ((with_reducible refine Below.trans ?_ (Below.mono hb ?_)); rotate_left; focus (first | omega | (simp; done) | (simp; omega)))))))))))
                try simp only [hsub]
                go_wp2_with fail
                go_roundw
                case rel => exact ⟨j + 1, by omega, by go_num, HNEXT.out, HQ1'.out.of (heapDrewN _ _ _), HR1'.out.of (heapDrewN _ _ _), belowDrewN HBB.out _, by simp; omega⟩
                case measure => simp [intOf]; omega
            · have hss := ba_ne hs
              have hcn := candB_no1 (s := s) (x := x) (b := .mk s1 x1 k1 n1) hs
              have hnext : ∀ c ∈ cands s x (ds.take (j + 1)), subB c.x xi = true := by rw [cands_no hd hcn]; exact hall
              have HD := Lib.hid hd; clear hd; have HX1 := Lib.hid hx1; clear hx1; have HS := Lib.hid hs; clear hs; have HCN := Lib.hid hcn; clear hcn; have HNEXT := Lib.hid hnext; clear hnext; have HALL := Lib.hid hall; clear hall; have HQ0 := Lib.hid hq0; clear hq0; have HQ1' := Lib.hid hq1'; clear hq1'; have HR := Lib.hid hr; clear hr; have HR1' := Lib.hid hr1'; clear hr1'; have HBA := Lib.hid hbA; clear hbA; have HBB := Lib.hid hbB; clear hbB
              go_wp2_with fail
              go_quiet (first | (go_at_call 159; (with_reducible refine Calls.quiet_of (iWithin_q xa1 xc1 x1 xa xc x _ (HX1.out.below (by (repeat (first | with_reducible assumption | with_reducible exact Below.refl _ _ | with_reducible refine Below.drew ?_ | with_reducible refine belowDrewN ?_ _ | ((with_reducible refine Below.setCell ?_ ?_ _); rotate_left; focus (first | omega | (simp; done) | (simp; omega))) | ((with_reducible refine Below.alloc ?_ ?_ _); rotate_left; focus (first | omega | (simp; done) | (simp; omega))) | ((with_reducible refine Below.trans ?_ (Below.mono hb ?_)); rotate_left; focus (first | omega | (simp; done) | (simp; omega))))))) (HX.out.below (by (repeat (first | with_reducible assumption | with_reducible exact Below.refl _ _ | with_reducible refine Below.drew ?_ | with_reducible refine belowDrewN ?_ _ | ((with_reducible refine Below.setCell ?_ ?_ _); rotate_left; focus (first | omega | (simp; done) | (simp; omega))) | ((with_reducible refine Below.alloc ?_ ?_ _); rotate_left; focus (first | omega | (simp; done) | (simp; omega))) | ((with_reducible refine Below.trans ?_ (Below.mono hb ?_)); rotate_left; focus (first | omega | (simp; done) | (simp; omega)))))))))) | (go_at_call 159; (with_reducible refine Calls.quiet_of (iWithin_q xa1 xc1 x1 xai xci xi _ (HX1.out.below (by (repeat (first | with_reducible assumption | with_reducible exact Below.refl _ _ | with_reducible refine Below.drew ?_ | with_reducible refine belowDrewN ?_ _ | ((with_reducible refine Below.setCell ?_ ?_ _); rotate_left; focus (first | omega | (simp; done) | (simp; omega))) | ((with_reducible refine Below.alloc ?_ ?_ _); rotate_left; focus (first | omega | (simp; done) | (simp; omega))) | ((with_reducible refine Below.trans ?_ (Below.mono hb ?_)); rotate_left; focus (first | omega | (simp; done) | (simp; omega))))))) (HXI.out.below (by (repeat (first | with_reducible assumption | with_reducible exact Below.refl _ _ | with_reducible refine Below.drew ?_ | with_reducible refine belowDrewN ?_ _ | ((with_reducible refine Below.setCell ?_ ?_ _); rotate_left; focus (first | omega | (simp; done) | (simp; omega))) | ((with_reducible refine Below.alloc ?_ ?_ _); rotate_left; focus (first | omega | (simp; done) | (simp; omega))) | ((with_reducible refine Below.trans ?_ (Below.mono hb ?_)); rotate_left; focus (first | omega | (simp; done) | (simp; omega)))))))))))
              go_wp2_with fail
              go_roundw
              case rel => exact ⟨j + 1, by omega, by go_num, HNEXT.out, HQ1'.out.of (heapDrewN _ _ _), HR1'.out.of (heapDrewN _ _ _), belowDrewN HBB.out _, by simp; omega⟩
              case measure => simp [intOf]; omega
          · have hj2 : j = ms.length := by omega
            subst hj2
            rw [HL.out, List.take_length] at hall
            have hres := resB_found HSOME.out hall
            replace e0 := (hb.cell (p := ⟨b', off' + i * 4, none⟩) hbl).trans e0
            replace e2 := (hb.cell (p := ⟨b', off' + i * 4 + 2, none⟩) hbl).trans e2
            replace e3 := (hb.cell (p := ⟨b', off' + i * 4 + 3, none⟩) hbl).trans e3
            have HALL := Lib.hid hall; clear hall; have HRES := Lib.hid hres; clear hres; have HQ0 := Lib.hid hq0; clear hq0; have HR := Lib.hid hr; clear hr
            clear q0 q1 q2 q3 q4 f0 f1 f2 f3 f4
            go_wp2_with fail
            refine (copyBinding_calls si xi ki ni xai xci _ hxB (HXI.out.below (by (repeat (first | with_reducible assumption | with_reducible exact Below.refl _ _ | with_reducible refine Below.drew ?_ | with_reducible refine belowDrewN ?_ _ | ((with_reducible refine Below.setCell ?_ ?_ _); rotate_left; focus (first | omega | (simp; done) | (simp; omega))) | ((with_reducible refine Below.alloc ?_ ?_ _); rotate_left; focus (first | omega | (simp; done) | (simp; omega))) | ((with_reducible refine Below.trans ?_ (Below.mono hb ?_)); rotate_left; focus (first | omega | (simp; done) | (simp; omega)))))))).mono ?_
            rintro e w5 ⟨xa5, xc5, rfl, hm5, hb5⟩
            have hz5 := hb5.size
            obtain ⟨r0, r1, r2, r3, g0, g1, g2, g3⟩ := HR.out.below hb5 p2
            simp only [Bnd.s_mk, Bnd.x_mk, Bnd.k_mk, Bnd.n_mk] at hm5 ⊢
            have HM5 := Lib.hid hm5; clear hm5
            go_wp2_with fail
            refine bodyPost_ret (v := .tuple #[.agg #[.string si, .slice xa5 xi.length xc5, .int .i64 ki, .int .i64 ni], .int .i64 1]) (by simp [results, Try.results113, go_sem, r0, r1, r2, r3]) rfl ?_
            rw [HRES.out]
            exact ⟨xa5, xc5, rfl, by (exact M.Mine.mono (M.Mine.keep HM5.out (fun b hb1 hb2 => by (try simp at hb1); simp (disch := (first | omega | (simp; omega))) only [heapSet, heapNew, heapDrew, heapDrewN])) (by first | omega | (simp; done) | (simp; omega))), by (repeat (first | with_reducible assumption | with_reducible exact Below.refl _ _ | with_reducible refine Below.drew ?_ | with_reducible refine belowDrewN ?_ _ | ((with_reducible refine Below.setCell ?_ ?_ _); rotate_left; focus (first | omega | (simp; done) | (simp; omega))) | ((with_reducible refine Below.alloc ?_ ?_ _); rotate_left; focus (first | omega | (simp; done) | (simp; omega))) | ((with_reducible refine Below.trans ?_ (Below.mono hb ?_)); rotate_left; focus (first | omega | (simp; done) | (simp; omega))) | ((with_reducible refine Below.trans ?_ (Below.mono hb5 ?_)); rotate_left; focus (first | omega | (simp; done) | (simp; omega)))))⟩
end Go.Proofs.Ytkofpfcbjfkdpaa
