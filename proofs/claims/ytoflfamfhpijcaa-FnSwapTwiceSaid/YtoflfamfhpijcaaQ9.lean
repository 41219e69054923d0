/-
  Walks: the data of FnSwapTwice drawn. No condition.
-/
import Derived.Test.YtoflfamfhpijcaaQ8
import Derived.Test.YtoflfamfhpijcaaFar
set_option linter.unusedVariables false
set_option linter.unusedSimpArgs false
set_option maxRecDepth 100000
namespace Go.Proofs.Ytoflfamfhpijcaa
open Go.RowKit

theorem Cur.setFar {pb g i : Nat} {a : Option Addr} {cap : Nat} {l : List Int} {w : World} {v : Value} (h : Cur pb a cap l w) (hg : pb ≠ g) (hin : (M.sl a cap 1 5 (u8M l)).In (w.setCell ⟨g, i, none⟩ v)) : Cur pb a cap l (w.setCell ⟨g, i, none⟩ v) := by
  obtain ⟨j, x, ⟨c0, c1, c2, f1, f2, hle, hrow, hoff, hu8⟩⟩ := h
  have hk := heapSet w ⟨g, i, none⟩ v pb hg
  exact ⟨j, x, ⟨(World.cell?_of_block (a := ⟨pb, 0, none⟩) hk).trans c0, (World.cell?_of_block (a := ⟨pb, 1, none⟩) hk).trans c1, (World.cell?_of_block (a := ⟨pb, 2, none⟩) hk).trans c2, (World.frozen?_of_block (a := ⟨pb, 1, none⟩) hk).trans f1, (World.frozen?_of_block (a := ⟨pb, 2, none⟩) hk).trans f2, hle, hin, hoff, hu8⟩⟩
theorem l01Pick_lit2 (q : Nat) (cs : Array Value) (n : Nat) (pb : Nat) (a : Option Addr) (cap : Nat) (l : List Int) (w : World) (hq : q = w.heap.size) (hc : Cur pb a cap l w) (hn : cs.size = n) (h0 : 0 < n) (h1 : n ≤ 1000) (ht : Texts cs) :
    Calls Try.prog 62 #[.pointer (some ⟨pb, 0, none⟩), .slice (some ⟨q, 0, none⟩) n n] (w.alloc (.cells cs 9)) (DrawnT pb a cap l w) := by
  subst hq; exact l01Pick_lit cs n pb a cap l w hc hn h0 h1 ht
theorem Cur.drew {pb : Nat} {a : Option Addr} {cap : Nat} {l : List Int} {w : World} (h : Cur pb a cap l w) : Cur pb a cap l w.drew := h.below ((Below.refl _ _).drew)
theorem l01Pick_lit3 (q : Nat) (cs : Array Value) (n : Nat) (pb : Nat) (a : Option Addr) (cap : Nat) (l : List Int) (w : World) (hq : q = w.heap.size) (hc : Cur pb a cap l w) (hn : cs.size = n) (h0 : 0 < n) (h1 : n ≤ 1000) (ht : Texts cs) :
    Calls Try.prog 62 #[.pointer (some ⟨pb, 0, none⟩), .slice (some ⟨q, 0, none⟩) n n] (w.alloc (.cells cs 9)).drew (DrawnT pb a cap l w) := by
  subst hq
  refine (show Calls Try.prog 62 #[.pointer (some ⟨pb, 0, none⟩), .slice (some ⟨w.heap.size, 0, none⟩) n n] (w.alloc (.cells cs 9)).drew (DrawnT pb a cap l w.drew) from l01Pick_lit cs n pb a cap l w.drew hc.drew hn h0 h1 ht).mono ?_
  rintro e w' ⟨x, rfl, hx, hc', ho'⟩
  exact ⟨x, rfl, hx, hc', ⟨ho'.os, ho'.tape, ho'.output, ho'.size, ho'.block⟩⟩
/-- a datum and two short texts drawn -/
def RetSw (w : World) (e : Ending) (w' : World) : Prop :=
  ∃ (k n : Int) (s : ByteArray) (ds : List Dat) (a' : Option Addr) (cap' : Nat) (ms : List M) (x y : ByteArray), e = .returned (.tuple #[.agg #[.int .i64 k, .int .i64 n, .string s, .slice a' ms.length cap'], .string x, .string y]) ∧ Dat.IsL 31 ds ms ∧ (M.sl a' cap' 4 31 ms).Mine w' w.heap.size ∧ (Dat.mk k n s ds).wf ∧ 1 + Dat.countL ds ≤ 400 ∧ x.size ≤ 100 ∧ y.size ≤ 100 ∧ Below w.heap.size w w'
set_option maxHeartbeats 2000000 in
theorem drawSwapSymbols_calls (a : Option Addr) (cap : Nat) (l : List Int) (w : World) (hin : (M.sl a cap 1 5 (u8M l)).In w) (hu : ∀ z ∈ l, 0 ≤ z ∧ z ≤ 255) (hlen : l.length ≤ 1048576) :
    Calls Try.prog 14 #[.slice a l.length cap] w (RetSw w) := by
  have HIN := Lib.hid hin; clear hin; have HU := Lib.hid hu; clear hu
  go_enter Try.func14, Try.ntmps14
  go_wp2_with fail
  refine (l01New_calls a cap l _ (HIN.out.below (by (repeat (first | with_reducible assumption | with_reducible exact Below.refl _ _ | with_reducible refine Below.drew ?_ | with_reducible refine belowDrewN ?_ _ | ((with_reducible refine Below.setCell ?_ ?_ _); rotate_left; focus (first | omega | (simp; done) | (simp; omega))) | ((with_reducible refine Below.alloc ?_ ?_ _); rotate_left; focus (first | omega | (simp; done) | (simp; omega))))))) HU.out hlen).mono ?_
  rintro e w1 ⟨pb, rfl, hpb, hc1, hb1⟩
  have hz1 := hb1.size
  simp only [World.size_alloc] at hz1 hpb
  have hp1 := hc1.lt
  have hzz := (Zero.new w).below hb1 (by simp)
  have hbw1 : Below w.heap.size w w1 := by (repeat (first | with_reducible assumption | with_reducible exact Below.refl _ _ | with_reducible refine Below.drew ?_ | with_reducible refine belowDrewN ?_ _ | ((with_reducible refine Below.setCell ?_ ?_ _); rotate_left; focus (first | omega | (simp; done) | (simp; omega))) | ((with_reducible refine Below.alloc ?_ ?_ _); rotate_left; focus (first | omega | (simp; done) | (simp; omega))) | ((with_reducible refine Below.trans ?_ (Below.mono hb1 ?_)); rotate_left; focus (first | omega | (simp; done) | (simp; omega)))))
  have HC1 := Lib.hid hc1; clear hc1; have HB1 := Lib.hid hb1; clear hb1; have HZZ := Lib.hid hzz; clear hzz
  go_wp2_with fail
  refine (l1Any_calls pb a cap l _ HC1.out).mono ?_
  rintro e w2 ⟨k, n, s, ds, a2, cap2, ms2, rfl, hi2, hm2, hw2, hct2, hc2, ho2⟩
  have hz2 := ho2.size
  have hzz2 := HZZ.out.only ho2 (.inl (by omega))
  have hbw2 : Below w.heap.size w w2 := hbw1.trans (ho2.below (by omega) (by omega))
  have hml2 := hm2.in_.len
  have HC2 := Lib.hid hc2; clear hc2; have HO2 := Lib.hid ho2; clear ho2; have HI2 := Lib.hid hi2; clear hi2; have HM2 := Lib.hid hm2; clear hm2; have HW2 := Lib.hid hw2; clear hw2; have HCT2 := Lib.hid hct2; clear hct2; have HZZ2 := Lib.hid hzz2; clear hzz2
  go_wp2_with fail
  refine (l01Pick_lit2 _ _ _ pb a cap l (w2.alloc (.cells #[.int .i64 k, .int .i64 n, .string s, .slice a2 ms2.length cap2] 31)) (by simp) (HC2.out.below (by (repeat (first | with_reducible assumption | with_reducible exact Below.refl _ _ | with_reducible refine Below.drew ?_ | with_reducible refine belowDrewN ?_ _ | ((with_reducible refine Below.setCell ?_ ?_ _); rotate_left; focus (first | omega | (simp; done) | (simp; omega))) | ((with_reducible refine Below.alloc ?_ ?_ _); rotate_left; focus (first | omega | (simp; done) | (simp; omega))))))) ?size (by decide) (by decide) ?texts).mono ?_
  case size => rfl
  case texts => exact Texts.of (by rfl)
  rintro e w3 ⟨x, rfl, hx, hc3, ho3⟩
  have hz3 := ho3.size
  simp only [World.size_alloc] at hz3
  have hbx := (DBox.new k n s (.slice a2 ms2.length cap2) w2).only ho3 (.inr (by omega))
  have ho23 : OnlyIn pb (pb + 1) w2 w3 := ((OnlyIn.refl _ _ _).new _).trans ho3
  have hzz3 := HZZ2.out.only ho23 (.inl (by omega))
  have hm3 := HM2.out.keep (w' := w3) (fun b h1 h2 => ho23.block b h2 (.inr (by omega)))
  have hbw3 : Below w.heap.size w w3 := hbw2.trans (ho23.below (by omega) (by omega))
  have hlt3 := HM2.out.lt_size
  have hs0 : (w3.cell? ⟨w2.heap.size, 0, none⟩ = some (.int .i64 k) ∧ w3.cell? ⟨w2.heap.size, 1, none⟩ = some (.int .i64 n) ∧ w3.cell? ⟨w2.heap.size, 2, none⟩ = some (.string s) ∧ w3.cell? ⟨w2.heap.size, 3, none⟩ = some (.slice a2 ms2.length cap2)) := ⟨hbx.c0, hbx.c1, hbx.c2, hbx.c3⟩
  obtain ⟨r0, r1, r2, r3, g0, g1, g2, g3⟩ := hzz3
  obtain ⟨q0, q1, q2, q3⟩ := hs0
  have HX := Lib.hid hx; clear hx; have HC3 := Lib.hid hc3; clear hc3; have HO3 := Lib.hid ho3; clear ho3; have HO23 := Lib.hid ho23; clear ho23; have HM3 := Lib.hid hm3; clear hm3; have HLT3 := Lib.hid hlt3; clear hlt3; have HBX := Lib.hid hbx; clear hbx
  have hp3 : w2.heap.size < w3.heap.size := by omega
  have hpw3 : w.heap.size < w3.heap.size := by omega
  have hpk3 := l01Pick_lit3 w3.heap.size #[.string ⟨#[120]⟩, .string ⟨#[121]⟩, .string ⟨#[122, 122]⟩, .string ⟨#[108, 105, 115, 116]⟩] 4 pb a cap l w3 rfl HC3.out rfl (by decide) (by decide) (Texts.of (by rfl))
  have hpkS := l01Pick_lit3 w3.heap.size #[.string ⟨#[120]⟩, .string ⟨#[121]⟩, .string ⟨#[122, 122]⟩, .string ⟨#[108, 105, 115, 116]⟩] 4 pb a cap l ((((w3.setCell ⟨w.heap.size, 0, none⟩ (.int .i64 k)).setCell ⟨w.heap.size, 1, none⟩ (.int .i64 n)).setCell ⟨w.heap.size, 2, none⟩ (.string s)).setCell ⟨w.heap.size, 3, none⟩ (.slice a2 ms2.length cap2)) (by simp) ((((HC3.out.setFar (by omega) (HIN.out.below (by (repeat (first | with_reducible assumption | with_reducible exact Below.refl _ _ | with_reducible refine Below.drew ?_ | with_reducible refine belowDrewN ?_ _ | ((with_reducible refine Below.setCell ?_ ?_ _); rotate_left; focus (first | omega | (simp; done) | (simp; omega))) | ((with_reducible refine Below.alloc ?_ ?_ _); rotate_left; focus (first | omega | (simp; done) | (simp; omega)))))))).setFar (by omega) (HIN.out.below (by (repeat (first | with_reducible assumption | with_reducible exact Below.refl _ _ | with_reducible refine Below.drew ?_ | with_reducible refine belowDrewN ?_ _ | ((with_reducible refine Below.setCell ?_ ?_ _); rotate_left; focus (first | omega | (simp; done) | (simp; omega))) | ((with_reducible refine Below.alloc ?_ ?_ _); rotate_left; focus (first | omega | (simp; done) | (simp; omega)))))))).setFar (by omega) (HIN.out.below (by (repeat (first | with_reducible assumption | with_reducible exact Below.refl _ _ | with_reducible refine Below.drew ?_ | with_reducible refine belowDrewN ?_ _ | ((with_reducible refine Below.setCell ?_ ?_ _); rotate_left; focus (first | omega | (simp; done) | (simp; omega))) | ((with_reducible refine Below.alloc ?_ ?_ _); rotate_left; focus (first | omega | (simp; done) | (simp; omega)))))))).setFar (by omega) (HIN.out.below (by (repeat (first | with_reducible assumption | with_reducible exact Below.refl _ _ | with_reducible refine Below.drew ?_ | with_reducible refine belowDrewN ?_ _ | ((with_reducible refine Below.setCell ?_ ?_ _); rotate_left; focus (first | omega | (simp; done) | (simp; omega))) | ((with_reducible refine Below.alloc ?_ ?_ _); rotate_left; focus (first | omega | (simp; done) | (simp; omega)))))))) rfl (by decide) (by decide) (Texts.of (by rfl))
  have HPK3 := Lib.hid hpk3; clear hpk3; have HPKS := Lib.hid hpkS; clear hpkS
  go_wp2_with fail
  go_region_law (first
    | (go_simp; go_at_call 62; (first | (with_reducible refine HPK3.out.mono ?_) | (with_reducible refine HPKS.out.mono ?_)); rintro e w4 ⟨y, rfl, hy, hc4, ho4⟩; have hz4 := ho4.size; (try simp only [World.size_alloc, World.size_setCell, World.size_drew] at hz4); (try (have q0_ : w4.cell? ⟨w2.heap.size, 0, none⟩ = some (.int .i64 k) := ((World.cell?_of_block (a := ⟨w2.heap.size, 0, none⟩) (ho4.block w2.heap.size (by first | omega | (simp; omega)) (by first | (left; omega) | (right; omega)))).trans (by first | exact q0 | (simp (disch := omega) [cellSetFar, q0, go_sem]; done))))); (try (have q1_ : w4.cell? ⟨w2.heap.size, 1, none⟩ = some (.int .i64 n) := ((World.cell?_of_block (a := ⟨w2.heap.size, 1, none⟩) (ho4.block w2.heap.size (by first | omega | (simp; omega)) (by first | (left; omega) | (right; omega)))).trans (by first | exact q1 | (simp (disch := omega) [cellSetFar, q1, go_sem]; done))))); (try (have q2_ : w4.cell? ⟨w2.heap.size, 2, none⟩ = some (.string s) := ((World.cell?_of_block (a := ⟨w2.heap.size, 2, none⟩) (ho4.block w2.heap.size (by first | omega | (simp; omega)) (by first | (left; omega) | (right; omega)))).trans (by first | exact q2 | (simp (disch := omega) [cellSetFar, q2, go_sem]; done))))); (try (have q3_ : w4.cell? ⟨w2.heap.size, 3, none⟩ = some (.slice a2 ms2.length cap2) := ((World.cell?_of_block (a := ⟨w2.heap.size, 3, none⟩) (ho4.block w2.heap.size (by first | omega | (simp; omega)) (by first | (left; omega) | (right; omega)))).trans (by first | exact q3 | (simp (disch := omega) [cellSetFar, q3, go_sem]; done))))); (try (have r0_ : w4.cell? ⟨w.heap.size, 0, none⟩ = some (.int .i64 0) := ((World.cell?_of_block (a := ⟨w.heap.size, 0, none⟩) (ho4.block w.heap.size (by first | omega | (simp; omega)) (by first | (left; omega) | (right; omega)))).trans (by first | exact r0 | (simp (disch := omega) [cellSetFar, r0, go_sem]; done))))); (try (have r1_ : w4.cell? ⟨w.heap.size, 1, none⟩ = some (.int .i64 0) := ((World.cell?_of_block (a := ⟨w.heap.size, 1, none⟩) (ho4.block w.heap.size (by first | omega | (simp; omega)) (by first | (left; omega) | (right; omega)))).trans (by first | exact r1 | (simp (disch := omega) [cellSetFar, r1, go_sem]; done))))); (try (have r2_ : w4.cell? ⟨w.heap.size, 2, none⟩ = some (.string ⟨#[]⟩) := ((World.cell?_of_block (a := ⟨w.heap.size, 2, none⟩) (ho4.block w.heap.size (by first | omega | (simp; omega)) (by first | (left; omega) | (right; omega)))).trans (by first | exact r2 | (simp (disch := omega) [cellSetFar, r2, go_sem]; done))))); (try (have r3_ : w4.cell? ⟨w.heap.size, 3, none⟩ = some (.slice none 0 0) := ((World.cell?_of_block (a := ⟨w.heap.size, 3, none⟩) (ho4.block w.heap.size (by first | omega | (simp; omega)) (by first | (left; omega) | (right; omega)))).trans (by first | exact r3 | (simp (disch := omega) [cellSetFar, r3, go_sem]; done))))); (try (have g0_ : w4.frozen? ⟨w.heap.size, 0, none⟩ = false := ((World.frozen?_of_block (a := ⟨w.heap.size, 0, none⟩) (ho4.block w.heap.size (by first | omega | (simp; omega)) (by first | (left; omega) | (right; omega)))).trans (by first | exact g0 | (simp (disch := omega) [g0, go_sem]; done))))); (try (have g1_ : w4.frozen? ⟨w.heap.size, 1, none⟩ = false := ((World.frozen?_of_block (a := ⟨w.heap.size, 1, none⟩) (ho4.block w.heap.size (by first | omega | (simp; omega)) (by first | (left; omega) | (right; omega)))).trans (by first | exact g1 | (simp (disch := omega) [g1, go_sem]; done))))); (try (have g2_ : w4.frozen? ⟨w.heap.size, 2, none⟩ = false := ((World.frozen?_of_block (a := ⟨w.heap.size, 2, none⟩) (ho4.block w.heap.size (by first | omega | (simp; omega)) (by first | (left; omega) | (right; omega)))).trans (by first | exact g2 | (simp (disch := omega) [g2, go_sem]; done))))); (try (have g3_ : w4.frozen? ⟨w.heap.size, 3, none⟩ = false := ((World.frozen?_of_block (a := ⟨w.heap.size, 3, none⟩) (ho4.block w.heap.size (by first | omega | (simp; omega)) (by first | (left; omega) | (right; omega)))).trans (by first | exact g3 | (simp (disch := omega) [g3, go_sem]; done)))))))
  all_goals
    have hbw4 : Below w.heap.size w w4 := hbw3.trans (ho4.below (by omega) (by omega))
    have hm4 := HM3.out.keep (w' := w4) (fun b h1 h2 => ho4.block b h2 (.inr (by omega)))
    have hlt4 : ∀ b ∈ (M.sl a2 cap2 4 31 ms2).blocks, b ≠ w.heap.size := fun b hb => by have := (hm4.lt b hb).1; omega
    clear hc4 ho4
    have HM4 := Lib.hid hm4; clear hm4; have HLT4 := Lib.hid hlt4; clear hlt4; have HY := Lib.hid hy; clear hy
    go_wp2_with fail
    refine bodyPost_ret (v := .tuple #[.agg #[.int .i64 k, .int .i64 n, .string s, .slice a2 ms2.length cap2], .string x, .string y]) (by simp [results, Try.results14, go_sem, r0_, r1_, r2_, r3_]) rfl ?_
    refine ⟨k, n, s, ds, a2, cap2, ms2, x, y, rfl, HI2.out, ?_, HW2.out, HCT2.out, HX.out, HY.out, by (repeat (first | with_reducible assumption | with_reducible exact Below.refl _ _ | with_reducible refine Below.drew ?_ | with_reducible refine belowDrewN ?_ _ | ((with_reducible refine Below.setCell ?_ ?_ _); rotate_left; focus (first | omega | (simp; done) | (simp; omega))) | ((with_reducible refine Below.alloc ?_ ?_ _); rotate_left; focus (first | omega | (simp; done) | (simp; omega))) | ((with_reducible refine Below.trans ?_ (Below.mono hbw4 ?_)); rotate_left; focus (first | omega | (simp; done) | (simp; omega)))))⟩
    exact M.Mine.mono ⟨M.Own.frame _ HM4.out.own fun b hb => by have h1_ := HLT4.out b hb; simp (disch := (first | omega | (simp; omega))) only [heapSet], HM4.out.dup⟩ (by omega)
end Go.Proofs.Ytoflfamfhpijcaa
