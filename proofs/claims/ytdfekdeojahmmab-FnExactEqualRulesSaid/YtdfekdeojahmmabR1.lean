/-
  Walks: rules measured, copied, compared by the law. No condition.
-/
import Derived.Test.YtdfekdeojahmmabY4
import Derived.Test.YtdfekdeojahmmabOpen2
set_option linter.unusedVariables false
set_option linter.unusedSimpArgs false
set_option maxRecDepth 100000
namespace Go.Proofs.Ytdfekdeojahmmab
open Go.RowKit

theorem M.Mine.agNil (w : World) (lo : Nat) : (M.ag []).Mine w lo := ⟨trivial, by simp [M.blocks, M.blocksL]⟩
theorem M.Mine.cons {m : M} {ys : List M} {w : World} {lo c : Nat} (h1 : m.Mine w lo) (h2 : (M.ag ys).Mine w c) (hc : lo ≤ c) (hl : ∀ b ∈ m.blocks, b < c) : (M.ag (m :: ys)).Mine w lo :=
  ⟨⟨h1.own, (h2.mono hc).own⟩, by
    simp only [M.blocks, M.blocksL]
    exact List.nodup_append.2 ⟨h1.dup, h2.dup, fun b hb b' hb' he => by subst he; have := hl b hb; have := (h2.lt b hb').1; omega⟩⟩
theorem M.Mine.head {m : M} {ys : List M} {w : World} {lo : Nat} (h : (M.ag (m :: ys)).Mine w lo) : m.Mine w lo :=
  ⟨h.own.1, by have := h.dup; simp only [M.blocks, M.blocksL] at this; exact (List.nodup_append.1 this).1⟩
theorem M.Mine.tail {m : M} {ys : List M} {w : World} {lo : Nat} (h : (M.ag (m :: ys)).Mine w lo) : (M.ag ys).Mine w lo :=
  ⟨h.own.2, by have := h.dup; simp only [M.blocks, M.blocksL] at this; exact (List.nodup_append.1 this).2.1⟩

def RulIs (e : TypeId) (d1 d2 d3 : List Syn) (m1 m2 m3 : List M) : Prop := Syn.IsL e d1 m1 ∧ Syn.IsL e d2 m2 ∧ Syn.IsL e d3 m3
def RulOwn (e : TypeId) (a1 : Option Addr) (c1 : Nat) (m1 : List M) (a2 : Option Addr) (c2 : Nat) (m2 : List M) (a3 : Option Addr) (c3 : Nat) (m3 : List M) : M := .ag [.sl a1 c1 5 e m1, .sl a2 c2 5 e m2, .sl a3 c3 5 e m3]
theorem RulIn_1 {e : TypeId} {a1 : Option Addr} {c1 : Nat} {m1 : List M} {a2 : Option Addr} {c2 : Nat} {m2 : List M} {a3 : Option Addr} {c3 : Nat} {m3 : List M} {w : World} (h : (RulOwn e a1 c1 m1 a2 c2 m2 a3 c3 m3).In w) : (M.sl a1 c1 5 e m1).In w := And.left h
theorem RulIn_2 {e : TypeId} {a1 : Option Addr} {c1 : Nat} {m1 : List M} {a2 : Option Addr} {c2 : Nat} {m2 : List M} {a3 : Option Addr} {c3 : Nat} {m3 : List M} {w : World} (h : (RulOwn e a1 c1 m1 a2 c2 m2 a3 c3 m3).In w) : (M.sl a2 c2 5 e m2).In w := And.left (And.right h)
theorem RulIn_3 {e : TypeId} {a1 : Option Addr} {c1 : Nat} {m1 : List M} {a2 : Option Addr} {c2 : Nat} {m2 : List M} {a3 : Option Addr} {c3 : Nat} {m3 : List M} {w : World} (h : (RulOwn e a1 c1 m1 a2 c2 m2 a3 c3 m3).In w) : (M.sl a3 c3 5 e m3).In w := And.left (And.right (And.right h))
def RulWt (d1 d2 d3 : List Syn) : Nat := (d1.length + Syn.wtX d1) + (d2.length + Syn.wtX d2) + (d3.length + Syn.wtX d3)
def RetRul (e : TypeId) (d1 d2 d3 : List Syn) (w : World) (en : Ending) (w' : World) : Prop :=
  ∃ a1 c1 m1 a2 c2 m2 a3 c3 m3, en = .returned (.agg #[.slice a1 m1.length c1, .slice a2 m2.length c2, .slice a3 m3.length c3]) ∧ RulIs e d1 d2 d3 m1 m2 m3 ∧ (RulOwn e a1 c1 m1 a2 c2 m2 a3 c3 m3).Mine w' w.heap.size ∧ Below w.heap.size w w'
theorem szRules_calls (d1 d2 d3 : List Syn) (a1 : Option Addr) (c1 : Nat) (m1 : List M) (a2 : Option Addr) (c2 : Nat) (m2 : List M) (a3 : Option Addr) (c3 : Nat) (m3 : List M) (left : Int) (w : World) (h0 : 0 ≤ left) (h1 : left ≤ 1048576) (hwf : Syn.wfL d1 ∧ Syn.wfL d2 ∧ Syn.wfL d3)
    (hi : RulIs 25 d1 d2 d3 m1 m2 m3) (hin : (RulOwn 25 a1 c1 m1 a2 c2 m2 a3 c3 m3).In w) :
    Calls Try.prog 58 #[.agg #[.slice a1 m1.length c1, .slice a2 m2.length c2, .slice a3 m3.length c3], .int .i64 left] w (SzPost (RulWt d1 d2 d3) left w) := by
  have hwt : RulWt d1 d2 d3 = (d1.length + Syn.wtX d1) + (d2.length + Syn.wtX d2) + (d3.length + Syn.wtX d3) := rfl
  obtain ⟨hi1, hi2, hi3⟩ := hi
  obtain ⟨hw1, hw2, hw3⟩ := hwf
  have hn1 := RulIn_1 hin
  have hn2 := RulIn_2 hin
  have hn3 := RulIn_3 hin
  clear hin
  have HI1 := Lib.hid hi1; clear hi1; have HI2 := Lib.hid hi2; clear hi2; have HI3 := Lib.hid hi3; clear hi3; have HW1 := Lib.hid hw1; clear hw1; have HW2 := Lib.hid hw2; clear hw2; have HW3 := Lib.hid hw3; clear hw3; have HN1 := Lib.hid hn1; clear hn1; have HN2 := Lib.hid hn2; clear hn2; have HN3 := Lib.hid hn3; clear hn3; have HWT := Lib.hid hwt; clear hwt
  go_enter Try.func58, Try.ntmps58
  go_wp2_with fail
  refine (szSyntaxS_calls d1 a1 c1 m1 _ _ h0 h1 HW1.out HI1.out (HN1.out.below (by (repeat (first | with_reducible assumption | with_reducible exact Below.refl _ _ | with_reducible refine Below.drew ?_ | with_reducible refine belowDrewN ?_ _ | ((with_reducible refine Below.setCell ?_ ?_ _); rotate_left; focus (first | omega | (simp; done) | (simp; omega))) | ((with_reducible refine Below.alloc ?_ ?_ _); rotate_left; focus (first | omega | (simp; done) | (simp; omega)))))))).mono ?_
  rintro e w1 ⟨r1, rfl, hr1, hr1', hr1'', hb1⟩
  obtain ⟨hc1, hf1⟩ := bcell hb1; have hz1 := hb1.size; (try simp only [World.size_alloc, World.size_setCell, World.size_drew, sizeDrewN] at hz1 hc1 hf1); have hp1_0 : w.heap.size < w1.heap.size := (by omega)
  by_cases hs1 : r1 < 0
  · go_wp2_with fail
    go_ret
    exact ⟨-1, rfl, by omega, by omega, by omega, by (repeat (first | with_reducible assumption | with_reducible exact Below.refl _ _ | with_reducible refine Below.drew ?_ | with_reducible refine belowDrewN ?_ _ | ((with_reducible refine Below.setCell ?_ ?_ _); rotate_left; focus (first | omega | (simp; done) | (simp; omega))) | ((with_reducible refine Below.alloc ?_ ?_ _); rotate_left; focus (first | omega | (simp; done) | (simp; omega))) | ((with_reducible refine Below.trans ?_ (Below.mono hb1 ?_)); rotate_left; focus (first | omega | (simp; done) | (simp; omega)))))⟩
  · have hq1 := hr1'' (by omega)
    clear hr1''
    have HQ1 := Lib.hid hq1; clear hq1
    go_wp2_with fail
    refine (szSyntaxS_calls d2 a2 c2 m2 _ _ (by omega) (by omega) HW2.out HI2.out (HN2.out.below (by (repeat (first | with_reducible assumption | with_reducible exact Below.refl _ _ | with_reducible refine Below.drew ?_ | with_reducible refine belowDrewN ?_ _ | ((with_reducible refine Below.setCell ?_ ?_ _); rotate_left; focus (first | omega | (simp; done) | (simp; omega))) | ((with_reducible refine Below.alloc ?_ ?_ _); rotate_left; focus (first | omega | (simp; done) | (simp; omega))) | ((with_reducible refine Below.trans ?_ (Below.mono hb1 ?_)); rotate_left; focus (first | omega | (simp; done) | (simp; omega)))))))).mono ?_
    rintro e w2 ⟨r2, rfl, hr2, hr2', hr2'', hb2⟩
    obtain ⟨hc2, hf2⟩ := bcell hb2; have hz2 := hb2.size; (try simp only [World.size_alloc, World.size_setCell, World.size_drew, sizeDrewN] at hz2 hc2 hf2); have hp2_0 : w.heap.size < w2.heap.size := (by omega)
    by_cases hs2 : r2 < 0
    · go_wp2_with fail
      go_ret
      exact ⟨-1, rfl, by omega, by omega, by omega, by (repeat (first | with_reducible assumption | with_reducible exact Below.refl _ _ | with_reducible refine Below.drew ?_ | with_reducible refine belowDrewN ?_ _ | ((with_reducible refine Below.setCell ?_ ?_ _); rotate_left; focus (first | omega | (simp; done) | (simp; omega))) | ((with_reducible refine Below.alloc ?_ ?_ _); rotate_left; focus (first | omega | (simp; done) | (simp; omega))) | ((with_reducible refine Below.trans ?_ (Below.mono hb1 ?_)); rotate_left; focus (first | omega | (simp; done) | (simp; omega))) | ((with_reducible refine Below.trans ?_ (Below.mono hb2 ?_)); rotate_left; focus (first | omega | (simp; done) | (simp; omega)))))⟩
    · have hq2 := hr2'' (by omega)
      clear hr2''
      have HQ2 := Lib.hid hq2; clear hq2
      go_wp2_with fail
      refine (szSyntaxS_calls d3 a3 c3 m3 _ _ (by omega) (by omega) HW3.out HI3.out (HN3.out.below (by (repeat (first | with_reducible assumption | with_reducible exact Below.refl _ _ | with_reducible refine Below.drew ?_ | with_reducible refine belowDrewN ?_ _ | ((with_reducible refine Below.setCell ?_ ?_ _); rotate_left; focus (first | omega | (simp; done) | (simp; omega))) | ((with_reducible refine Below.alloc ?_ ?_ _); rotate_left; focus (first | omega | (simp; done) | (simp; omega))) | ((with_reducible refine Below.trans ?_ (Below.mono hb1 ?_)); rotate_left; focus (first | omega | (simp; done) | (simp; omega))) | ((with_reducible refine Below.trans ?_ (Below.mono hb2 ?_)); rotate_left; focus (first | omega | (simp; done) | (simp; omega)))))))).mono ?_
      rintro e w3 ⟨r3, rfl, hr3, hr3', hr3'', hb3⟩
      have HR3'' := Lib.hid hr3''; clear hr3''
      by_cases hs3 : r3 < 0
      · go_wp2_with fail
        go_ret
        exact ⟨-1, rfl, by omega, by omega, by omega, by (repeat (first | with_reducible assumption | with_reducible exact Below.refl _ _ | with_reducible refine Below.drew ?_ | with_reducible refine belowDrewN ?_ _ | ((with_reducible refine Below.setCell ?_ ?_ _); rotate_left; focus (first | omega | (simp; done) | (simp; omega))) | ((with_reducible refine Below.alloc ?_ ?_ _); rotate_left; focus (first | omega | (simp; done) | (simp; omega))) | ((with_reducible refine Below.trans ?_ (Below.mono hb1 ?_)); rotate_left; focus (first | omega | (simp; done) | (simp; omega))) | ((with_reducible refine Below.trans ?_ (Below.mono hb2 ?_)); rotate_left; focus (first | omega | (simp; done) | (simp; omega))) | ((with_reducible refine Below.trans ?_ (Below.mono hb3 ?_)); rotate_left; focus (first | omega | (simp; done) | (simp; omega)))))⟩
      · go_wp2_with fail
        go_ret
        exact ⟨r3, rfl, by omega, by omega, fun _ => by have := HR3''.out (by omega); have := HQ1.out; have := HQ2.out; rw [HWT.out]; push_cast at *; omega, by (repeat (first | with_reducible assumption | with_reducible exact Below.refl _ _ | with_reducible refine Below.drew ?_ | with_reducible refine belowDrewN ?_ _ | ((with_reducible refine Below.setCell ?_ ?_ _); rotate_left; focus (first | omega | (simp; done) | (simp; omega))) | ((with_reducible refine Below.alloc ?_ ?_ _); rotate_left; focus (first | omega | (simp; done) | (simp; omega))) | ((with_reducible refine Below.trans ?_ (Below.mono hb1 ?_)); rotate_left; focus (first | omega | (simp; done) | (simp; omega))) | ((with_reducible refine Below.trans ?_ (Below.mono hb2 ?_)); rotate_left; focus (first | omega | (simp; done) | (simp; omega))) | ((with_reducible refine Below.trans ?_ (Below.mono hb3 ?_)); rotate_left; focus (first | omega | (simp; done) | (simp; omega)))))⟩
theorem toRules_calls (d1 d2 d3 : List Syn) (a1 : Option Addr) (c1 : Nat) (m1 : List M) (a2 : Option Addr) (c2 : Nat) (m2 : List M) (a3 : Option Addr) (c3 : Nat) (m3 : List M) (w : World) (hB : RulWt d1 d2 d3 ≤ 1048576)
    (hi : RulIs 25 d1 d2 d3 m1 m2 m3) (hin : (RulOwn 25 a1 c1 m1 a2 c2 m2 a3 c3 m3).In w) :
    Calls Try.prog 60 #[.agg #[.slice a1 m1.length c1, .slice a2 m2.length c2, .slice a3 m3.length c3]] w (RetRul 30 d1 d2 d3 w) := by
  have hwt : RulWt d1 d2 d3 = (d1.length + Syn.wtX d1) + (d2.length + Syn.wtX d2) + (d3.length + Syn.wtX d3) := rfl
  have hB1 : d1.length + Syn.wtX d1 ≤ 1048576 := by omega
  have hB2 : d2.length + Syn.wtX d2 ≤ 1048576 := by omega
  have hB3 : d3.length + Syn.wtX d3 ≤ 1048576 := by omega
  obtain ⟨hi1, hi2, hi3⟩ := hi
  have hn1 := RulIn_1 hin
  have hn2 := RulIn_2 hin
  have hn3 := RulIn_3 hin
  clear hin
  have HI1 := Lib.hid hi1; clear hi1; have HI2 := Lib.hid hi2; clear hi2; have HI3 := Lib.hid hi3; clear hi3; have HN1 := Lib.hid hn1; clear hn1; have HN2 := Lib.hid hn2; clear hn2; have HN3 := Lib.hid hn3; clear hn3; have HWT := Lib.hid hwt; clear hwt; have HB := Lib.hid hB; clear hB; have HB1 := Lib.hid hB1; clear hB1; have HB2 := Lib.hid hB2; clear hB2; have HB3 := Lib.hid hB3; clear hB3
  go_enter Try.func60, Try.ntmps60
  go_wp2_with fail
  refine (toSyntaxS_calls d1 a1 c1 m1 _ HB1.out HI1.out (HN1.out.below (by (repeat (first | with_reducible assumption | with_reducible exact Below.refl _ _ | with_reducible refine Below.drew ?_ | with_reducible refine belowDrewN ?_ _ | ((with_reducible refine Below.setCell ?_ ?_ _); rotate_left; focus (first | omega | (simp; done) | (simp; omega))) | ((with_reducible refine Below.alloc ?_ ?_ _); rotate_left; focus (first | omega | (simp; done) | (simp; omega)))))))).mono ?_
  rintro e w1 ⟨a1', c1', m1', rfl, hi1', hm1, hb1⟩
  obtain ⟨hc1, hf1⟩ := bcell hb1; have hz1 := hb1.size; (try simp only [World.size_alloc, World.size_setCell, World.size_drew, sizeDrewN] at hz1 hc1 hf1); have hp1_0 : w.heap.size < w1.heap.size := (by omega); have hp1_1 : w.heap.size + 1 < w1.heap.size := (by omega); have hp1_2 : w.heap.size + 2 < w1.heap.size := (by omega)
  have hl1 := hm1.lt_size
  have HM1 := Lib.hid hm1; clear hm1; have HL1 := Lib.hid hl1; clear hl1; have HI1' := Lib.hid hi1'; clear hi1'
  go_wp2_with fail
  refine (toSyntaxS_calls d2 a2 c2 m2 _ HB2.out HI2.out (HN2.out.below (by (repeat (first | with_reducible assumption | with_reducible exact Below.refl _ _ | with_reducible refine Below.drew ?_ | with_reducible refine belowDrewN ?_ _ | ((with_reducible refine Below.setCell ?_ ?_ _); rotate_left; focus (first | omega | (simp; done) | (simp; omega))) | ((with_reducible refine Below.alloc ?_ ?_ _); rotate_left; focus (first | omega | (simp; done) | (simp; omega))) | ((with_reducible refine Below.trans ?_ (Below.mono hb1 ?_)); rotate_left; focus (first | omega | (simp; done) | (simp; omega)))))))).mono ?_
  rintro e w2 ⟨a2', c2', m2', rfl, hi2', hm2, hb2⟩
  obtain ⟨hc2, hf2⟩ := bcell hb2; have hz2 := hb2.size; (try simp only [World.size_alloc, World.size_setCell, World.size_drew, sizeDrewN] at hz2 hc2 hf2); have hp2_0 : w.heap.size < w2.heap.size := (by omega); have hp2_1 : w.heap.size + 1 < w2.heap.size := (by omega); have hp2_2 : w.heap.size + 2 < w2.heap.size := (by omega)
  have hl2 := hm2.lt_size
  have HM2 := Lib.hid hm2; clear hm2; have HL2 := Lib.hid hl2; clear hl2; have HI2' := Lib.hid hi2'; clear hi2'
  go_wp2_with fail
  refine (toSyntaxS_calls d3 a3 c3 m3 _ HB3.out HI3.out (HN3.out.below (by (repeat (first | with_reducible assumption | with_reducible exact Below.refl _ _ | with_reducible refine Below.drew ?_ | with_reducible refine belowDrewN ?_ _ | ((with_reducible refine Below.setCell ?_ ?_ _); rotate_left; focus (first | omega | (simp; done) | (simp; omega))) | ((with_reducible refine Below.alloc ?_ ?_ _); rotate_left; focus (first | omega | (simp; done) | (simp; omega))) | ((with_reducible refine Below.trans ?_ (Below.mono hb1 ?_)); rotate_left; focus (first | omega | (simp; done) | (simp; omega))) | ((with_reducible refine Below.trans ?_ (Below.mono hb2 ?_)); rotate_left; focus (first | omega | (simp; done) | (simp; omega)))))))).mono ?_
  rintro e w3 ⟨a3', c3', m3', rfl, hi3', hm3, hb3⟩
  obtain ⟨hc3, hf3⟩ := bcell hb3; have hz3 := hb3.size; (try simp only [World.size_alloc, World.size_setCell, World.size_drew, sizeDrewN] at hz3 hc3 hf3); have hp3_0 : w.heap.size < w3.heap.size := (by omega); have hp3_1 : w.heap.size + 1 < w3.heap.size := (by omega); have hp3_2 : w.heap.size + 2 < w3.heap.size := (by omega)
  have HM3 := Lib.hid hm3; clear hm3; have HI3' := Lib.hid hi3'; clear hi3'
  go_wp2_with fail
  refine bodyPost_ret (v := .agg #[.slice a1' m1'.length c1', .slice a2' m2'.length c2', .slice a3' m3'.length c3']) (by simp (disch := first | omega | (simp; done) | (simp; omega)) [results, Try.results60, go_sem, hc3, hc2, hc1]) rfl ?_
  refine ⟨a1', c1', m1', a2', c2', m2', a3', c3', m3', rfl, ⟨HI1'.out, HI2'.out, HI3'.out⟩, ?_, ?_⟩
  · refine M.Mine.cons (c := w1.heap.size) (M.Mine.mono (M.Mine.keep HM1.out (fun b gb1_ gb2_ => by (try simp at gb1_ gb2_); simp (disch := (first | omega | (simp; omega))) only [heapSet, heapNew, heapDrew, heapDrewN, hb2.block, hb3.block])) (by first | omega | (simp; done) | (simp; omega))) ?_ (by omega) HL1.out
    refine M.Mine.cons (c := w2.heap.size) (M.Mine.mono (M.Mine.keep HM2.out (fun b gb1_ gb2_ => by (try simp at gb1_ gb2_); simp (disch := (first | omega | (simp; omega))) only [heapSet, heapNew, heapDrew, heapDrewN, hb2.block, hb3.block])) (by first | omega | (simp; done) | (simp; omega))) ?_ (by omega) HL2.out
    refine M.Mine.cons (c := w3.heap.size) (M.Mine.mono (M.Mine.keep HM3.out (fun b gb1_ gb2_ => by (try simp at gb1_ gb2_); simp (disch := (first | omega | (simp; omega))) only [heapSet, heapNew, heapDrew, heapDrewN, hb2.block, hb3.block])) (by first | omega | (simp; done) | (simp; omega))) (M.Mine.agNil _ _) (by omega) (fun b hb => by have := HM3.out.lt_size b hb; omega)
  · (repeat (first | with_reducible assumption | with_reducible exact Below.refl _ _ | with_reducible refine Below.drew ?_ | with_reducible refine belowDrewN ?_ _ | ((with_reducible refine Below.setCell ?_ ?_ _); rotate_left; focus (first | omega | (simp; done) | (simp; omega))) | ((with_reducible refine Below.alloc ?_ ?_ _); rotate_left; focus (first | omega | (simp; done) | (simp; omega))) | ((with_reducible refine Below.trans ?_ (Below.mono hb1 ?_)); rotate_left; focus (first | omega | (simp; done) | (simp; omega))) | ((with_reducible refine Below.trans ?_ (Below.mono hb2 ?_)); rotate_left; focus (first | omega | (simp; done) | (simp; omega))) | ((with_reducible refine Below.trans ?_ (Below.mono hb3 ?_)); rotate_left; focus (first | omega | (simp; done) | (simp; omega)))))
theorem eqRules_calls (d1 d2 d3 : List Syn) (a1 : Option Addr) (c1 : Nat) (m1 : List M) (a2 : Option Addr) (c2 : Nat) (m2 : List M) (a3 : Option Addr) (c3 : Nat) (m3 : List M) (a1' : Option Addr) (c1' : Nat) (m1' : List M) (a2' : Option Addr) (c2' : Nat) (m2' : List M) (a3' : Option Addr) (c3' : Nat) (m3' : List M) (w : World)
    (hi : RulIs 30 d1 d2 d3 m1 m2 m3) (hin : (RulOwn 30 a1 c1 m1 a2 c2 m2 a3 c3 m3).In w) (hi' : RulIs 30 d1 d2 d3 m1' m2' m3') (hin' : (RulOwn 30 a1' c1' m1' a2' c2' m2' a3' c3' m3').In w) :
    Calls Try.prog 62 #[.agg #[.slice a1 m1.length c1, .slice a2 m2.length c2, .slice a3 m3.length c3], .agg #[.slice a1' m1'.length c1', .slice a2' m2'.length c2', .slice a3' m3'.length c3']] w (Ret (.bool true) w) := by
  obtain ⟨hi1, hi2, hi3⟩ := hi
  obtain ⟨hj1, hj2, hj3⟩ := hi'
  have hn1 := RulIn_1 hin
  have hn2 := RulIn_2 hin
  have hn3 := RulIn_3 hin
  have hp1 := RulIn_1 hin'
  have hp2 := RulIn_2 hin'
  have hp3 := RulIn_3 hin'
  clear hin hin'
  have HI1 := Lib.hid hi1; clear hi1; have HI2 := Lib.hid hi2; clear hi2; have HI3 := Lib.hid hi3; clear hi3; have HJ1 := Lib.hid hj1; clear hj1; have HJ2 := Lib.hid hj2; clear hj2; have HJ3 := Lib.hid hj3; clear hj3; have HN1 := Lib.hid hn1; clear hn1; have HN2 := Lib.hid hn2; clear hn2; have HN3 := Lib.hid hn3; clear hn3; have HP1 := Lib.hid hp1; clear hp1; have HP2 := Lib.hid hp2; clear hp2; have HP3 := Lib.hid hp3; clear hp3
  go_enter Try.func62, Try.ntmps62
  go_wp2_with fail
  refine (eqSyntaxS_calls d1 a1 c1 m1 a1' c1' m1' _ HI1.out (HN1.out.below (by (repeat (first | with_reducible assumption | with_reducible exact Below.refl _ _ | with_reducible refine Below.drew ?_ | with_reducible refine belowDrewN ?_ _ | ((with_reducible refine Below.setCell ?_ ?_ _); rotate_left; focus (first | omega | (simp; done) | (simp; omega))) | ((with_reducible refine Below.alloc ?_ ?_ _); rotate_left; focus (first | omega | (simp; done) | (simp; omega))))))) HJ1.out (HP1.out.below (by (repeat (first | with_reducible assumption | with_reducible exact Below.refl _ _ | with_reducible refine Below.drew ?_ | with_reducible refine belowDrewN ?_ _ | ((with_reducible refine Below.setCell ?_ ?_ _); rotate_left; focus (first | omega | (simp; done) | (simp; omega))) | ((with_reducible refine Below.alloc ?_ ?_ _); rotate_left; focus (first | omega | (simp; done) | (simp; omega)))))))).mono ?_
  rintro e w1 ⟨rfl, hb1⟩
  obtain ⟨hc1, hf1⟩ := bcell hb1; have hz1 := hb1.size; (try simp only [World.size_alloc, World.size_setCell, World.size_drew, sizeDrewN] at hz1 hc1 hf1); have hp1_0 : w.heap.size < w1.heap.size := (by omega); have hp1_1 : w.heap.size + 1 < w1.heap.size := (by omega)
  go_wp2_with fail
  refine (eqSyntaxS_calls d2 a2 c2 m2 a2' c2' m2' _ HI2.out (HN2.out.below (by (repeat (first | with_reducible assumption | with_reducible exact Below.refl _ _ | with_reducible refine Below.drew ?_ | with_reducible refine belowDrewN ?_ _ | ((with_reducible refine Below.setCell ?_ ?_ _); rotate_left; focus (first | omega | (simp; done) | (simp; omega))) | ((with_reducible refine Below.alloc ?_ ?_ _); rotate_left; focus (first | omega | (simp; done) | (simp; omega))) | ((with_reducible refine Below.trans ?_ (Below.mono hb1 ?_)); rotate_left; focus (first | omega | (simp; done) | (simp; omega))))))) HJ2.out (HP2.out.below (by (repeat (first | with_reducible assumption | with_reducible exact Below.refl _ _ | with_reducible refine Below.drew ?_ | with_reducible refine belowDrewN ?_ _ | ((with_reducible refine Below.setCell ?_ ?_ _); rotate_left; focus (first | omega | (simp; done) | (simp; omega))) | ((with_reducible refine Below.alloc ?_ ?_ _); rotate_left; focus (first | omega | (simp; done) | (simp; omega))) | ((with_reducible refine Below.trans ?_ (Below.mono hb1 ?_)); rotate_left; focus (first | omega | (simp; done) | (simp; omega)))))))).mono ?_
  rintro e w2 ⟨rfl, hb2⟩
  obtain ⟨hc2, hf2⟩ := bcell hb2; have hz2 := hb2.size; (try simp only [World.size_alloc, World.size_setCell, World.size_drew, sizeDrewN] at hz2 hc2 hf2); have hp2_0 : w.heap.size < w2.heap.size := (by omega); have hp2_1 : w.heap.size + 1 < w2.heap.size := (by omega)
  go_wp2_with fail
  refine (eqSyntaxS_calls d3 a3 c3 m3 a3' c3' m3' _ HI3.out (HN3.out.below (by (repeat (first | with_reducible assumption | with_reducible exact Below.refl _ _ | with_reducible refine Below.drew ?_ | with_reducible refine belowDrewN ?_ _ | ((with_reducible refine Below.setCell ?_ ?_ _); rotate_left; focus (first | omega | (simp; done) | (simp; omega))) | ((with_reducible refine Below.alloc ?_ ?_ _); rotate_left; focus (first | omega | (simp; done) | (simp; omega))) | ((with_reducible refine Below.trans ?_ (Below.mono hb1 ?_)); rotate_left; focus (first | omega | (simp; done) | (simp; omega))) | ((with_reducible refine Below.trans ?_ (Below.mono hb2 ?_)); rotate_left; focus (first | omega | (simp; done) | (simp; omega))))))) HJ3.out (HP3.out.below (by (repeat (first | with_reducible assumption | with_reducible exact Below.refl _ _ | with_reducible refine Below.drew ?_ | with_reducible refine belowDrewN ?_ _ | ((with_reducible refine Below.setCell ?_ ?_ _); rotate_left; focus (first | omega | (simp; done) | (simp; omega))) | ((with_reducible refine Below.alloc ?_ ?_ _); rotate_left; focus (first | omega | (simp; done) | (simp; omega))) | ((with_reducible refine Below.trans ?_ (Below.mono hb1 ?_)); rotate_left; focus (first | omega | (simp; done) | (simp; omega))) | ((with_reducible refine Below.trans ?_ (Below.mono hb2 ?_)); rotate_left; focus (first | omega | (simp; done) | (simp; omega)))))))).mono ?_
  rintro e w3 ⟨rfl, hb3⟩
  obtain ⟨hc3, hf3⟩ := bcell hb3; have hz3 := hb3.size; (try simp only [World.size_alloc, World.size_setCell, World.size_drew, sizeDrewN] at hz3 hc3 hf3); have hp3_0 : w.heap.size < w3.heap.size := (by omega); have hp3_1 : w.heap.size + 1 < w3.heap.size := (by omega)
  go_wp2_with fail
  go_ret
  exact ⟨rfl, by (repeat (first | with_reducible assumption | with_reducible exact Below.refl _ _ | with_reducible refine Below.drew ?_ | with_reducible refine belowDrewN ?_ _ | ((with_reducible refine Below.setCell ?_ ?_ _); rotate_left; focus (first | omega | (simp; done) | (simp; omega))) | ((with_reducible refine Below.alloc ?_ ?_ _); rotate_left; focus (first | omega | (simp; done) | (simp; omega))) | ((with_reducible refine Below.trans ?_ (Below.mono hb1 ?_)); rotate_left; focus (first | omega | (simp; done) | (simp; omega))) | ((with_reducible refine Below.trans ?_ (Below.mono hb2 ?_)); rotate_left; focus (first | omega | (simp; done) | (simp; omega))) | ((with_reducible refine Below.trans ?_ (Below.mono hb3 ?_)); rotate_left; focus (first | omega | (simp; done) | (simp; omega)))))⟩
theorem cellsRul : Try.prog.cellsOf 69 = 3 := by kernel_rfl
section
open Go.ChangeShapes Go.WideShapes Go.ChangeAt
theorem arg_rules {H : Type} {enc : TypeId × Value → H} {w : World} {sp : Nat → Bool} {hd : Bool} {v : Value} {d : DataW H} {p : List MemPlace} {b : Nat} (hv : Value.okWide Try.prog w .any b 69 v) (h : DataW.Trod enc Try.prog w 0 sp hd 69 v d p) :
    ∃ d1 d2 d3 a1 c1 m1 a2 c2 m2 a3 c3 m3, v = .agg #[.slice a1 m1.length c1, .slice a2 m2.length c2, .slice a3 m3.length c3] ∧ RulIs 25 d1 d2 d3 m1 m2 m3 ∧ (RulOwn 25 a1 c1 m1 a2 c2 m2 a3 c3 m3).In w ∧ Syn.wfL d1 ∧ Syn.wfL d2 ∧ Syn.wfL d3 := by
  obtain ⟨cs, rfl, _⟩ := okWide_struct Try.underlying69 hv
  obtain ⟨f, hf⟩ := h
  simp only [Value.cells] at hf
  obtain ⟨xs, n, hn, _, hl, hlen, hf⟩ := DataW.trod_struct Try.underlying69 hf
  rw [cellsRul] at hl
  obtain ⟨cs⟩ := cs
  simp only at hl hf
  match cs, hl with
  | [c0, c1, c2], _ =>
    have h0 := hf 0 _ rfl
    have h1 := hf 1 _ rfl
    have h2 := hf 2 _ rfl
    simp at hlen
    rw [List.getElem?_eq_getElem (by omega)] at h0 h1 h2
    simp [cellsSyns] at h0 h1 h2
    obtain ⟨a1, cp1, d1, m1, e0, hi1, hn1, hw1⟩ := op_syns_of (fuel := n) (N := n) (fun _ _ => op_syn _) (Nat.le_refl _) h0
    obtain ⟨a2, cp2, d2, m2, e1, hi2, hn2, hw2⟩ := op_syns_of (fuel := n) (N := n) (fun _ _ => op_syn _) (Nat.le_refl _) h1
    obtain ⟨a3, cp3, d3, m3, e2, hi3, hn3, hw3⟩ := op_syns_of (fuel := n) (N := n) (fun _ _ => op_syn _) (Nat.le_refl _) h2
    simp at e0 e1 e2
    subst e0; subst e1; subst e2
    exact ⟨d1, d2, d3, a1, cp1, m1, a2, cp2, m2, a3, cp3, m3, rfl, ⟨hi1, hi2, hi3⟩, ⟨hn1, hn2, hn3, trivial⟩, hw1, hw2, hw3⟩
end
end Go.Proofs.Ytdfekdeojahmmab
