/-
  Walks: NumberDatum, StringDatum, SymbolDatum. No condition.
-/
import Derived.Test.YtoflfamfhpijcaaDoorN6
set_option linter.unusedVariables false
set_option linter.unusedSimpArgs false
set_option maxRecDepth 100000
namespace Go.Proofs.YtoflfamfhpijcaaDoor
open Go.RowKit

theorem isDatB_leaf (k n : Int) (s : ByteArray) : isDatB k n s [] = nodeB k n s 0 := by
  cases hq : nodeB k n s 0 with
  | true => exact isDatB_yes ⟨by simp [Dat.countL], by simp [Dat.depthL], by rw [Dat.ok_mk]; simpa using hq⟩
  | false => exact isDatB_no fun h => by have := (Dat.ok_mk.1 h.2.2).1; simp [hq] at this
def onlyN (b : Bool) (n : Int) : Int := if b = true then n else 0
def onlyS (b : Bool) (s : ByteArray) : ByteArray := if b = true then s else ⟨#[]⟩
@[simp] theorem onlyN_t (n : Int) : onlyN true n = n := rfl
@[simp] theorem onlyN_f (n : Int) : onlyN false n = 0 := rfl
@[simp] theorem onlyS_t (s : ByteArray) : onlyS true s = s := rfl
@[simp] theorem onlyS_f (s : ByteArray) : onlyS false s = ⟨#[]⟩ := rfl

theorem only_calls (k n : Int) (s : ByteArray) (w : World) (hwf : (Dat.mk k n s []).wf) :
    Calls Tryd.prog 79 #[.agg #[.int .i64 k, .int .i64 n, .string s, .slice none 0 0]] w (RetDat 31 (.mk (onlyN (nodeB k n s 0) k) (onlyN (nodeB k n s 0) n) (onlyS (nodeB k n s 0) s) []) w) := by
  have hin : (M.sl none 0 4 31 []).In w := (M.Mine.nil w 0 4 31 (by decide)).in_
  have hi : Dat.IsL 31 [] [] := rfl
  have hleaf := isDatB_leaf k n s
  have HIN := Lib.hid hin; clear hin; have HI := Lib.hid hi; clear hi; have HWF := Lib.hid hwf; clear hwf
  go_enter Tryd.func79, Tryd.ntmps79
  go_wp2_with fail
  refine (iIsDatum_calls k n s [] none 0 [] _ HWF.out (by simp [Dat.countL]) HI.out (HIN.out.below (by (repeat (first | with_reducible assumption | with_reducible exact Below.refl _ _ | with_reducible refine Below.drew ?_ | with_reducible refine belowDrewN ?_ _ | ((with_reducible refine Below.setCell ?_ ?_ _); rotate_left; focus (first | omega | (simp; done) | (simp; omega))) | ((with_reducible refine Below.alloc ?_ ?_ _); rotate_left; focus (first | omega | (simp; done) | (simp; omega)))))))).mono ?_
  rintro e w1 ⟨rfl, hb1⟩
  obtain ⟨hc1, hf1⟩ := bcell hb1; have hz1 := hb1.size; (try simp only [World.size_alloc, World.size_setCell, World.size_drew, sizeDrewN] at hz1 hc1 hf1); have hp1_0 : w.heap.size < w1.heap.size := (by omega); have hp1_1 : w.heap.size + 1 < w1.heap.size := (by omega)
  have r0 : w1.cell? ⟨w.heap.size + 1, 0, none⟩ = some (.int .i64 0) := by rw [hc1 _ _ (by omega)]; simp [go_sem]
  have r1 : w1.cell? ⟨w.heap.size + 1, 1, none⟩ = some (.int .i64 0) := by rw [hc1 _ _ (by omega)]; simp [go_sem]
  have r2 : w1.cell? ⟨w.heap.size + 1, 2, none⟩ = some (.string ⟨#[]⟩) := by rw [hc1 _ _ (by omega)]; simp [go_sem]
  have r3 : w1.cell? ⟨w.heap.size + 1, 3, none⟩ = some (.slice none 0 0) := by rw [hc1 _ _ (by omega)]; simp [go_sem]
  rw [hleaf]
  clear hleaf
  cases hq : nodeB k n s 0 with
  | true =>
    go_wp2_with fail
    refine bodyPost_ret (v := .agg #[.int .i64 k, .int .i64 n, .string s, .slice none 0 0]) (by simp [results, Tryd.results79, go_sem, r0, r1, r2, r3]) rfl ?_
    exact ⟨none, 0, [], by simp [hq], rfl, M.Mine.nil _ _ _ _ (by decide), by (repeat (first | with_reducible assumption | with_reducible exact Below.refl _ _ | with_reducible refine Below.drew ?_ | with_reducible refine belowDrewN ?_ _ | ((with_reducible refine Below.setCell ?_ ?_ _); rotate_left; focus (first | omega | (simp; done) | (simp; omega))) | ((with_reducible refine Below.alloc ?_ ?_ _); rotate_left; focus (first | omega | (simp; done) | (simp; omega))) | ((with_reducible refine Below.trans ?_ (Below.mono hb1 ?_)); rotate_left; focus (first | omega | (simp; done) | (simp; omega)))))⟩
  | false =>
    go_wp2_with fail
    refine bodyPost_ret (v := .agg #[.int .i64 0, .int .i64 0, .string ⟨#[]⟩, .slice none 0 0]) (by simp [results, Tryd.results79, go_sem, r0, r1, r2, r3]) rfl ?_
    exact ⟨none, 0, [], by simp [hq], rfl, M.Mine.nil _ _ _ _ (by decide), by (repeat (first | with_reducible assumption | with_reducible exact Below.refl _ _ | with_reducible refine Below.drew ?_ | with_reducible refine belowDrewN ?_ _ | ((with_reducible refine Below.setCell ?_ ?_ _); rotate_left; focus (first | omega | (simp; done) | (simp; omega))) | ((with_reducible refine Below.alloc ?_ ?_ _); rotate_left; focus (first | omega | (simp; done) | (simp; omega))) | ((with_reducible refine Below.trans ?_ (Below.mono hb1 ?_)); rotate_left; focus (first | omega | (simp; done) | (simp; omega)))))⟩
def numB (n : Int) : Bool := inB n (-999999999) 999999999
theorem nodeB_num (n : Int) : nodeB 2 n ⟨#[]⟩ 0 = numB n := by unfold nodeB numB; simp
theorem nodeB_str (s : ByteArray) : nodeB 4 0 s 0 = strB s := by unfold nodeB; simp
theorem nodeB_sym (s : ByteArray) : nodeB 1 0 s 0 = isSymB s := by unfold nodeB; simp
theorem iSymbolDatum_calls (s : ByteArray) (w : World) (hs : s.size ≤ 9223372036854775807) : Calls Tryd.prog 43 #[.string s] w (RetDat 31 (.mk (onlyN (isSymB s) 1) 0 (onlyS (isSymB s) s) []) w) := by
  have hv := nodeB_sym s
  have hwf : (Dat.mk 1 0 s []).wf := ⟨by unfold I64; omega, by unfold I64; omega, hs, trivial⟩
  have hem : onlyN (isSymB s) 0 = 0 := by cases isSymB s <;> rfl
  have HWF := Lib.hid hwf; clear hwf
  go_enter Tryd.func43, Tryd.ntmps43
  go_wp2_with fail
  refine (only_calls 1 0 s _ HWF.out).mono ?_
  rintro e w1 ⟨a1, c1, ms1, rfl, hi1, hm1, hb1⟩
  rw [hv] at hi1
  simp only [Dat.k_mk, Dat.n_mk, Dat.s_mk, Dat.ds_mk, hv, hem] at *
  obtain ⟨hc1, hf1⟩ := bcell hb1; have hz1 := hb1.size; (try simp only [World.size_alloc, World.size_setCell, World.size_drew, sizeDrewN] at hz1 hc1 hf1); have hp1_0 : w.heap.size < w1.heap.size := (by omega)
  have r0 : w1.cell? ⟨w.heap.size, 0, none⟩ = some (.int .i64 0) := by rw [hc1 _ _ (by omega)]; simp [go_sem]
  have r1 : w1.cell? ⟨w.heap.size, 1, none⟩ = some (.int .i64 0) := by rw [hc1 _ _ (by omega)]; simp [go_sem]
  have r2 : w1.cell? ⟨w.heap.size, 2, none⟩ = some (.string ⟨#[]⟩) := by rw [hc1 _ _ (by omega)]; simp [go_sem]
  have r3 : w1.cell? ⟨w.heap.size, 3, none⟩ = some (.slice none 0 0) := by rw [hc1 _ _ (by omega)]; simp [go_sem]
  have HI1 := Lib.hid hi1; clear hi1
  go_wp2_with fail
  refine bodyPost_ret (v := .agg #[.int .i64 (onlyN (isSymB s) 1), .int .i64 0, .string (onlyS (isSymB s) s), .slice a1 ms1.length c1]) (by simp [results, Tryd.results43, go_sem, r0, r1, r2, r3]) rfl ?_
  refine ⟨a1, c1, ms1, rfl, HI1.out, ?_, by (repeat (first | with_reducible assumption | with_reducible exact Below.refl _ _ | with_reducible refine Below.drew ?_ | with_reducible refine belowDrewN ?_ _ | ((with_reducible refine Below.setCell ?_ ?_ _); rotate_left; focus (first | omega | (simp; done) | (simp; omega))) | ((with_reducible refine Below.alloc ?_ ?_ _); rotate_left; focus (first | omega | (simp; done) | (simp; omega))) | ((with_reducible refine Below.trans ?_ (Below.mono hb1 ?_)); rotate_left; focus (first | omega | (simp; done) | (simp; omega)))))⟩
  (exact M.Mine.mono (M.Mine.keep hm1 (fun b hb1 hb2 => by (try simp at hb1); simp (disch := (first | omega | (simp; omega))) only [heapSet, heapNew, heapDrew, heapDrewN])) (by first | omega | (simp; done) | (simp; omega)))
theorem sStringDatum_calls (s : ByteArray) (w : World) (hs : s.size ≤ 9223372036854775807) : Calls Tryd.prog 99 #[.string s] w (RetDat 31 (.mk (onlyN (strB s) 4) 0 (onlyS (strB s) s) []) w) := by
  go_enter Tryd.func99, Tryd.ntmps99
  go_wp2_with fail
  refine (l1String_calls s _ hs).mono ?_
  rintro e w1 ⟨rfl, rfl⟩
  cases hq : strB s with
  | true =>
    go_wp2_with fail
    refine bodyPost_ret (v := .agg #[.int .i64 4, .int .i64 0, .string s, .slice none 0 0]) (by simp [results, Tryd.results99, go_sem]) rfl ?_
    exact ⟨none, 0, [], by simp [hq], rfl, M.Mine.nil _ _ _ _ (by decide), by (repeat (first | with_reducible assumption | with_reducible exact Below.refl _ _ | with_reducible refine Below.drew ?_ | with_reducible refine belowDrewN ?_ _ | ((with_reducible refine Below.setCell ?_ ?_ _); rotate_left; focus (first | omega | (simp; done) | (simp; omega))) | ((with_reducible refine Below.alloc ?_ ?_ _); rotate_left; focus (first | omega | (simp; done) | (simp; omega)))))⟩
  | false =>
    go_wp2_with fail
    refine bodyPost_ret (v := .agg #[.int .i64 0, .int .i64 0, .string ⟨#[]⟩, .slice none 0 0]) (by simp [results, Tryd.results99, go_sem]) rfl ?_
    exact ⟨none, 0, [], by simp [hq], rfl, M.Mine.nil _ _ _ _ (by decide), by (repeat (first | with_reducible assumption | with_reducible exact Below.refl _ _ | with_reducible refine Below.drew ?_ | with_reducible refine belowDrewN ?_ _ | ((with_reducible refine Below.setCell ?_ ?_ _); rotate_left; focus (first | omega | (simp; done) | (simp; omega))) | ((with_reducible refine Below.alloc ?_ ?_ _); rotate_left; focus (first | omega | (simp; done) | (simp; omega)))))⟩
theorem sSymbolDatum_calls (s : ByteArray) (w : World) (hs : s.size ≤ 9223372036854775807) : Calls Tryd.prog 95 #[.string s] w (RetDat 31 (.mk (onlyN (isSymB s) 1) 0 (onlyS (isSymB s) s) []) w) := by
  go_enter Tryd.func95, Tryd.ntmps95
  go_wp2_with fail
  refine (sIsSymbol_calls s _ hs).mono ?_
  rintro e w1 ⟨rfl, rfl⟩
  cases hq : isSymB s with
  | true =>
    go_wp2_with fail
    refine bodyPost_ret (v := .agg #[.int .i64 1, .int .i64 0, .string s, .slice none 0 0]) (by simp [results, Tryd.results95, go_sem]) rfl ?_
    exact ⟨none, 0, [], by simp [hq], rfl, M.Mine.nil _ _ _ _ (by decide), by (repeat (first | with_reducible assumption | with_reducible exact Below.refl _ _ | with_reducible refine Below.drew ?_ | with_reducible refine belowDrewN ?_ _ | ((with_reducible refine Below.setCell ?_ ?_ _); rotate_left; focus (first | omega | (simp; done) | (simp; omega))) | ((with_reducible refine Below.alloc ?_ ?_ _); rotate_left; focus (first | omega | (simp; done) | (simp; omega)))))⟩
  | false =>
    go_wp2_with fail
    refine bodyPost_ret (v := .agg #[.int .i64 0, .int .i64 0, .string ⟨#[]⟩, .slice none 0 0]) (by simp [results, Tryd.results95, go_sem]) rfl ?_
    exact ⟨none, 0, [], by simp [hq], rfl, M.Mine.nil _ _ _ _ (by decide), by (repeat (first | with_reducible assumption | with_reducible exact Below.refl _ _ | with_reducible refine Below.drew ?_ | with_reducible refine belowDrewN ?_ _ | ((with_reducible refine Below.setCell ?_ ?_ _); rotate_left; focus (first | omega | (simp; done) | (simp; omega))) | ((with_reducible refine Below.alloc ?_ ?_ _); rotate_left; focus (first | omega | (simp; done) | (simp; omega)))))⟩
theorem sNumberDatum_calls (n : Int) (w : World) : Calls Tryd.prog 96 #[.int .i64 n] w (RetDat 31 (.mk (onlyN (numB n) 2) (onlyN (numB n) n) ⟨#[]⟩ []) w) := by
  have hnb : numB n = inB n (-999999999) 999999999 := rfl
  go_enter Tryd.func96, Tryd.ntmps96
  go_wp2_with fail
  refine (l1In_calls n (-999999999) 999999999 _).mono ?_
  rintro e w1 ⟨rfl, rfl⟩
  rw [← hnb]
  clear hnb
  cases hq : numB n with
  | true =>
    go_wp2_with fail
    refine bodyPost_ret (v := .agg #[.int .i64 2, .int .i64 n, .string ⟨#[]⟩, .slice none 0 0]) (by simp [results, Tryd.results96, go_sem]) rfl ?_
    exact ⟨none, 0, [], by simp [hq], rfl, M.Mine.nil _ _ _ _ (by decide), by (repeat (first | with_reducible assumption | with_reducible exact Below.refl _ _ | with_reducible refine Below.drew ?_ | with_reducible refine belowDrewN ?_ _ | ((with_reducible refine Below.setCell ?_ ?_ _); rotate_left; focus (first | omega | (simp; done) | (simp; omega))) | ((with_reducible refine Below.alloc ?_ ?_ _); rotate_left; focus (first | omega | (simp; done) | (simp; omega)))))⟩
  | false =>
    go_wp2_with fail
    refine bodyPost_ret (v := .agg #[.int .i64 0, .int .i64 0, .string ⟨#[]⟩, .slice none 0 0]) (by simp [results, Tryd.results96, go_sem]) rfl ?_
    exact ⟨none, 0, [], by simp [hq], rfl, M.Mine.nil _ _ _ _ (by decide), by (repeat (first | with_reducible assumption | with_reducible exact Below.refl _ _ | with_reducible refine Below.drew ?_ | with_reducible refine belowDrewN ?_ _ | ((with_reducible refine Below.setCell ?_ ?_ _); rotate_left; focus (first | omega | (simp; done) | (simp; omega))) | ((with_reducible refine Below.alloc ?_ ?_ _); rotate_left; focus (first | omega | (simp; done) | (simp; omega)))))⟩
end Go.Proofs.YtoflfamfhpijcaaDoor
