/-
  Walks: NumberDatum, StringDatum, SymbolDatum. No condition.
-/
import Derived.Test.YtoflfamfhpijcaaN6
set_option linter.unusedVariables false
set_option linter.unusedSimpArgs false
set_option maxRecDepth 100000
namespace Go.Proofs.Ytoflfamfhpijcaa
open Go.RowKit

theorem isDatB_leaf (k n : Int) (s : ByteArray) : isDatB k n s [] = nodeB k n s 0 := by
  cases hq : nodeB k n s 0 with
  | true => exact isDatB_yes ⟨by simp [Dat.countL], by simp [Dat.depthL], by rw [Dat.ok_mk]; simpa using hq⟩
  | false => exact isDatB_no fun h => by have := (Dat.ok_mk.1 h.2.2).1; simp [hq] at this
def onlyN (b : Bool) (n : Int) : Int := if b = true then n else 0
def onlyS (b : Bool) (s : ByteArray) : ByteArray := if b = true then s else ⟨#[]⟩
@[simp] theorem onlyN_t (n : Int) : onlyN true n = n := rfl
@[simp] theorem onlyN_f (n : Int) : onlyN false n = 0 := rfl
@[simp] theorem onlyS_t (s : ByteArray) : onlyS true s = s := rfl
@[simp] theorem onlyS_f (s : ByteArray) : onlyS false s = ⟨#[]⟩ := rfl

def numB (n : Int) : Bool := inB n (-999999999) 999999999
theorem nodeB_num (n : Int) : nodeB 2 n ⟨#[]⟩ 0 = numB n := by unfold nodeB numB; simp
theorem nodeB_str (s : ByteArray) : nodeB 4 0 s 0 = strB s := by unfold nodeB; simp
theorem nodeB_sym (s : ByteArray) : nodeB 1 0 s 0 = isSymB s := by unfold nodeB; simp
theorem sStringDatum_calls (s : ByteArray) (w : World) (hs : s.size ≤ 9223372036854775807) : Calls Try.prog 150 #[.string s] w (RetDat 31 (.mk (onlyN (strB s) 4) 0 (onlyS (strB s) s) []) w) := by
  go_enter Try.func150, Try.ntmps150
  go_wp2_with fail
  refine (l1String_calls s _ hs).mono ?_
  rintro e w1 ⟨rfl, rfl⟩
  cases hq : strB s with
  | true =>
    go_wp2_with fail
    refine bodyPost_ret (v := .agg #[.int .i64 4, .int .i64 0, .string s, .slice none 0 0]) (by simp [results, Try.results150, go_sem]) rfl ?_
    exact ⟨none, 0, [], by simp [hq], rfl, M.Mine.nil _ _ _ _ (by decide), by (repeat (first | with_reducible assumption | with_reducible exact Below.refl _ _ | with_reducible refine Below.drew ?_ | with_reducible refine belowDrewN ?_ _ | ((with_reducible refine Below.setCell ?_ ?_ _); rotate_left; focus (first | omega | (simp; done) | (simp; omega))) | ((with_reducible refine Below.alloc ?_ ?_ _); rotate_left; focus (first | omega | (simp; done) | (simp; omega)))))⟩
  | false =>
    go_wp2_with fail
    refine bodyPost_ret (v := .agg #[.int .i64 0, .int .i64 0, .string ⟨#[]⟩, .slice none 0 0]) (by simp [results, Try.results150, go_sem]) rfl ?_
    exact ⟨none, 0, [], by simp [hq], rfl, M.Mine.nil _ _ _ _ (by decide), by (repeat (first | with_reducible assumption | with_reducible exact Below.refl _ _ | with_reducible refine Below.drew ?_ | with_reducible refine belowDrewN ?_ _ | ((with_reducible refine Below.setCell ?_ ?_ _); rotate_left; focus (first | omega | (simp; done) | (simp; omega))) | ((with_reducible refine Below.alloc ?_ ?_ _); rotate_left; focus (first | omega | (simp; done) | (simp; omega)))))⟩
theorem sSymbolDatum_calls (s : ByteArray) (w : World) (hs : s.size ≤ 9223372036854775807) : Calls Try.prog 147 #[.string s] w (RetDat 31 (.mk (onlyN (isSymB s) 1) 0 (onlyS (isSymB s) s) []) w) := by
  go_enter Try.func147, Try.ntmps147
  go_wp2_with fail
  refine (sIsSymbol_calls s _ hs).mono ?_
  rintro e w1 ⟨rfl, rfl⟩
  cases hq : isSymB s with
  | true =>
    go_wp2_with fail
    refine bodyPost_ret (v := .agg #[.int .i64 1, .int .i64 0, .string s, .slice none 0 0]) (by simp [results, Try.results147, go_sem]) rfl ?_
    exact ⟨none, 0, [], by simp [hq], rfl, M.Mine.nil _ _ _ _ (by decide), by (repeat (first | with_reducible assumption | with_reducible exact Below.refl _ _ | with_reducible refine Below.drew ?_ | with_reducible refine belowDrewN ?_ _ | ((with_reducible refine Below.setCell ?_ ?_ _); rotate_left; focus (first | omega | (simp; done) | (simp; omega))) | ((with_reducible refine Below.alloc ?_ ?_ _); rotate_left; focus (first | omega | (simp; done) | (simp; omega)))))⟩
  | false =>
    go_wp2_with fail
    refine bodyPost_ret (v := .agg #[.int .i64 0, .int .i64 0, .string ⟨#[]⟩, .slice none 0 0]) (by simp [results, Try.results147, go_sem]) rfl ?_
    exact ⟨none, 0, [], by simp [hq], rfl, M.Mine.nil _ _ _ _ (by decide), by (repeat (first | with_reducible assumption | with_reducible exact Below.refl _ _ | with_reducible refine Below.drew ?_ | with_reducible refine belowDrewN ?_ _ | ((with_reducible refine Below.setCell ?_ ?_ _); rotate_left; focus (first | omega | (simp; done) | (simp; omega))) | ((with_reducible refine Below.alloc ?_ ?_ _); rotate_left; focus (first | omega | (simp; done) | (simp; omega)))))⟩
theorem sNumberDatum_calls (n : Int) (w : World) : Calls Try.prog 148 #[.int .i64 n] w (RetDat 31 (.mk (onlyN (numB n) 2) (onlyN (numB n) n) ⟨#[]⟩ []) w) := by
  have hnb : numB n = inB n (-999999999) 999999999 := rfl
  go_enter Try.func148, Try.ntmps148
  go_wp2_with fail
  refine (l1In_calls n (-999999999) 999999999 _).mono ?_
  rintro e w1 ⟨rfl, rfl⟩
  rw [← hnb]
  clear hnb
  cases hq : numB n with
  | true =>
    go_wp2_with fail
    refine bodyPost_ret (v := .agg #[.int .i64 2, .int .i64 n, .string ⟨#[]⟩, .slice none 0 0]) (by simp [results, Try.results148, go_sem]) rfl ?_
    exact ⟨none, 0, [], by simp [hq], rfl, M.Mine.nil _ _ _ _ (by decide), by (repeat (first | with_reducible assumption | with_reducible exact Below.refl _ _ | with_reducible refine Below.drew ?_ | with_reducible refine belowDrewN ?_ _ | ((with_reducible refine Below.setCell ?_ ?_ _); rotate_left; focus (first | omega | (simp; done) | (simp; omega))) | ((with_reducible refine Below.alloc ?_ ?_ _); rotate_left; focus (first | omega | (simp; done) | (simp; omega)))))⟩
  | false =>
    go_wp2_with fail
    refine bodyPost_ret (v := .agg #[.int .i64 0, .int .i64 0, .string ⟨#[]⟩, .slice none 0 0]) (by simp [results, Try.results148, go_sem]) rfl ?_
    exact ⟨none, 0, [], by simp [hq], rfl, M.Mine.nil _ _ _ _ (by decide), by (repeat (first | with_reducible assumption | with_reducible exact Below.refl _ _ | with_reducible refine Below.drew ?_ | with_reducible refine belowDrewN ?_ _ | ((with_reducible refine Below.setCell ?_ ?_ _); rotate_left; focus (first | omega | (simp; done) | (simp; omega))) | ((with_reducible refine Below.alloc ?_ ?_ _); rotate_left; focus (first | omega | (simp; done) | (simp; omega)))))⟩
end Go.Proofs.Ytoflfamfhpijcaa
