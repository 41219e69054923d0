/-
  Texts set together by wip/tools/merge.py: N6, N7, D4, DM1, Mk, DM2, B1, Q6, Step, Step3, C1, C2, Q7, Push, Q8, Y4, SM1, T1, MX3, MX4. No condition beyond those told with each.
-/
import Derived.Test.YtghbnehocggnnaaGb
import Derived.Deep.RegionLaw
/-
  Walks: IsDatum. No condition.
-/
set_option linter.unusedVariables false
set_option linter.unusedSimpArgs false
set_option maxRecDepth 100000
namespace Go.Proofs.Ytghbnehocggnnaa
open Go.RowKit

def IsDatP (k n : Int) (s : ByteArray) (ds : List Dat) : Prop := 1 + Dat.countL ds ≤ 600 ∧ 1 + Dat.depthL ds ≤ 20 ∧ (Dat.mk k n s ds).ok
open Classical in
noncomputable def isDatB (k n : Int) (s : ByteArray) (ds : List Dat) : Bool := decide (IsDatP k n s ds)
theorem isDatB_yes {k n : Int} {s : ByteArray} {ds : List Dat} (h : IsDatP k n s ds) : isDatB k n s ds = true := by simp [isDatB, h]
theorem isDatB_no {k n : Int} {s : ByteArray} {ds : List Dat} (h : ¬ IsDatP k n s ds) : isDatB k n s ds = false := by simp [isDatB, h]

theorem iIsDatum_calls (k n : Int) (s : ByteArray) (ds : List Dat) (a : Option Addr) (cap : Nat) (ms : List M) (w : World) (hwf : (Dat.mk k n s ds).wf) (hB : Dat.countL ds ≤ 1000000000) (hi : Dat.IsL 52 ds ms) (hin : (M.sl a cap 4 52 ms).In w) :
    Calls Try.prog 71 #[.agg #[.int .i64 k, .int .i64 n, .string s, .slice a ms.length cap]] w (Ret (.bool (isDatB k n s ds)) w) := by
  have HI := Lib.hid hi; clear hi; have HIN := Lib.hid hin; clear hin; have HWF := Lib.hid hwf; clear hwf
  go_enter Try.func71, Try.ntmps71
  go_wp2_with fail
  refine (measure_calls ds k n s a cap ms 1 (w.heap.size + 1) 0 w _ HWF.out hB HI.out HIN.out (by (repeat (first | with_reducible assumption | with_reducible exact Below.refl _ _ | with_reducible refine Below.drew ?_ | with_reducible refine belowDrewN ?_ _ | ((with_reducible refine Below.setCell ?_ ?_ _); rotate_left; focus (first | omega | (simp; done) | (simp; omega))) | ((with_reducible refine Below.alloc ?_ ?_ _); rotate_left; focus (first | omega | (simp; done) | (simp; omega)))))) (by omega) (by omega) (by omega) (by omega) (by omega) (by simp [go_sem]) (by simp [go_sem])).mono ?_
  rintro e w1 ⟨bb, C', rfl, hbb, hbc, hlo, hhi, q', qf', ho2⟩
  have hbel : Below w.heap.size w w1 := ho2.low (by (repeat (first | with_reducible assumption | with_reducible exact Below.refl _ _ | with_reducible refine Below.drew ?_ | with_reducible refine belowDrewN ?_ _ | ((with_reducible refine Below.setCell ?_ ?_ _); rotate_left; focus (first | omega | (simp; done) | (simp; omega))) | ((with_reducible refine Below.alloc ?_ ?_ _); rotate_left; focus (first | omega | (simp; done) | (simp; omega)))))) (by omega)
  have hv : bb = isDatB k n s ds := by
    have hx : MsOk k n s ds 1 0 ↔ IsDatP k n s ds := by unfold MsOk IsDatP; constructor <;> (rintro ⟨h1, h2, h3⟩; exact ⟨by omega, by omega, h3⟩)
    cases bb with
    | true => exact (isDatB_yes (hx.1 (hbb.1 rfl))).symm
    | false => exact (isDatB_no fun h => by have := hbb.2 (hx.2 h); simp at this).symm
  have HBB := Lib.hid hbb; clear hbb; have HBC := Lib.hid hbc; clear hbc; have HO2 := Lib.hid ho2; clear ho2; have HBEL := Lib.hid hbel; clear hbel
  go_wp2_with fail
  go_ret
  exact ⟨rfl, HBEL.out⟩
theorem sIsDatum_calls (k n : Int) (s : ByteArray) (ds : List Dat) (a : Option Addr) (cap : Nat) (ms : List M) (w : World) (hwf : (Dat.mk k n s ds).wf) (hB : Dat.countL ds ≤ 1000000000) (hi : Dat.IsL 52 ds ms) (hin : (M.sl a cap 4 52 ms).In w) :
    Calls Try.prog 31 #[.agg #[.int .i64 k, .int .i64 n, .string s, .slice a ms.length cap]] w (Ret (.bool (isDatB k n s ds)) w) := by
  have hdl := Dat.depthL_le ds
  have HI := Lib.hid hi; clear hi; have HIN := Lib.hid hin; clear hin; have HWF := Lib.hid hwf; clear hwf
  go_enter Try.func31, Try.ntmps31
  go_wp2_with fail
  refine (l1Few_calls ds k n s a cap ms (w.heap.size + 1) 600 w _ hB HI.out HIN.out (by (repeat (first | with_reducible assumption | with_reducible exact Below.refl _ _ | with_reducible refine Below.drew ?_ | with_reducible refine belowDrewN ?_ _ | ((with_reducible refine Below.setCell ?_ ?_ _); rotate_left; focus (first | omega | (simp; done) | (simp; omega))) | ((with_reducible refine Below.alloc ?_ ?_ _); rotate_left; focus (first | omega | (simp; done) | (simp; omega)))))) (by omega) (by omega) (by omega) (by simp [go_sem]) (by simp [go_sem])).mono ?_
  rintro e w1 ⟨rfl, q', qf', ho1⟩
  obtain ⟨hc1, hf1⟩ := ocell ho1
  have hz1 := ho1.size
  simp only [World.size_alloc] at hz1 hc1
  have hb1 : Below w.heap.size w w1 := ho1.low (by (repeat (first | with_reducible assumption | with_reducible exact Below.refl _ _ | with_reducible refine Below.drew ?_ | with_reducible refine belowDrewN ?_ _ | ((with_reducible refine Below.setCell ?_ ?_ _); rotate_left; focus (first | omega | (simp; done) | (simp; omega))) | ((with_reducible refine Below.alloc ?_ ?_ _); rotate_left; focus (first | omega | (simp; done) | (simp; omega)))))) (by omega)
  have q0 : w1.cell? ⟨w.heap.size, 0, none⟩ = some (.int .i64 k) := by rw [hc1 _ _ (by omega) (by omega)]; simp [go_sem]
  have q1 : w1.cell? ⟨w.heap.size, 1, none⟩ = some (.int .i64 n) := by rw [hc1 _ _ (by omega) (by omega)]; simp [go_sem]
  have q2 : w1.cell? ⟨w.heap.size, 2, none⟩ = some (.string s) := by rw [hc1 _ _ (by omega) (by omega)]; simp [go_sem]
  have q3 : w1.cell? ⟨w.heap.size, 3, none⟩ = some (.slice a ms.length cap) := by rw [hc1 _ _ (by omega) (by omega)]; simp [go_sem]
  clear hc1 hf1
  have HO1 := Lib.hid ho1; clear ho1
  by_cases hfew : ((1 + Dat.countL ds : Nat) : Int) ≤ 600
  · have hpos : 0 ≤ few 600 (1 + Dat.countL ds) := by rw [few_pos hfew]; omega
    go_wp2_with fail
    refine (sDepthOf_calls ds k n s a cap ms _ (by omega) HI.out (HIN.out.below hb1)).mono ?_
    rintro e w2 ⟨rfl, hb2⟩
    obtain ⟨hc2, hf2⟩ := bcell hb2; have hz2 := hb2.size; (try simp only [World.size_alloc, World.size_setCell, World.size_drew, sizeDrewN] at hz2 hc2 hf2)
    have q0' := (hc2 _ _ (by omega)).trans q0
    have q1' := (hc2 _ _ (by omega)).trans q1
    have q2' := (hc2 _ _ (by omega)).trans q2
    have q3' := (hc2 _ _ (by omega)).trans q3
    by_cases hdp : ((1 + Dat.depthL ds : Nat) : Int) ≤ 20
    · go_wp2_with fail
      refine (l1Nodes_calls ds k n s a cap ms _ HWF.out HI.out (HIN.out.below (by (repeat (first | with_reducible assumption | with_reducible exact Below.refl _ _ | with_reducible refine Below.drew ?_ | with_reducible refine belowDrewN ?_ _ | ((with_reducible refine Below.setCell ?_ ?_ _); rotate_left; focus (first | omega | (simp; done) | (simp; omega))) | ((with_reducible refine Below.alloc ?_ ?_ _); rotate_left; focus (first | omega | (simp; done) | (simp; omega))) | ((with_reducible refine Below.trans ?_ (Below.mono hb1 ?_)); rotate_left; focus (first | omega | (simp; done) | (simp; omega))) | ((with_reducible refine Below.trans ?_ (Below.mono hb2 ?_)); rotate_left; focus (first | omega | (simp; done) | (simp; omega)))))))).mono ?_
      rintro e w3 ⟨rfl, hb3⟩
      obtain ⟨hc3, hf3⟩ := bcell hb3; have hz3 := hb3.size; (try simp only [World.size_alloc, World.size_setCell, World.size_drew, sizeDrewN] at hz3 hc3 hf3)
      have hv : (Dat.mk k n s ds).okB = isDatB k n s ds := by
        cases hq : (Dat.mk k n s ds).okB with
        | true => exact (isDatB_yes ⟨by omega, by omega, Dat.okB_true.1 hq⟩).symm
        | false => exact (isDatB_no fun h => Dat.okB_false.1 hq h.2.2).symm
      go_wp2_with fail
      go_ret
      exact ⟨rfl, by (repeat (first | with_reducible assumption | with_reducible exact Below.refl _ _ | with_reducible refine Below.drew ?_ | with_reducible refine belowDrewN ?_ _ | ((with_reducible refine Below.setCell ?_ ?_ _); rotate_left; focus (first | omega | (simp; done) | (simp; omega))) | ((with_reducible refine Below.alloc ?_ ?_ _); rotate_left; focus (first | omega | (simp; done) | (simp; omega))) | ((with_reducible refine Below.trans ?_ (Below.mono hb1 ?_)); rotate_left; focus (first | omega | (simp; done) | (simp; omega))) | ((with_reducible refine Below.trans ?_ (Below.mono hb2 ?_)); rotate_left; focus (first | omega | (simp; done) | (simp; omega))) | ((with_reducible refine Below.trans ?_ (Below.mono hb3 ?_)); rotate_left; focus (first | omega | (simp; done) | (simp; omega)))))⟩
    · have hno := isDatB_no (k := k) (n := n) (s := s) (ds := ds) fun h => hdp (by have := h.2.1; omega)
      have HNO := Lib.hid hno; clear hno
      go_wp2_with fail
      go_ret
      exact ⟨ret_b HNO.out.symm, by (repeat (first | with_reducible assumption | with_reducible exact Below.refl _ _ | with_reducible refine Below.drew ?_ | with_reducible refine belowDrewN ?_ _ | ((with_reducible refine Below.setCell ?_ ?_ _); rotate_left; focus (first | omega | (simp; done) | (simp; omega))) | ((with_reducible refine Below.alloc ?_ ?_ _); rotate_left; focus (first | omega | (simp; done) | (simp; omega))) | ((with_reducible refine Below.trans ?_ (Below.mono hb1 ?_)); rotate_left; focus (first | omega | (simp; done) | (simp; omega))) | ((with_reducible refine Below.trans ?_ (Below.mono hb2 ?_)); rotate_left; focus (first | omega | (simp; done) | (simp; omega)))))⟩
  · have hneg : ¬ 0 ≤ few 600 (1 + Dat.countL ds) := by rw [few_neg hfew]; omega
    have hno := isDatB_no (k := k) (n := n) (s := s) (ds := ds) fun h => hfew (by have := h.1; omega)
    have HNO := Lib.hid hno; clear hno
    go_wp2_with fail
    go_ret
    exact ⟨ret_b HNO.out.symm, by (repeat (first | with_reducible assumption | with_reducible exact Below.refl _ _ | with_reducible refine Below.drew ?_ | with_reducible refine belowDrewN ?_ _ | ((with_reducible refine Below.setCell ?_ ?_ _); rotate_left; focus (first | omega | (simp; done) | (simp; omega))) | ((with_reducible refine Below.alloc ?_ ?_ _); rotate_left; focus (first | omega | (simp; done) | (simp; omega))) | ((with_reducible refine Below.trans ?_ (Below.mono hb1 ?_)); rotate_left; focus (first | omega | (simp; done) | (simp; omega)))))⟩
end Go.Proofs.Ytghbnehocggnnaa

/-
  Walks: NumberDatum, StringDatum, SymbolDatum. No condition.
-/
set_option linter.unusedVariables false
set_option linter.unusedSimpArgs false
set_option maxRecDepth 100000
namespace Go.Proofs.Ytghbnehocggnnaa
open Go.RowKit

theorem isDatB_leaf (k n : Int) (s : ByteArray) : isDatB k n s [] = nodeB k n s 0 := by
  cases hq : nodeB k n s 0 with
  | true => exact isDatB_yes ⟨by simp [Dat.countL], by simp [Dat.depthL], by rw [Dat.ok_mk]; simpa using hq⟩
  | false => exact isDatB_no fun h => by have := (Dat.ok_mk.1 h.2.2).1; simp [hq] at this
def onlyN (b : Bool) (n : Int) : Int := if b = true then n else 0
def onlyS (b : Bool) (s : ByteArray) : ByteArray := if b = true then s else ⟨#[]⟩
@[simp] theorem onlyN_t (n : Int) : onlyN true n = n := rfl
@[simp] theorem onlyN_f (n : Int) : onlyN false n = 0 := rfl
@[simp] theorem onlyS_t (s : ByteArray) : onlyS true s = s := rfl
@[simp] theorem onlyS_f (s : ByteArray) : onlyS false s = ⟨#[]⟩ := rfl

def numB (n : Int) : Bool := inB n (-999999999) 999999999
theorem nodeB_num (n : Int) : nodeB 2 n ⟨#[]⟩ 0 = numB n := by unfold nodeB numB; simp
theorem nodeB_str (s : ByteArray) : nodeB 4 0 s 0 = strB s := by unfold nodeB; simp
theorem nodeB_sym (s : ByteArray) : nodeB 1 0 s 0 = isSymB s := by unfold nodeB; simp
theorem sStringDatum_calls (s : ByteArray) (w : World) (hs : s.size ≤ 9223372036854775807) : Calls Try.prog 119 #[.string s] w (RetDat 52 (.mk (onlyN (strB s) 4) 0 (onlyS (strB s) s) []) w) := by
  go_enter Try.func119, Try.ntmps119
  go_wp2_with fail
  refine (l1String_calls s _ hs).mono ?_
  rintro e w1 ⟨rfl, rfl⟩
  cases hq : strB s with
  | true =>
    go_wp2_with fail
    refine bodyPost_ret (v := .agg #[.int .i64 4, .int .i64 0, .string s, .slice none 0 0]) (by simp [results, Try.results119, go_sem]) rfl ?_
    exact ⟨none, 0, [], by simp [hq], rfl, M.Mine.nil _ _ _ _ (by decide), by (repeat (first | with_reducible assumption | with_reducible exact Below.refl _ _ | with_reducible refine Below.drew ?_ | with_reducible refine belowDrewN ?_ _ | ((with_reducible refine Below.setCell ?_ ?_ _); rotate_left; focus (first | omega | (simp; done) | (simp; omega))) | ((with_reducible refine Below.alloc ?_ ?_ _); rotate_left; focus (first | omega | (simp; done) | (simp; omega)))))⟩
  | false =>
    go_wp2_with fail
    refine bodyPost_ret (v := .agg #[.int .i64 0, .int .i64 0, .string ⟨#[]⟩, .slice none 0 0]) (by simp [results, Try.results119, go_sem]) rfl ?_
    exact ⟨none, 0, [], by simp [hq], rfl, M.Mine.nil _ _ _ _ (by decide), by (repeat (first | with_reducible assumption | with_reducible exact Below.refl _ _ | with_reducible refine Below.drew ?_ | with_reducible refine belowDrewN ?_ _ | ((with_reducible refine Below.setCell ?_ ?_ _); rotate_left; focus (first | omega | (simp; done) | (simp; omega))) | ((with_reducible refine Below.alloc ?_ ?_ _); rotate_left; focus (first | omega | (simp; done) | (simp; omega)))))⟩
theorem sSymbolDatum_calls (s : ByteArray) (w : World) (hs : s.size ≤ 9223372036854775807) : Calls Try.prog 116 #[.string s] w (RetDat 52 (.mk (onlyN (isSymB s) 1) 0 (onlyS (isSymB s) s) []) w) := by
  go_enter Try.func116, Try.ntmps116
  go_wp2_with fail
  refine (sIsSymbol_calls s _ hs).mono ?_
  rintro e w1 ⟨rfl, rfl⟩
  cases hq : isSymB s with
  | true =>
    go_wp2_with fail
    refine bodyPost_ret (v := .agg #[.int .i64 1, .int .i64 0, .string s, .slice none 0 0]) (by simp [results, Try.results116, go_sem]) rfl ?_
    exact ⟨none, 0, [], by simp [hq], rfl, M.Mine.nil _ _ _ _ (by decide), by (repeat (first | with_reducible assumption | with_reducible exact Below.refl _ _ | with_reducible refine Below.drew ?_ | with_reducible refine belowDrewN ?_ _ | ((with_reducible refine Below.setCell ?_ ?_ _); rotate_left; focus (first | omega | (simp; done) | (simp; omega))) | ((with_reducible refine Below.alloc ?_ ?_ _); rotate_left; focus (first | omega | (simp; done) | (simp; omega)))))⟩
  | false =>
    go_wp2_with fail
    refine bodyPost_ret (v := .agg #[.int .i64 0, .int .i64 0, .string ⟨#[]⟩, .slice none 0 0]) (by simp [results, Try.results116, go_sem]) rfl ?_
    exact ⟨none, 0, [], by simp [hq], rfl, M.Mine.nil _ _ _ _ (by decide), by (repeat (first | with_reducible assumption | with_reducible exact Below.refl _ _ | with_reducible refine Below.drew ?_ | with_reducible refine belowDrewN ?_ _ | ((with_reducible refine Below.setCell ?_ ?_ _); rotate_left; focus (first | omega | (simp; done) | (simp; omega))) | ((with_reducible refine Below.alloc ?_ ?_ _); rotate_left; focus (first | omega | (simp; done) | (simp; omega)))))⟩
theorem sNumberDatum_calls (n : Int) (w : World) : Calls Try.prog 117 #[.int .i64 n] w (RetDat 52 (.mk (onlyN (numB n) 2) (onlyN (numB n) n) ⟨#[]⟩ []) w) := by
  have hnb : numB n = inB n (-999999999) 999999999 := rfl
  go_enter Try.func117, Try.ntmps117
  go_wp2_with fail
  refine (l1In_calls n (-999999999) 999999999 _).mono ?_
  rintro e w1 ⟨rfl, rfl⟩
  rw [← hnb]
  clear hnb
  cases hq : numB n with
  | true =>
    go_wp2_with fail
    refine bodyPost_ret (v := .agg #[.int .i64 2, .int .i64 n, .string ⟨#[]⟩, .slice none 0 0]) (by simp [results, Try.results117, go_sem]) rfl ?_
    exact ⟨none, 0, [], by simp [hq], rfl, M.Mine.nil _ _ _ _ (by decide), by (repeat (first | with_reducible assumption | with_reducible exact Below.refl _ _ | with_reducible refine Below.drew ?_ | with_reducible refine belowDrewN ?_ _ | ((with_reducible refine Below.setCell ?_ ?_ _); rotate_left; focus (first | omega | (simp; done) | (simp; omega))) | ((with_reducible refine Below.alloc ?_ ?_ _); rotate_left; focus (first | omega | (simp; done) | (simp; omega)))))⟩
  | false =>
    go_wp2_with fail
    refine bodyPost_ret (v := .agg #[.int .i64 0, .int .i64 0, .string ⟨#[]⟩, .slice none 0 0]) (by simp [results, Try.results117, go_sem]) rfl ?_
    exact ⟨none, 0, [], by simp [hq], rfl, M.Mine.nil _ _ _ _ (by decide), by (repeat (first | with_reducible assumption | with_reducible exact Below.refl _ _ | with_reducible refine Below.drew ?_ | with_reducible refine belowDrewN ?_ _ | ((with_reducible refine Below.setCell ?_ ?_ _); rotate_left; focus (first | omega | (simp; done) | (simp; omega))) | ((with_reducible refine Below.alloc ?_ ?_ _); rotate_left; focus (first | omega | (simp; done) | (simp; omega)))))⟩
end Go.Proofs.Ytghbnehocggnnaa

/-
  Walks: the law's comparison of data that are one. No condition.
-/
set_option linter.unusedVariables false
set_option linter.unusedSimpArgs false
set_option maxRecDepth 100000
namespace Go.Proofs.Ytghbnehocggnnaa
open Go.RowKit

/-- two slices of the same data: element k of both -/
theorem Dat.elem2 {w : World} {a : Option Addr} {cap : Nat} {e : TypeId} {ds : List Dat} {ms : List M} (h : (M.sl a cap 4 e ms).In w) (hi : Dat.IsL e ds ms)
    {a' : Option Addr} {cap' : Nat} {e' : TypeId} {ms' : List M} (h' : (M.sl a' cap' 4 e' ms').In w) (hi' : Dat.IsL e' ds ms') (k : Nat) (hk : k < ms.length) :
    ∃ b off b' off' k1 n1 s1 ds1 a1 cap1 ms1 a1' cap1' ms1', a = some ⟨b, off, none⟩ ∧ a' = some ⟨b', off', none⟩ ∧ ds[k]? = some (.mk k1 n1 s1 ds1) ∧ Dat.IsL e ds1 ms1 ∧ Dat.IsL e' ds1 ms1' ∧ (M.sl a1 cap1 4 e ms1).In w ∧ (M.sl a1' cap1' 4 e' ms1').In w ∧
      w.cell? ⟨b, off + k * 4, none⟩ = some (.int .i64 k1) ∧ w.cell? ⟨b, off + k * 4 + 1, none⟩ = some (.int .i64 n1) ∧
      w.cell? ⟨b, off + k * 4 + 2, none⟩ = some (.string s1) ∧ w.cell? ⟨b, off + k * 4 + 3, none⟩ = some (.slice a1 ms1.length cap1) ∧
      w.cell? ⟨b', off' + k * 4, none⟩ = some (.int .i64 k1) ∧ w.cell? ⟨b', off' + k * 4 + 1, none⟩ = some (.int .i64 n1) ∧
      w.cell? ⟨b', off' + k * 4 + 2, none⟩ = some (.string s1) ∧ w.cell? ⟨b', off' + k * 4 + 3, none⟩ = some (.slice a1' ms1'.length cap1') := by
  obtain ⟨b, off, k1, n1, s1, ds1, a1, cap1, ms1, ha, hd, hi1, hin1, c0, c1, c2, c3⟩ := Dat.elem h hi k hk
  obtain ⟨b', off', k1', n1', s1', ds1', a1', cap1', ms1', ha', hd', hi1', hin1', c0', c1', c2', c3'⟩ := Dat.elem h' hi' k (by rw [hi'.length, ← hi.length]; exact hk)
  rw [hd] at hd'
  simp only [Option.some.injEq, Dat.mk.injEq] at hd'
  obtain ⟨rfl, rfl, rfl, rfl⟩ := hd'
  exact ⟨b, off, b', off', k1, n1, s1, ds1, a1, cap1, ms1, a1', cap1', ms1', ha, ha', hd, hi1, hi1', hin1, hin1', c0, c1, c2, c3, c0', c1', c2', c3'⟩

end Go.Proofs.Ytghbnehocggnnaa

/-
  Walks: marking data. No condition.
-/
set_option linter.unusedVariables false
set_option linter.unusedSimpArgs false
set_option maxRecDepth 100000
namespace Go.Proofs.Ytghbnehocggnnaa
open Go.RowKit

mutual
/-- A datum whose places have been numbered from k on. -/
def Dat.mark (k : Int) : Dat → Dat
  | .mk _ _ _ es => .mk k (k + 1) (mtx (k + 2)) (Dat.markL (k + 3) es)
def Dat.markL (k : Int) : List Dat → List Dat
  | [] => []
  | d :: r => d.mark k :: Dat.markL (k + 3 * (d.count : Int)) r
end
theorem Dat.markL_append (xs ys : List Dat) : ∀ k, Dat.markL k (xs ++ ys) = Dat.markL k xs ++ Dat.markL (k + 3 * (Dat.countL xs : Int)) ys := by
  induction xs with
  | nil => intro k; simp [Dat.markL, Dat.countL]
  | cons x r ih =>
    intro k
    simp only [List.cons_append, Dat.markL, Dat.countL, ih]
    congr 3
    push_cast; omega
theorem Dat.markL_length (ds : List Dat) : ∀ k, (Dat.markL k ds).length = ds.length := by
  induction ds with
  | nil => intro k; rfl
  | cons x r ih => intro k; simp [Dat.markL, ih]
mutual
theorem Dat.count_mark : ∀ (d : Dat) (k : Int), (d.mark k).count = d.count
  | .mk _ _ _ es, k => by simp only [Dat.mark, Dat.count, Dat.countL_markL es]
theorem Dat.countL_markL : ∀ (ds : List Dat) (k : Int), Dat.countL (Dat.markL k ds) = Dat.countL ds
  | [], k => rfl
  | d :: r, k => by simp only [Dat.markL, Dat.countL, Dat.count_mark d, Dat.countL_markL r]
end
theorem Dat.markL_take {ds : List Dat} {j : Nat} {d : Dat} (h : ds[j]? = some d) (k : Int) : Dat.markL k (ds.take (j + 1)) = Dat.markL k (ds.take j) ++ [d.mark (k + 3 * (Dat.countL (ds.take j) : Int))] := by
  rw [take_snoc h, Dat.markL_append]; rfl
theorem Dat.mark_set {ds : List Dat} {j : Nat} {d : Dat} (h : ds[j]? = some d) (k : Int) :
    (Dat.markL k (ds.take j) ++ ds.drop j).set j (d.mark (k + 3 * (Dat.countL (ds.take j) : Int))) = Dat.markL k (ds.take (j + 1)) ++ ds.drop (j + 1) := by
  obtain ⟨hj, rfl⟩ := List.getElem?_eq_some_iff.1 h
  have hl : (Dat.markL k (ds.take j)).length = j := by rw [Dat.markL_length]; simp; omega
  rw [List.set_append, hl, if_neg (by omega), Nat.sub_self, List.drop_eq_getElem_cons hj, List.set_cons_zero, Dat.markL_take h k]
  simp
theorem Dat.mark_at {ds : List Dat} {j : Nat} (k : Int) (hj : j < ds.length) : (Dat.markL k (ds.take j) ++ ds.drop j)[j]? = ds[j]? := by
  have hl : (Dat.markL k (ds.take j)).length = j := by rw [Dat.markL_length]; simp; omega
  rw [List.getElem?_append_right (by omega), hl, Nat.sub_self, List.getElem?_drop]; simp

end Go.Proofs.Ytghbnehocggnnaa

/-
  Marking numbers and texts, in ranges. No condition.
-/
set_option linter.unusedVariables false
namespace Go.Proofs.Ytghbnehocggnnaa
open Go.RowKit
end Go.Proofs.Ytghbnehocggnnaa

/-
  Walks: marked data are held; marking and holding of a datum. No condition.
-/
set_option linter.unusedVariables false
set_option linter.unusedSimpArgs false
set_option maxRecDepth 100000
namespace Go.Proofs.Ytghbnehocggnnaa
open Go.RowKit

theorem Dat.markL_get {ds : List Dat} {j : Nat} {d : Dat} (h : ds[j]? = some d) (k : Int) : (Dat.markL k ds)[j]? = some (d.mark (k + 3 * (Dat.countL (ds.take j) : Int))) := by
  obtain ⟨hj, rfl⟩ := List.getElem?_eq_some_iff.1 h
  conv => lhs; rw [← List.take_append_drop j ds, List.drop_eq_getElem_cons hj, Dat.markL_append]
  have hl : (Dat.markL k (ds.take j)).length = j := by rw [Dat.markL_length]; simp; omega
  rw [List.getElem?_append_right (by omega), hl, Nat.sub_self]; rfl

end Go.Proofs.Ytghbnehocggnnaa

/-
  Walks: BooleanDatum. No condition.
-/
set_option linter.unusedVariables false
set_option linter.unusedSimpArgs false
set_option maxRecDepth 100000
namespace Go.Proofs.Ytghbnehocggnnaa
open Go.RowKit
def bnum (b : Bool) : Int := if b = true then 1 else 0
theorem sBooleanDatum_calls (b : Bool) (w : World) : Calls Try.prog 118 #[.bool b] w (RetDat 52 (.mk 3 (bnum b) ⟨#[]⟩ []) w) := by
  cases b with
  | true =>
    go_enter Try.func118, Try.ntmps118
    go_wp2_with fail
    refine bodyPost_ret (v := .agg #[.int .i64 3, .int .i64 1, .string ⟨#[]⟩, .slice none 0 0]) (by simp [results, Try.results118, go_sem]) rfl ?_
    exact ⟨none, 0, [], rfl, rfl, M.Mine.nil _ _ _ _ (by decide), by (repeat (first | with_reducible assumption | with_reducible exact Below.refl _ _ | with_reducible refine Below.drew ?_ | with_reducible refine belowDrewN ?_ _ | ((with_reducible refine Below.setCell ?_ ?_ _); rotate_left; focus (first | omega | (simp; done) | (simp; omega))) | ((with_reducible refine Below.alloc ?_ ?_ _); rotate_left; focus (first | omega | (simp; done) | (simp; omega)))))⟩
  | false =>
    go_enter Try.func118, Try.ntmps118
    go_wp2_with fail
    refine bodyPost_ret (v := .agg #[.int .i64 3, .int .i64 0, .string ⟨#[]⟩, .slice none 0 0]) (by simp [results, Try.results118, go_sem]) rfl ?_
    exact ⟨none, 0, [], rfl, rfl, M.Mine.nil _ _ _ _ (by decide), by (repeat (first | with_reducible assumption | with_reducible exact Below.refl _ _ | with_reducible refine Below.drew ?_ | with_reducible refine belowDrewN ?_ _ | ((with_reducible refine Below.setCell ?_ ?_ _); rotate_left; focus (first | omega | (simp; done) | (simp; omega))) | ((with_reducible refine Below.alloc ?_ ?_ _); rotate_left; focus (first | omega | (simp; done) | (simp; omega)))))⟩
end Go.Proofs.Ytghbnehocggnnaa

/-
  Walks: data drawn. No condition.
-/
set_option linter.unusedVariables false
set_option linter.unusedSimpArgs false
set_option maxRecDepth 100000
namespace Go.Proofs.Ytghbnehocggnnaa
open Go.RowKit

/-- a new datum's cells at block b -/
structure Zero (b : Nat) (w : World) : Prop where
  c0 : w.cell? ⟨b, 0, none⟩ = some (.int .i64 0)
  c1 : w.cell? ⟨b, 1, none⟩ = some (.int .i64 0)
  c2 : w.cell? ⟨b, 2, none⟩ = some (.string ⟨#[]⟩)
  c3 : w.cell? ⟨b, 3, none⟩ = some (.slice none 0 0)
  f0 : w.frozen? ⟨b, 0, none⟩ = false
  f1 : w.frozen? ⟨b, 1, none⟩ = false
  f2 : w.frozen? ⟨b, 2, none⟩ = false
  f3 : w.frozen? ⟨b, 3, none⟩ = false
theorem Zero.lt {b : Nat} {w : World} (h : Zero b w) : b < w.heap.size := World.block_lt_of_cell? w _ h.c0
theorem Zero.of {b : Nat} {w w' : World} (h : Zero b w) (hk : w'.heap[b]? = w.heap[b]?) : Zero b w' :=
  ⟨(World.cell?_of_block hk).trans h.c0, (World.cell?_of_block hk).trans h.c1, (World.cell?_of_block hk).trans h.c2, (World.cell?_of_block hk).trans h.c3,
   (World.frozen?_of_block hk).trans h.f0, (World.frozen?_of_block hk).trans h.f1, (World.frozen?_of_block hk).trans h.f2, (World.frozen?_of_block hk).trans h.f3⟩
theorem Zero.only {b lo hi : Nat} {w w' : World} (h : Zero b w) (k : OnlyIn lo hi w w') (hb : b < lo ∨ hi ≤ b) : Zero b w' := h.of (k.block b h.lt hb)
theorem Zero.below {b B : Nat} {w w' : World} (h : Zero b w) (k : Below B w w') (hb : b < B) : Zero b w' := h.of (k.block b hb)
theorem Zero.new (w : World) : Zero w.heap.size (w.alloc (.cells #[.int .i64 0, .int .i64 0, .string ⟨#[]⟩, .slice none 0 0] 52)) := by
  constructor <;> simp [go_sem]

def textsB : List Value → Bool
  | [] => true
  | .string s :: r => decide (s.size ≤ 100) && textsB r
  | _ => false
theorem Texts.of {cs : Array Value} (h : textsB cs.toList = true) : Texts cs := by
  unfold Texts
  generalize cs.toList = l at *
  induction l with
  | nil => simp
  | cons x r ih =>
    cases x with
    | string s =>
      simp only [textsB, Bool.and_eq_true, decide_eq_true_eq] at h
      intro v hv
      rcases List.mem_cons.1 hv with rfl | hv
      · exact ⟨s, rfl, h.1⟩
      · exact ih h.2 v hv
    | _ => simp [textsB] at h
def numsB : List Value → Bool
  | [] => true
  | .int .i64 s :: r => decide (-9223372036854775808 ≤ s ∧ s ≤ 9223372036854775807) && numsB r
  | _ => false
theorem Nums.of {cs : Array Value} (h : numsB cs.toList = true) : Nums cs := by
  unfold Nums
  generalize cs.toList = l at *
  induction l with
  | nil => simp
  | cons x r ih =>
    cases x with
    | int k s =>
      cases k with
      | i64 =>
        simp only [numsB, Bool.and_eq_true, decide_eq_true_eq] at h
        intro v hv
        rcases List.mem_cons.1 hv with rfl | hv
        · exact ⟨s, rfl, h.1⟩
        · exact ih h.2 v hv
      | _ => simp [numsB] at h
    | _ => simp [numsB] at h

mutual
/-- numbers of the machine, texts of at most 100 bytes -/
def Dat.wf1 : Dat → Prop
  | .mk k n s ds => I64 k ∧ I64 n ∧ s.size ≤ 100 ∧ Dat.wf1L ds
def Dat.wf1L : List Dat → Prop
  | [] => True
  | d :: ds => d.wf1 ∧ Dat.wf1L ds
end
mutual
theorem Dat.wf1.wf : ∀ {d : Dat}, d.wf1 → d.wf
  | .mk _ _ _ _, h => ⟨h.1, h.2.1, Nat.le_trans h.2.2.1 (by decide), Dat.wf1L.wfL h.2.2.2⟩
theorem Dat.wf1L.wfL : ∀ {ds : List Dat}, Dat.wf1L ds → Dat.wfL ds
  | [], _ => trivial
  | _ :: _, h => ⟨Dat.wf1.wf h.1, Dat.wf1L.wfL h.2⟩
end
theorem wf1L_snoc : ∀ {ds : List Dat} {d : Dat}, Dat.wf1L ds → d.wf1 → Dat.wf1L (ds ++ [d])
  | [], _, _, k => ⟨k, trivial⟩
  | _ :: _, _, h, k => ⟨h.1, wf1L_snoc h.2 k⟩
/-- a datum without items made -/
def RetLeaf (w : World) (e : Ending) (w' : World) : Prop :=
  ∃ (k n : Int) (s : ByteArray) (a : Option Addr) (cap : Nat) (ms : List M), e = .returned (.agg #[.int .i64 k, .int .i64 n, .string s, .slice a ms.length cap]) ∧ Dat.IsL 52 [] ms ∧ (M.sl a cap 4 52 ms).Mine w' w.heap.size ∧ (Dat.mk k n s []).wf1 ∧ Below w.heap.size w w'
theorem onlyS_size (b : Bool) (s : ByteArray) : (onlyS b s).size ≤ s.size := by unfold onlyS; split; exact Nat.le_refl _; exact Nat.zero_le _
theorem onlyN_I64 (b : Bool) {n : Int} (h : I64 n) : I64 (onlyN b n) := by unfold onlyN; split; exact h; (unfold I64; omega)
theorem leafSym (s : ByteArray) (w : World) (hs : s.size ≤ 100) : Calls Try.prog 116 #[.string s] w (RetLeaf w) := by
  refine (sSymbolDatum_calls s _ (by omega)).mono ?_
  rintro e w' ⟨a, cap, ms, rfl, hi, hm, hb⟩
  exact ⟨_, _, _, a, cap, ms, rfl, hi, hm, ⟨onlyN_I64 _ (by unfold I64; omega), by show I64 0; unfold I64; omega, Nat.le_trans (onlyS_size _ _) (by omega), trivial⟩, hb⟩
theorem leafStr (s : ByteArray) (w : World) (hs : s.size ≤ 100) : Calls Try.prog 119 #[.string s] w (RetLeaf w) := by
  refine (sStringDatum_calls s _ (by omega)).mono ?_
  rintro e w' ⟨a, cap, ms, rfl, hi, hm, hb⟩
  exact ⟨_, _, _, a, cap, ms, rfl, hi, hm, ⟨onlyN_I64 _ (by unfold I64; omega), by show I64 0; unfold I64; omega, Nat.le_trans (onlyS_size _ _) (by omega), trivial⟩, hb⟩
theorem leafNum (n : Int) (w : World) (hn : I64 n) : Calls Try.prog 117 #[.int .i64 n] w (RetLeaf w) := by
  refine (sNumberDatum_calls n _).mono ?_
  rintro e w' ⟨a, cap, ms, rfl, hi, hm, hb⟩
  exact ⟨_, _, _, a, cap, ms, rfl, hi, hm, ⟨onlyN_I64 _ (by unfold I64; omega), onlyN_I64 _ hn, by show (ByteArray.mk #[]).size ≤ _; decide, trivial⟩, hb⟩
theorem leafBool (b : Bool) (w : World) : Calls Try.prog 118 #[.bool b] w (RetLeaf w) := by
  refine (sBooleanDatum_calls b _).mono ?_
  rintro e w' ⟨a, cap, ms, rfl, hi, hm, hb⟩
  exact ⟨_, _, _, a, cap, ms, rfl, hi, hm, ⟨by show I64 3; unfold I64; omega, by show I64 (bnum b); unfold bnum I64; split <;> omega, by show (ByteArray.mk #[]).size ≤ _; decide, trivial⟩, hb⟩
/-- a datum drawn, of at most B nodes -/
def DrawnD (B : Nat) (pb : Nat) (a : Option Addr) (cap : Nat) (l : List Int) (w : World) (e : Ending) (w' : World) : Prop :=
  ∃ (k n : Int) (s : ByteArray) (ds : List Dat) (a' : Option Addr) (cap' : Nat) (ms : List M), e = .returned (.agg #[.int .i64 k, .int .i64 n, .string s, .slice a' ms.length cap']) ∧ Dat.IsL 52 ds ms ∧ (M.sl a' cap' 4 52 ms).Mine w' w.heap.size ∧ (Dat.mk k n s ds).wf1 ∧ 1 + Dat.countL ds ≤ B ∧ Cur pb a cap l w' ∧ OnlyIn pb (pb + 1) w w'
def nB : Nat → Nat
  | 0 => 1
  | d + 1 => 1 + 4 * nB d
theorem nB_pos (d : Nat) : 1 ≤ nB d := by cases d <;> simp [nB]
end Go.Proofs.Ytghbnehocggnnaa

/-
  append as one step of a region that draws its order. No condition.
-/
set_option linter.unusedVariables false
namespace Go.Proofs.Ytghbnehocggnnaa
open Go.RowKit

theorem step_row {P : Program} (w : World) {ops : Array Oper} {o : Oper} {act : Act} {K : Act → World → Prop} {Q : Exit → Act → World → Prop} {E : Prop} (hgd : o.guard = none) (s x : Operand) (t : TypeId)
    (ho : o.op = .call { callee := .builtin .append, args := #[s, x], argTypes := #[t, t] })
    (e : TypeId) (z : Value) (size bytes : Nat) (ht : P.underlying t = some (.slice e)) (hinfo : (P.info? e).map (fun i => (i.zero, i.size, i.bytes)) = some (some z, size, bytes))
    (hzs : z.cells.size = size) (hsz : 0 < size)
    (base : Nat) (a : Option Addr) (n cap : Nat) (xs : List Value) (hs : act.eval s = .slice a n cap) (hown : w.ownsRow base e size (.slice a n cap) n xs)
    (ao : Option Addr) (m c : Nat) (news : List Value) (hx : act.eval x = .slice ao m c) (hl : news.length = m * size) (hno : ao = none → m = 0 ∧ c = 0)
    (hnews : ∀ ad, ao = some ad → ∀ (j : Nat) u, news[j]? = some u → w.cell? (ad.add j) = some u) (h1 : ∀ u ∈ news, u.oneCell' = true)
    (h63 : n + m ≤ maxLen) (hbytes : (n + m) * bytes ≤ 140737488355328) (hbase : base ≤ w.heap.size)
    (h : ∀ a' cap' w', w'.ownsRow base e size (.slice a' (n + m) cap') (n + m) (xs ++ news) → w.grownBy w' (Value.ownBlock (.slice a n cap)) → (∀ b ∈ addrBlocks a', b ∈ addrBlocks a ∨ w.heap.size ≤ b) →
      K (act.put o.dst (.slice a' (n + m) cap')) w') : if Region.wanted o (yielded ops act.tmps) = true then Oper.wp P o act w K Q else E := by
  have hw : Region.wanted o (yielded ops act.tmps) = true := by simp [Region.wanted, hgd]
  rw [if_pos hw]
  obtain ⟨i, hi, hz, hsize, hby⟩ := info_parts hinfo
  obtain ⟨a', cap', w', hr, h2, h3, h4⟩ := run_append_row (P := P) w base t o.type e i z size bytes ht hi hz hsize hby hzs hsz a n cap xs hown ao m c news hl hno hnews h1 h63 hbytes hbase
  unfold Oper.wp execOp
  simp only [ho, resolve, invoke, builtin, Sem.run_bind, Sem.run_pure, Result.andThen_ok, List.map_toArray, List.map_cons, List.map_nil, hs, hx, hr]
  exact h a' cap' w' h2 h3 h4

theorem step_push {P : Program} {wr w1 : World} {ops : Array Oper} {o : Oper} {act : Act} {K : Act → World → Prop} {Q : Exit → Act → World → Prop} {E : Prop} (hgd : o.guard = none) (s x : Operand) (t : TypeId)
    (ho : o.op = .call { callee := .builtin .append, args := #[s, x], argTypes := #[t, t] })
    (e : TypeId) (z : Value) (size bytes : Nat) (ht : P.underlying t = some (.slice e)) (hinfo : (P.info? e).map (fun i => (i.zero, i.size, i.bytes)) = some (some z, size, bytes))
    (hzs : z.cells.size = size) (hsz : 0 < size)
    (lo : Nat) (a : Option Addr) (cap : Nat) (xs : List M) (hs : act.eval s = .slice a xs.length cap) (hrow : (M.sl a cap size e xs).Mine wr lo) (hlo : lo ≤ wr.heap.size) (hb : Below wr.heap.size wr w1)
    (cs : Array Value) (m : M) (hmc : m.cells = cs.toList) (hml : cs.size = size) (c : Nat) (hm : m.Mine w1 c) (hc : wr.heap.size ≤ c)
    (hx : act.eval x = .slice (some ⟨w1.heap.size, 0, none⟩) 1 1) (h63 : xs.length + 1 ≤ maxLen) (hbytes : (xs.length + 1) * bytes ≤ 140737488355328)
    (h : ∀ a' cap' w', (M.sl a' cap' size e (xs ++ [m])).Mine w' lo → Below lo w1 w' → w1.heap.size ≤ w'.heap.size → (∀ b, b < w1.heap.size → b ∉ addrBlocks a → w'.heap[b]? = w1.heap[b]?) →
      K (act.put o.dst (.slice a' (xs.length + 1) cap')) w') : if Region.wanted o (yielded ops act.tmps) = true then Oper.wp P o act (w1.alloc (.cells cs e)) K Q else E := by
  have hsz1 := hb.size
  have hrw : (M.sl a cap size e xs).Mine (w1.alloc (.cells cs e)) lo := by
    refine M.Mine.keep hrow fun b h1 h2 => ?_
    rw [heapNew _ _ _ (by omega), hb.block b h2]
  have hmw : m.Mine (w1.alloc (.cells cs e)) lo := by
    refine M.Mine.mono (M.Mine.keep hm fun b h1 h2 => ?_) (by omega)
    rw [heapNew _ _ _ h2]
  have hlen : m.cells.length = size := by rw [hmc]; simpa using hml
  refine step_row _ hgd s x t ho e z size bytes ht hinfo hzs hsz lo a xs.length cap (M.cellsL xs) hs hrw.own.1.1 _ 1 1 m.cells hx (by omega) (by simp) ?_ ?_ h63 hbytes (by simp; omega) ?_
  · intro ad had j u hu
    obtain rfl := Option.some.inj had
    rw [addr_add, Nat.zero_add, World.cell?_alloc_new]
    rw [hmc] at hu
    simpa using hu
  · exact M.Own.one m hmw.own
  · intro a' cap' w' hr hg ha
    have hY : M.MineL (w1.alloc (.cells cs e)) lo [m] := ⟨⟨hmw.own, trivial⟩, by simpa [M.blocksL] using hmw.dup⟩
    have hp := M.Mine.push (ys := [m]) hrw (by simpa [M.cellsL] using hr) hg ha hY (by simpa using hlen) (fun b hb' => by
      have h1 := hm.lt b (by simpa [M.blocksL] using hb')
      have h2 : ∀ b' ∈ (M.sl a cap size e xs).blocks, b' < wr.heap.size := fun b' hb' => (hrow.lt b' hb').2
      exact ⟨fun hn => by have := h2 b (by simp [M.blocks, hn]); omega, fun hn => by have := h2 b (by simp [M.blocks, hn]); omega⟩)
    have hkeep : ∀ b, b < w1.heap.size → b ∉ addrBlocks a → w'.heap[b]? = w1.heap[b]? := fun b hb1 hn => by
      rw [hg.block b (by simp; omega) (fun he => hn (addrBlocks_own.1 he.symm)), heapNew _ _ _ hb1]
    have hgs := hg.size
    refine h a' cap' w' hp ?_ ?_ hkeep
    · have := grownBy_below (lo := lo) hg (B := lo) (by simp; omega) fun b hb => (Mine.addr_lo hrow b hb).1
      exact ⟨this.os, this.tape, this.output, by simp at hgs; omega, fun k hk => by rw [this.block k hk, heapNew _ _ _ (by omega)]⟩
    · simp at hgs; omega
end Go.Proofs.Ytghbnehocggnnaa

/-
  append of one element after a call that changed other cells. No condition.
-/
set_option linter.unusedVariables false
namespace Go.Proofs.Ytghbnehocggnnaa
open Go.RowKit

theorem step_push3 {P : Program} {wr w1 : World} {ops : Array Oper} {o : Oper} {act : Act} {K : Act → World → Prop} {Q : Exit → Act → World → Prop} {E : Prop} (hgd : o.guard = none) (s x : Operand) (t : TypeId)
    (ho : o.op = .call { callee := .builtin .append, args := #[s, x], argTypes := #[t, t] })
    (e : TypeId) (z : Value) (size bytes : Nat) (ht : P.underlying t = some (.slice e)) (hinfo : (P.info? e).map (fun i => (i.zero, i.size, i.bytes)) = some (some z, size, bytes))
    (hzs : z.cells.size = size) (hsz : 0 < size)
    (lo : Nat) (a : Option Addr) (cap : Nat) (xs : List M) (hs : act.eval s = .slice a xs.length cap) (hrow : (M.sl a cap size e xs).Mine wr lo) (hlo : lo ≤ wr.heap.size) (hsz1 : wr.heap.size ≤ w1.heap.size) (hk : ∀ b, lo ≤ b → b < wr.heap.size → w1.heap[b]? = wr.heap[b]?)
    (cs : Array Value) (m : M) (hmc : m.cells = cs.toList) (hml : cs.size = size) (c : Nat) (hm : m.Mine w1 c) (hc : wr.heap.size ≤ c)
    (hx : act.eval x = .slice (some ⟨w1.heap.size, 0, none⟩) 1 1) (h63 : xs.length + 1 ≤ maxLen) (hbytes : (xs.length + 1) * bytes ≤ 140737488355328)
    (h : ∀ a' cap' w', (M.sl a' cap' size e (xs ++ [m])).Mine w' lo → Below lo w1 w' → w1.heap.size ≤ w'.heap.size → (∀ b, b < w1.heap.size → b ∉ addrBlocks a → w'.heap[b]? = w1.heap[b]?) →
      K (act.put o.dst (.slice a' (xs.length + 1) cap')) w') : if Region.wanted o (yielded ops act.tmps) = true then Oper.wp P o act (w1.alloc (.cells cs e)) K Q else E := by
  have hrw : (M.sl a cap size e xs).Mine (w1.alloc (.cells cs e)) lo := by
    refine M.Mine.keep hrow fun b h1 h2 => ?_
    rw [heapNew _ _ _ (by omega), hk b h1 h2]
  have hmw : m.Mine (w1.alloc (.cells cs e)) lo := by
    refine M.Mine.mono (M.Mine.keep hm fun b h1 h2 => ?_) (by omega)
    rw [heapNew _ _ _ h2]
  have hlen : m.cells.length = size := by rw [hmc]; simpa using hml
  refine step_row _ hgd s x t ho e z size bytes ht hinfo hzs hsz lo a xs.length cap (M.cellsL xs) hs hrw.own.1.1 _ 1 1 m.cells hx (by omega) (by simp) ?_ ?_ h63 hbytes (by simp; omega) ?_
  · intro ad had j u hu
    obtain rfl := Option.some.inj had
    rw [addr_add, Nat.zero_add, World.cell?_alloc_new]
    rw [hmc] at hu
    simpa using hu
  · exact M.Own.one m hmw.own
  · intro a' cap' w' hr hg ha
    have hY : M.MineL (w1.alloc (.cells cs e)) lo [m] := ⟨⟨hmw.own, trivial⟩, by simpa [M.blocksL] using hmw.dup⟩
    have hp := M.Mine.push (ys := [m]) hrw (by simpa [M.cellsL] using hr) hg ha hY (by simpa using hlen) (fun b hb' => by
      have h1 := hm.lt b (by simpa [M.blocksL] using hb')
      have h2 : ∀ b' ∈ (M.sl a cap size e xs).blocks, b' < wr.heap.size := fun b' hb' => (hrow.lt b' hb').2
      exact ⟨fun hn => by have := h2 b (by simp [M.blocks, hn]); omega, fun hn => by have := h2 b (by simp [M.blocks, hn]); omega⟩)
    have hkeep : ∀ b, b < w1.heap.size → b ∉ addrBlocks a → w'.heap[b]? = w1.heap[b]? := fun b hb1 hn => by
      rw [hg.block b (by simp; omega) (fun he => hn (addrBlocks_own.1 he.symm)), heapNew _ _ _ hb1]
    have hgs := hg.size
    refine h a' cap' w' hp ?_ ?_ hkeep
    · have := grownBy_below (lo := lo) hg (B := lo) (by simp; omega) fun b hb => (Mine.addr_lo hrow b hb).1
      exact ⟨this.os, this.tape, this.output, by simp at hgs; omega, fun k hk => by rw [this.block k hk, heapNew _ _ _ (by omega)]⟩
    · simp at hgs; omega
end Go.Proofs.Ytghbnehocggnnaa

/-
  Walks: copies of data, ListDatum. No condition.
-/
set_option linter.unusedVariables false
set_option linter.unusedSimpArgs false
set_option maxRecDepth 100000
namespace Go.Proofs.Ytghbnehocggnnaa
open Go.RowKit

end Go.Proofs.Ytghbnehocggnnaa

/-
  Walks: the reference's copy of data, ListDatum. No condition.
-/
set_option linter.unusedVariables false
set_option linter.unusedSimpArgs false
set_option maxRecDepth 100000
namespace Go.Proofs.Ytghbnehocggnnaa
open Go.RowKit

end Go.Proofs.Ytghbnehocggnnaa

/-
  Walks: data drawn. No condition. (printed by wip/tools/mkq6.py)
-/
set_option linter.unusedVariables false
set_option linter.unusedSimpArgs false
set_option maxRecDepth 100000
namespace Go.Proofs.Ytghbnehocggnnaa
open Go.RowKit

def DrD (d : Nat) : Prop := ∀ (pb : Nat) (a : Option Addr) (cap : Nat) (l : List Int) (w : World), Cur pb a cap l w → Calls Try.prog 101 #[.pointer (some ⟨pb, 0, none⟩), .int .i64 d] w (DrawnD (nB d) pb a cap l w)
set_option maxHeartbeats 4000000 in
theorem l1Draw_leaf (d : Nat) (hd1 : (d : Int) ≤ 1) : DrD d := by
  intro pb a cap l w hc
  have hpl := hc.lt
  have HC := Lib.hid hc; clear hc
  go_enter Try.func101, Try.ntmps101
  go_wp2_with fail
  refine (l01Below_calls 9 pb a cap l _ (HC.out.below (by (repeat (first | with_reducible assumption | with_reducible exact Below.refl _ _ | with_reducible refine Below.drew ?_ | with_reducible refine belowDrewN ?_ _ | ((with_reducible refine Below.setCell ?_ ?_ _); rotate_left; focus (first | omega | (simp; done) | (simp; omega))) | ((with_reducible refine Below.alloc ?_ ?_ _); rotate_left; focus (first | omega | (simp; done) | (simp; omega))))))) (by decide) (by decide)).mono ?_
  rintro e w1 ⟨x, rfl, hx0, hx1, hc1, ho1⟩
  have hz1 := ho1.size
  simp only [World.size_alloc] at hz1
  have hzz := (Zero.new w).only ho1 (.inr (by omega))
  have hoo : OnlyIn pb (pb + 1) w w1 := ((OnlyIn.refl _ _ _).new _).trans ho1
  have HZ1 := Lib.hid hzz; clear hzz
  have HC1 := Lib.hid hc1; clear hc1; have HO1 := Lib.hid ho1; clear ho1; have HOO := Lib.hid hoo; clear hoo
  have hx : x = 0 ∨ x = 1 ∨ x = 2 ∨ x = 3 ∨ x = 4 ∨ x = 5 ∨ x = 6 ∨ x = 7 ∨ x = 8 := by omega
  clear hx0 hx1
  rcases hx with rfl | rfl | rfl | rfl | rfl | rfl | rfl | rfl | rfl
  · go_wp2_with fail
    refine (l01Pick_lit _ _ pb a cap l _ HC1.out ?size (by decide) (by decide) ?texts).mono ?_
    case size => rfl
    case texts => exact Texts.of (by rfl)
    rintro e w2 ⟨x2, rfl, hx2, hc2, ho2⟩
    have hz2 := ho2.size
    have HZ2 := Lib.hid (HZ1.out.only ho2 (.inr (by omega)))
    have HC2 := Lib.hid hc2; clear hc2; have HO2 := Lib.hid ho2; clear ho2
    go_wp2_with fail
    refine (leafSym _ _ hx2).mono ?_
    rintro e w3 ⟨k3, n3, s3, a3, c3, m3, rfl, hi3, hm3, hw3, hb3⟩
    obtain ⟨r0, r1, r2, r3, g0, g1, g2, g3⟩ := HZ2.out.below hb3 (by omega)
    have hc3 := HC2.out.below hb3
    have ho3 := (HOO.out.trans HO2.out).thenBelow (hb3.mono (by omega))
    have HI3 := Lib.hid hi3; clear hi3; have HW3 := Lib.hid hw3; clear hw3; have HM3 := Lib.hid hm3; clear hm3; have HC3 := Lib.hid hc3; clear hc3; have HO3 := Lib.hid ho3; clear ho3; have HB3 := Lib.hid hb3; clear hb3
    go_wp2_with fail
    refine bodyPost_ret (v := .agg #[.int .i64 k3, .int .i64 n3, .string s3, .slice a3 m3.length c3]) (by simp [results, Try.results101, go_sem, r0, r1, r2, r3]) rfl ?_
    refine ⟨k3, n3, s3, [], a3, c3, m3, rfl, HI3.out, ?_, HW3.out, by simp [Dat.countL]; exact nB_pos _, ?_, ?_⟩
    · (exact M.Mine.mono (M.Mine.keep HM3.out (fun b hb1 hb2 => by (try simp at hb1); simp (disch := (first | omega | (simp; omega))) only [heapSet, heapNew, heapDrew, heapDrewN])) (by first | omega | (simp; done) | (simp; omega)))
    · exact HC3.out.belowB (B := w.heap.size) (by (repeat (first | with_reducible assumption | with_reducible exact Below.refl _ _ | with_reducible refine Below.drew ?_ | with_reducible refine belowDrewN ?_ _ | ((with_reducible refine Below.setCell ?_ ?_ _); rotate_left; focus (first | omega | (simp; done) | (simp; omega))) | ((with_reducible refine Below.alloc ?_ ?_ _); rotate_left; focus (first | omega | (simp; done) | (simp; omega)))))) hpl
    · exact HO3.out.thenBelow (by (repeat (first | with_reducible assumption | with_reducible exact Below.refl _ _ | with_reducible refine Below.drew ?_ | with_reducible refine belowDrewN ?_ _ | ((with_reducible refine Below.setCell ?_ ?_ _); rotate_left; focus (first | omega | (simp; done) | (simp; omega))) | ((with_reducible refine Below.alloc ?_ ?_ _); rotate_left; focus (first | omega | (simp; done) | (simp; omega))))))
  · go_wp2_with fail
    refine (l01Pick_lit _ _ pb a cap l _ HC1.out ?size (by decide) (by decide) ?texts).mono ?_
    case size => rfl
    case texts => exact Texts.of (by rfl)
    rintro e w2 ⟨x2, rfl, hx2, hc2, ho2⟩
    have hz2 := ho2.size
    have HZ2 := Lib.hid (HZ1.out.only ho2 (.inr (by omega)))
    have HC2 := Lib.hid hc2; clear hc2; have HO2 := Lib.hid ho2; clear ho2
    go_wp2_with fail
    refine (leafSym _ _ hx2).mono ?_
    rintro e w3 ⟨k3, n3, s3, a3, c3, m3, rfl, hi3, hm3, hw3, hb3⟩
    obtain ⟨r0, r1, r2, r3, g0, g1, g2, g3⟩ := HZ2.out.below hb3 (by omega)
    have hc3 := HC2.out.below hb3
    have ho3 := (HOO.out.trans HO2.out).thenBelow (hb3.mono (by omega))
    have HI3 := Lib.hid hi3; clear hi3; have HW3 := Lib.hid hw3; clear hw3; have HM3 := Lib.hid hm3; clear hm3; have HC3 := Lib.hid hc3; clear hc3; have HO3 := Lib.hid ho3; clear ho3; have HB3 := Lib.hid hb3; clear hb3
    go_wp2_with fail
    refine bodyPost_ret (v := .agg #[.int .i64 k3, .int .i64 n3, .string s3, .slice a3 m3.length c3]) (by simp [results, Try.results101, go_sem, r0, r1, r2, r3]) rfl ?_
    refine ⟨k3, n3, s3, [], a3, c3, m3, rfl, HI3.out, ?_, HW3.out, by simp [Dat.countL]; exact nB_pos _, ?_, ?_⟩
    · (exact M.Mine.mono (M.Mine.keep HM3.out (fun b hb1 hb2 => by (try simp at hb1); simp (disch := (first | omega | (simp; omega))) only [heapSet, heapNew, heapDrew, heapDrewN])) (by first | omega | (simp; done) | (simp; omega)))
    · exact HC3.out.belowB (B := w.heap.size) (by (repeat (first | with_reducible assumption | with_reducible exact Below.refl _ _ | with_reducible refine Below.drew ?_ | with_reducible refine belowDrewN ?_ _ | ((with_reducible refine Below.setCell ?_ ?_ _); rotate_left; focus (first | omega | (simp; done) | (simp; omega))) | ((with_reducible refine Below.alloc ?_ ?_ _); rotate_left; focus (first | omega | (simp; done) | (simp; omega)))))) hpl
    · exact HO3.out.thenBelow (by (repeat (first | with_reducible assumption | with_reducible exact Below.refl _ _ | with_reducible refine Below.drew ?_ | with_reducible refine belowDrewN ?_ _ | ((with_reducible refine Below.setCell ?_ ?_ _); rotate_left; focus (first | omega | (simp; done) | (simp; omega))) | ((with_reducible refine Below.alloc ?_ ?_ _); rotate_left; focus (first | omega | (simp; done) | (simp; omega))))))
  · go_wp2_with fail
    refine (l01Int_lit _ _ pb a cap l _ HC1.out ?size (by decide) (by decide) ?texts).mono ?_
    case size => rfl
    case texts => exact Nums.of (by rfl)
    rintro e w2 ⟨x2, rfl, hx2, hc2, ho2⟩
    have hz2 := ho2.size
    have HZ2 := Lib.hid (HZ1.out.only ho2 (.inr (by omega)))
    have HC2 := Lib.hid hc2; clear hc2; have HO2 := Lib.hid ho2; clear ho2
    go_wp2_with fail
    refine (leafNum _ _ hx2).mono ?_
    rintro e w3 ⟨k3, n3, s3, a3, c3, m3, rfl, hi3, hm3, hw3, hb3⟩
    obtain ⟨r0, r1, r2, r3, g0, g1, g2, g3⟩ := HZ2.out.below hb3 (by omega)
    have hc3 := HC2.out.below hb3
    have ho3 := (HOO.out.trans HO2.out).thenBelow (hb3.mono (by omega))
    have HI3 := Lib.hid hi3; clear hi3; have HW3 := Lib.hid hw3; clear hw3; have HM3 := Lib.hid hm3; clear hm3; have HC3 := Lib.hid hc3; clear hc3; have HO3 := Lib.hid ho3; clear ho3; have HB3 := Lib.hid hb3; clear hb3
    go_wp2_with fail
    refine bodyPost_ret (v := .agg #[.int .i64 k3, .int .i64 n3, .string s3, .slice a3 m3.length c3]) (by simp [results, Try.results101, go_sem, r0, r1, r2, r3]) rfl ?_
    refine ⟨k3, n3, s3, [], a3, c3, m3, rfl, HI3.out, ?_, HW3.out, by simp [Dat.countL]; exact nB_pos _, ?_, ?_⟩
    · (exact M.Mine.mono (M.Mine.keep HM3.out (fun b hb1 hb2 => by (try simp at hb1); simp (disch := (first | omega | (simp; omega))) only [heapSet, heapNew, heapDrew, heapDrewN])) (by first | omega | (simp; done) | (simp; omega)))
    · exact HC3.out.belowB (B := w.heap.size) (by (repeat (first | with_reducible assumption | with_reducible exact Below.refl _ _ | with_reducible refine Below.drew ?_ | with_reducible refine belowDrewN ?_ _ | ((with_reducible refine Below.setCell ?_ ?_ _); rotate_left; focus (first | omega | (simp; done) | (simp; omega))) | ((with_reducible refine Below.alloc ?_ ?_ _); rotate_left; focus (first | omega | (simp; done) | (simp; omega)))))) hpl
    · exact HO3.out.thenBelow (by (repeat (first | with_reducible assumption | with_reducible exact Below.refl _ _ | with_reducible refine Below.drew ?_ | with_reducible refine belowDrewN ?_ _ | ((with_reducible refine Below.setCell ?_ ?_ _); rotate_left; focus (first | omega | (simp; done) | (simp; omega))) | ((with_reducible refine Below.alloc ?_ ?_ _); rotate_left; focus (first | omega | (simp; done) | (simp; omega))))))
  · go_wp2_with fail
    refine (l01Int_lit _ _ pb a cap l _ HC1.out ?size (by decide) (by decide) ?texts).mono ?_
    case size => rfl
    case texts => exact Nums.of (by rfl)
    rintro e w2 ⟨x2, rfl, hx2, hc2, ho2⟩
    have hz2 := ho2.size
    have HZ2 := Lib.hid (HZ1.out.only ho2 (.inr (by omega)))
    have HC2 := Lib.hid hc2; clear hc2; have HO2 := Lib.hid ho2; clear ho2
    go_wp2_with fail
    refine (leafNum _ _ hx2).mono ?_
    rintro e w3 ⟨k3, n3, s3, a3, c3, m3, rfl, hi3, hm3, hw3, hb3⟩
    obtain ⟨r0, r1, r2, r3, g0, g1, g2, g3⟩ := HZ2.out.below hb3 (by omega)
    have hc3 := HC2.out.below hb3
    have ho3 := (HOO.out.trans HO2.out).thenBelow (hb3.mono (by omega))
    have HI3 := Lib.hid hi3; clear hi3; have HW3 := Lib.hid hw3; clear hw3; have HM3 := Lib.hid hm3; clear hm3; have HC3 := Lib.hid hc3; clear hc3; have HO3 := Lib.hid ho3; clear ho3; have HB3 := Lib.hid hb3; clear hb3
    go_wp2_with fail
    refine bodyPost_ret (v := .agg #[.int .i64 k3, .int .i64 n3, .string s3, .slice a3 m3.length c3]) (by simp [results, Try.results101, go_sem, r0, r1, r2, r3]) rfl ?_
    refine ⟨k3, n3, s3, [], a3, c3, m3, rfl, HI3.out, ?_, HW3.out, by simp [Dat.countL]; exact nB_pos _, ?_, ?_⟩
    · (exact M.Mine.mono (M.Mine.keep HM3.out (fun b hb1 hb2 => by (try simp at hb1); simp (disch := (first | omega | (simp; omega))) only [heapSet, heapNew, heapDrew, heapDrewN])) (by first | omega | (simp; done) | (simp; omega)))
    · exact HC3.out.belowB (B := w.heap.size) (by (repeat (first | with_reducible assumption | with_reducible exact Below.refl _ _ | with_reducible refine Below.drew ?_ | with_reducible refine belowDrewN ?_ _ | ((with_reducible refine Below.setCell ?_ ?_ _); rotate_left; focus (first | omega | (simp; done) | (simp; omega))) | ((with_reducible refine Below.alloc ?_ ?_ _); rotate_left; focus (first | omega | (simp; done) | (simp; omega)))))) hpl
    · exact HO3.out.thenBelow (by (repeat (first | with_reducible assumption | with_reducible exact Below.refl _ _ | with_reducible refine Below.drew ?_ | with_reducible refine belowDrewN ?_ _ | ((with_reducible refine Below.setCell ?_ ?_ _); rotate_left; focus (first | omega | (simp; done) | (simp; omega))) | ((with_reducible refine Below.alloc ?_ ?_ _); rotate_left; focus (first | omega | (simp; done) | (simp; omega))))))
  · go_wp2_with fail
    refine (l01Once_calls _ pb a cap l _ HC1.out (by decide) (by decide)).mono ?_
    rintro e w2 ⟨x2, rfl, hc2, ho2⟩
    have hz2 := ho2.size
    have HZ2 := Lib.hid (HZ1.out.only ho2 (.inr (by omega)))
    have HC2 := Lib.hid hc2; clear hc2; have HO2 := Lib.hid ho2; clear ho2
    go_wp2_with fail
    refine (leafBool _ _).mono ?_
    rintro e w3 ⟨k3, n3, s3, a3, c3, m3, rfl, hi3, hm3, hw3, hb3⟩
    obtain ⟨r0, r1, r2, r3, g0, g1, g2, g3⟩ := HZ2.out.below hb3 (by omega)
    have hc3 := HC2.out.below hb3
    have ho3 := (HOO.out.trans HO2.out).thenBelow (hb3.mono (by omega))
    have HI3 := Lib.hid hi3; clear hi3; have HW3 := Lib.hid hw3; clear hw3; have HM3 := Lib.hid hm3; clear hm3; have HC3 := Lib.hid hc3; clear hc3; have HO3 := Lib.hid ho3; clear ho3; have HB3 := Lib.hid hb3; clear hb3
    go_wp2_with fail
    refine bodyPost_ret (v := .agg #[.int .i64 k3, .int .i64 n3, .string s3, .slice a3 m3.length c3]) (by simp [results, Try.results101, go_sem, r0, r1, r2, r3]) rfl ?_
    refine ⟨k3, n3, s3, [], a3, c3, m3, rfl, HI3.out, ?_, HW3.out, by simp [Dat.countL]; exact nB_pos _, ?_, ?_⟩
    · (exact M.Mine.mono (M.Mine.keep HM3.out (fun b hb1 hb2 => by (try simp at hb1); simp (disch := (first | omega | (simp; omega))) only [heapSet, heapNew, heapDrew, heapDrewN])) (by first | omega | (simp; done) | (simp; omega)))
    · exact HC3.out.belowB (B := w.heap.size) (by (repeat (first | with_reducible assumption | with_reducible exact Below.refl _ _ | with_reducible refine Below.drew ?_ | with_reducible refine belowDrewN ?_ _ | ((with_reducible refine Below.setCell ?_ ?_ _); rotate_left; focus (first | omega | (simp; done) | (simp; omega))) | ((with_reducible refine Below.alloc ?_ ?_ _); rotate_left; focus (first | omega | (simp; done) | (simp; omega)))))) hpl
    · exact HO3.out.thenBelow (by (repeat (first | with_reducible assumption | with_reducible exact Below.refl _ _ | with_reducible refine Below.drew ?_ | with_reducible refine belowDrewN ?_ _ | ((with_reducible refine Below.setCell ?_ ?_ _); rotate_left; focus (first | omega | (simp; done) | (simp; omega))) | ((with_reducible refine Below.alloc ?_ ?_ _); rotate_left; focus (first | omega | (simp; done) | (simp; omega))))))
  · go_wp2_with fail
    refine (l01Pick_lit _ _ pb a cap l _ HC1.out ?size (by decide) (by decide) ?texts).mono ?_
    case size => rfl
    case texts => exact Texts.of (by rfl)
    rintro e w2 ⟨x2, rfl, hx2, hc2, ho2⟩
    have hz2 := ho2.size
    have HZ2 := Lib.hid (HZ1.out.only ho2 (.inr (by omega)))
    have HC2 := Lib.hid hc2; clear hc2; have HO2 := Lib.hid ho2; clear ho2
    go_wp2_with fail
    refine (leafStr _ _ hx2).mono ?_
    rintro e w3 ⟨k3, n3, s3, a3, c3, m3, rfl, hi3, hm3, hw3, hb3⟩
    obtain ⟨r0, r1, r2, r3, g0, g1, g2, g3⟩ := HZ2.out.below hb3 (by omega)
    have hc3 := HC2.out.below hb3
    have ho3 := (HOO.out.trans HO2.out).thenBelow (hb3.mono (by omega))
    have HI3 := Lib.hid hi3; clear hi3; have HW3 := Lib.hid hw3; clear hw3; have HM3 := Lib.hid hm3; clear hm3; have HC3 := Lib.hid hc3; clear hc3; have HO3 := Lib.hid ho3; clear ho3; have HB3 := Lib.hid hb3; clear hb3
    go_wp2_with fail
    refine bodyPost_ret (v := .agg #[.int .i64 k3, .int .i64 n3, .string s3, .slice a3 m3.length c3]) (by simp [results, Try.results101, go_sem, r0, r1, r2, r3]) rfl ?_
    refine ⟨k3, n3, s3, [], a3, c3, m3, rfl, HI3.out, ?_, HW3.out, by simp [Dat.countL]; exact nB_pos _, ?_, ?_⟩
    · (exact M.Mine.mono (M.Mine.keep HM3.out (fun b hb1 hb2 => by (try simp at hb1); simp (disch := (first | omega | (simp; omega))) only [heapSet, heapNew, heapDrew, heapDrewN])) (by first | omega | (simp; done) | (simp; omega)))
    · exact HC3.out.belowB (B := w.heap.size) (by (repeat (first | with_reducible assumption | with_reducible exact Below.refl _ _ | with_reducible refine Below.drew ?_ | with_reducible refine belowDrewN ?_ _ | ((with_reducible refine Below.setCell ?_ ?_ _); rotate_left; focus (first | omega | (simp; done) | (simp; omega))) | ((with_reducible refine Below.alloc ?_ ?_ _); rotate_left; focus (first | omega | (simp; done) | (simp; omega)))))) hpl
    · exact HO3.out.thenBelow (by (repeat (first | with_reducible assumption | with_reducible exact Below.refl _ _ | with_reducible refine Below.drew ?_ | with_reducible refine belowDrewN ?_ _ | ((with_reducible refine Below.setCell ?_ ?_ _); rotate_left; focus (first | omega | (simp; done) | (simp; omega))) | ((with_reducible refine Below.alloc ?_ ?_ _); rotate_left; focus (first | omega | (simp; done) | (simp; omega))))))
  · go_wp2_with fail
    refine (l01Pick_lit _ _ pb a cap l _ HC1.out ?size (by decide) (by decide) ?texts).mono ?_
    case size => rfl
    case texts => exact Texts.of (by rfl)
    rintro e w2 ⟨x2, rfl, hx2, hc2, ho2⟩
    have hz2 := ho2.size
    have HZ2 := Lib.hid (HZ1.out.only ho2 (.inr (by omega)))
    have HC2 := Lib.hid hc2; clear hc2; have HO2 := Lib.hid ho2; clear ho2
    go_wp2_with fail
    refine (leafSym _ _ hx2).mono ?_
    rintro e w3 ⟨k3, n3, s3, a3, c3, m3, rfl, hi3, hm3, hw3, hb3⟩
    obtain ⟨r0, r1, r2, r3, g0, g1, g2, g3⟩ := HZ2.out.below hb3 (by omega)
    have hc3 := HC2.out.below hb3
    have ho3 := (HOO.out.trans HO2.out).thenBelow (hb3.mono (by omega))
    have HI3 := Lib.hid hi3; clear hi3; have HW3 := Lib.hid hw3; clear hw3; have HM3 := Lib.hid hm3; clear hm3; have HC3 := Lib.hid hc3; clear hc3; have HO3 := Lib.hid ho3; clear ho3; have HB3 := Lib.hid hb3; clear hb3
    go_wp2_with fail
    refine bodyPost_ret (v := .agg #[.int .i64 k3, .int .i64 n3, .string s3, .slice a3 m3.length c3]) (by simp [results, Try.results101, go_sem, r0, r1, r2, r3]) rfl ?_
    refine ⟨k3, n3, s3, [], a3, c3, m3, rfl, HI3.out, ?_, HW3.out, by simp [Dat.countL]; exact nB_pos _, ?_, ?_⟩
    · (exact M.Mine.mono (M.Mine.keep HM3.out (fun b hb1 hb2 => by (try simp at hb1); simp (disch := (first | omega | (simp; omega))) only [heapSet, heapNew, heapDrew, heapDrewN])) (by first | omega | (simp; done) | (simp; omega)))
    · exact HC3.out.belowB (B := w.heap.size) (by (repeat (first | with_reducible assumption | with_reducible exact Below.refl _ _ | with_reducible refine Below.drew ?_ | with_reducible refine belowDrewN ?_ _ | ((with_reducible refine Below.setCell ?_ ?_ _); rotate_left; focus (first | omega | (simp; done) | (simp; omega))) | ((with_reducible refine Below.alloc ?_ ?_ _); rotate_left; focus (first | omega | (simp; done) | (simp; omega)))))) hpl
    · exact HO3.out.thenBelow (by (repeat (first | with_reducible assumption | with_reducible exact Below.refl _ _ | with_reducible refine Below.drew ?_ | with_reducible refine belowDrewN ?_ _ | ((with_reducible refine Below.setCell ?_ ?_ _); rotate_left; focus (first | omega | (simp; done) | (simp; omega))) | ((with_reducible refine Below.alloc ?_ ?_ _); rotate_left; focus (first | omega | (simp; done) | (simp; omega))))))
  · go_wp2_with fail
    refine (l01Int_lit _ _ pb a cap l _ HC1.out ?size (by decide) (by decide) ?texts).mono ?_
    case size => rfl
    case texts => exact Nums.of (by rfl)
    rintro e w2 ⟨x2, rfl, hx2, hc2, ho2⟩
    have hz2 := ho2.size
    have HZ2 := Lib.hid (HZ1.out.only ho2 (.inr (by omega)))
    have HC2 := Lib.hid hc2; clear hc2; have HO2 := Lib.hid ho2; clear ho2
    go_wp2_with fail
    refine (leafNum _ _ hx2).mono ?_
    rintro e w3 ⟨k3, n3, s3, a3, c3, m3, rfl, hi3, hm3, hw3, hb3⟩
    obtain ⟨r0, r1, r2, r3, g0, g1, g2, g3⟩ := HZ2.out.below hb3 (by omega)
    have hc3 := HC2.out.below hb3
    have ho3 := (HOO.out.trans HO2.out).thenBelow (hb3.mono (by omega))
    have HI3 := Lib.hid hi3; clear hi3; have HW3 := Lib.hid hw3; clear hw3; have HM3 := Lib.hid hm3; clear hm3; have HC3 := Lib.hid hc3; clear hc3; have HO3 := Lib.hid ho3; clear ho3; have HB3 := Lib.hid hb3; clear hb3
    go_wp2_with fail
    refine bodyPost_ret (v := .agg #[.int .i64 k3, .int .i64 n3, .string s3, .slice a3 m3.length c3]) (by simp [results, Try.results101, go_sem, r0, r1, r2, r3]) rfl ?_
    refine ⟨k3, n3, s3, [], a3, c3, m3, rfl, HI3.out, ?_, HW3.out, by simp [Dat.countL]; exact nB_pos _, ?_, ?_⟩
    · (exact M.Mine.mono (M.Mine.keep HM3.out (fun b hb1 hb2 => by (try simp at hb1); simp (disch := (first | omega | (simp; omega))) only [heapSet, heapNew, heapDrew, heapDrewN])) (by first | omega | (simp; done) | (simp; omega)))
    · exact HC3.out.belowB (B := w.heap.size) (by (repeat (first | with_reducible assumption | with_reducible exact Below.refl _ _ | with_reducible refine Below.drew ?_ | with_reducible refine belowDrewN ?_ _ | ((with_reducible refine Below.setCell ?_ ?_ _); rotate_left; focus (first | omega | (simp; done) | (simp; omega))) | ((with_reducible refine Below.alloc ?_ ?_ _); rotate_left; focus (first | omega | (simp; done) | (simp; omega)))))) hpl
    · exact HO3.out.thenBelow (by (repeat (first | with_reducible assumption | with_reducible exact Below.refl _ _ | with_reducible refine Below.drew ?_ | with_reducible refine belowDrewN ?_ _ | ((with_reducible refine Below.setCell ?_ ?_ _); rotate_left; focus (first | omega | (simp; done) | (simp; omega))) | ((with_reducible refine Below.alloc ?_ ?_ _); rotate_left; focus (first | omega | (simp; done) | (simp; omega))))))
  · go_wp2_with fail
    refine (l01Int_lit _ _ pb a cap l _ HC1.out ?size (by decide) (by decide) ?texts).mono ?_
    case size => rfl
    case texts => exact Nums.of (by rfl)
    rintro e w2 ⟨x2, rfl, hx2, hc2, ho2⟩
    have hz2 := ho2.size
    have HZ2 := Lib.hid (HZ1.out.only ho2 (.inr (by omega)))
    have HC2 := Lib.hid hc2; clear hc2; have HO2 := Lib.hid ho2; clear ho2
    go_wp2_with fail
    refine (leafNum _ _ hx2).mono ?_
    rintro e w3 ⟨k3, n3, s3, a3, c3, m3, rfl, hi3, hm3, hw3, hb3⟩
    obtain ⟨r0, r1, r2, r3, g0, g1, g2, g3⟩ := HZ2.out.below hb3 (by omega)
    have hc3 := HC2.out.below hb3
    have ho3 := (HOO.out.trans HO2.out).thenBelow (hb3.mono (by omega))
    have HI3 := Lib.hid hi3; clear hi3; have HW3 := Lib.hid hw3; clear hw3; have HM3 := Lib.hid hm3; clear hm3; have HC3 := Lib.hid hc3; clear hc3; have HO3 := Lib.hid ho3; clear ho3; have HB3 := Lib.hid hb3; clear hb3
    go_wp2_with fail
    refine bodyPost_ret (v := .agg #[.int .i64 k3, .int .i64 n3, .string s3, .slice a3 m3.length c3]) (by simp [results, Try.results101, go_sem, r0, r1, r2, r3]) rfl ?_
    refine ⟨k3, n3, s3, [], a3, c3, m3, rfl, HI3.out, ?_, HW3.out, by simp [Dat.countL]; exact nB_pos _, ?_, ?_⟩
    · (exact M.Mine.mono (M.Mine.keep HM3.out (fun b hb1 hb2 => by (try simp at hb1); simp (disch := (first | omega | (simp; omega))) only [heapSet, heapNew, heapDrew, heapDrewN])) (by first | omega | (simp; done) | (simp; omega)))
    · exact HC3.out.belowB (B := w.heap.size) (by (repeat (first | with_reducible assumption | with_reducible exact Below.refl _ _ | with_reducible refine Below.drew ?_ | with_reducible refine belowDrewN ?_ _ | ((with_reducible refine Below.setCell ?_ ?_ _); rotate_left; focus (first | omega | (simp; done) | (simp; omega))) | ((with_reducible refine Below.alloc ?_ ?_ _); rotate_left; focus (first | omega | (simp; done) | (simp; omega)))))) hpl
    · exact HO3.out.thenBelow (by (repeat (first | with_reducible assumption | with_reducible exact Below.refl _ _ | with_reducible refine Below.drew ?_ | with_reducible refine belowDrewN ?_ _ | ((with_reducible refine Below.setCell ?_ ?_ _); rotate_left; focus (first | omega | (simp; done) | (simp; omega))) | ((with_reducible refine Below.alloc ?_ ?_ _); rotate_left; focus (first | omega | (simp; done) | (simp; omega))))))
theorem wfL_snoc : ∀ {ds : List Dat} {d : Dat}, Dat.wfL ds → d.wf → Dat.wfL (ds ++ [d])
  | [], _, _, h => ⟨h, trivial⟩
  | _ :: _, _, h, k => ⟨h.1, wfL_snoc h.2 k⟩
set_option maxHeartbeats 4000000 in
theorem l1Draw_deep (d : Nat) (hd0 : 0 < d) (hd9 : d ≤ 100) (ih : DrD d) : DrD (d + 1) := by
  intro pb a cap l w hc
  have hd1 : ¬ ((d + 1 : Nat) : Int) ≤ 1 := by omega
  have hd2 : ((d + 1 : Nat) : Int) - 1 = (d : Int) := by omega
  have IH := Lib.hid ih; clear ih
  have hpl := hc.lt
  have HC := Lib.hid hc; clear hc
  go_enter Try.func101, Try.ntmps101
  go_wp2_with fail
  refine (l01Below_calls 9 pb a cap l _ (HC.out.below (by (repeat (first | with_reducible assumption | with_reducible exact Below.refl _ _ | with_reducible refine Below.drew ?_ | with_reducible refine belowDrewN ?_ _ | ((with_reducible refine Below.setCell ?_ ?_ _); rotate_left; focus (first | omega | (simp; done) | (simp; omega))) | ((with_reducible refine Below.alloc ?_ ?_ _); rotate_left; focus (first | omega | (simp; done) | (simp; omega))))))) (by decide) (by decide)).mono ?_
  rintro e w1 ⟨x, rfl, hx0, hx1, hc1, ho1⟩
  have hz1 := ho1.size
  simp only [World.size_alloc] at hz1
  have hzz := (Zero.new w).only ho1 (.inr (by omega))
  have hoo : OnlyIn pb (pb + 1) w w1 := ((OnlyIn.refl _ _ _).new _).trans ho1
  have HZ1 := Lib.hid hzz; clear hzz
  have HC1 := Lib.hid hc1; clear hc1; have HO1 := Lib.hid ho1; clear ho1; have HOO := Lib.hid hoo; clear hoo
  by_cases hx5 : x ≤ 5
  · have hx : x = 0 ∨ x = 1 ∨ x = 2 ∨ x = 3 ∨ x = 4 ∨ x = 5 := by omega
    clear hx0 hx1 hx5
    rcases hx with rfl | rfl | rfl | rfl | rfl | rfl
    · go_wp2_with fail
      refine (l01Pick_lit _ _ pb a cap l _ HC1.out ?size (by decide) (by decide) ?texts).mono ?_
      case size => rfl
      case texts => exact Texts.of (by rfl)
      rintro e w2 ⟨x2, rfl, hx2, hc2, ho2⟩
      have hz2 := ho2.size
      have HZ2 := Lib.hid (HZ1.out.only ho2 (.inr (by omega)))
      have HC2 := Lib.hid hc2; clear hc2; have HO2 := Lib.hid ho2; clear ho2
      go_wp2_with fail
      refine (leafSym _ _ hx2).mono ?_
      rintro e w3 ⟨k3, n3, s3, a3, c3, m3, rfl, hi3, hm3, hw3, hb3⟩
      obtain ⟨r0, r1, r2, r3, g0, g1, g2, g3⟩ := HZ2.out.below hb3 (by omega)
      have hc3 := HC2.out.below hb3
      have ho3 := (HOO.out.trans HO2.out).thenBelow (hb3.mono (by omega))
      have HI3 := Lib.hid hi3; clear hi3; have HW3 := Lib.hid hw3; clear hw3; have HM3 := Lib.hid hm3; clear hm3; have HC3 := Lib.hid hc3; clear hc3; have HO3 := Lib.hid ho3; clear ho3; have HB3 := Lib.hid hb3; clear hb3
      go_wp2_with fail
      refine bodyPost_ret (v := .agg #[.int .i64 k3, .int .i64 n3, .string s3, .slice a3 m3.length c3]) (by simp [results, Try.results101, go_sem, r0, r1, r2, r3]) rfl ?_
      refine ⟨k3, n3, s3, [], a3, c3, m3, rfl, HI3.out, ?_, HW3.out, by simp [Dat.countL]; exact nB_pos _, ?_, ?_⟩
      · (exact M.Mine.mono (M.Mine.keep HM3.out (fun b hb1 hb2 => by (try simp at hb1); simp (disch := (first | omega | (simp; omega))) only [heapSet, heapNew, heapDrew, heapDrewN])) (by first | omega | (simp; done) | (simp; omega)))
      · exact HC3.out.belowB (B := w.heap.size) (by (repeat (first | with_reducible assumption | with_reducible exact Below.refl _ _ | with_reducible refine Below.drew ?_ | with_reducible refine belowDrewN ?_ _ | ((with_reducible refine Below.setCell ?_ ?_ _); rotate_left; focus (first | omega | (simp; done) | (simp; omega))) | ((with_reducible refine Below.alloc ?_ ?_ _); rotate_left; focus (first | omega | (simp; done) | (simp; omega)))))) hpl
      · exact HO3.out.thenBelow (by (repeat (first | with_reducible assumption | with_reducible exact Below.refl _ _ | with_reducible refine Below.drew ?_ | with_reducible refine belowDrewN ?_ _ | ((with_reducible refine Below.setCell ?_ ?_ _); rotate_left; focus (first | omega | (simp; done) | (simp; omega))) | ((with_reducible refine Below.alloc ?_ ?_ _); rotate_left; focus (first | omega | (simp; done) | (simp; omega))))))
    · go_wp2_with fail
      refine (l01Pick_lit _ _ pb a cap l _ HC1.out ?size (by decide) (by decide) ?texts).mono ?_
      case size => rfl
      case texts => exact Texts.of (by rfl)
      rintro e w2 ⟨x2, rfl, hx2, hc2, ho2⟩
      have hz2 := ho2.size
      have HZ2 := Lib.hid (HZ1.out.only ho2 (.inr (by omega)))
      have HC2 := Lib.hid hc2; clear hc2; have HO2 := Lib.hid ho2; clear ho2
      go_wp2_with fail
      refine (leafSym _ _ hx2).mono ?_
      rintro e w3 ⟨k3, n3, s3, a3, c3, m3, rfl, hi3, hm3, hw3, hb3⟩
      obtain ⟨r0, r1, r2, r3, g0, g1, g2, g3⟩ := HZ2.out.below hb3 (by omega)
      have hc3 := HC2.out.below hb3
      have ho3 := (HOO.out.trans HO2.out).thenBelow (hb3.mono (by omega))
      have HI3 := Lib.hid hi3; clear hi3; have HW3 := Lib.hid hw3; clear hw3; have HM3 := Lib.hid hm3; clear hm3; have HC3 := Lib.hid hc3; clear hc3; have HO3 := Lib.hid ho3; clear ho3; have HB3 := Lib.hid hb3; clear hb3
      go_wp2_with fail
      refine bodyPost_ret (v := .agg #[.int .i64 k3, .int .i64 n3, .string s3, .slice a3 m3.length c3]) (by simp [results, Try.results101, go_sem, r0, r1, r2, r3]) rfl ?_
      refine ⟨k3, n3, s3, [], a3, c3, m3, rfl, HI3.out, ?_, HW3.out, by simp [Dat.countL]; exact nB_pos _, ?_, ?_⟩
      · (exact M.Mine.mono (M.Mine.keep HM3.out (fun b hb1 hb2 => by (try simp at hb1); simp (disch := (first | omega | (simp; omega))) only [heapSet, heapNew, heapDrew, heapDrewN])) (by first | omega | (simp; done) | (simp; omega)))
      · exact HC3.out.belowB (B := w.heap.size) (by (repeat (first | with_reducible assumption | with_reducible exact Below.refl _ _ | with_reducible refine Below.drew ?_ | with_reducible refine belowDrewN ?_ _ | ((with_reducible refine Below.setCell ?_ ?_ _); rotate_left; focus (first | omega | (simp; done) | (simp; omega))) | ((with_reducible refine Below.alloc ?_ ?_ _); rotate_left; focus (first | omega | (simp; done) | (simp; omega)))))) hpl
      · exact HO3.out.thenBelow (by (repeat (first | with_reducible assumption | with_reducible exact Below.refl _ _ | with_reducible refine Below.drew ?_ | with_reducible refine belowDrewN ?_ _ | ((with_reducible refine Below.setCell ?_ ?_ _); rotate_left; focus (first | omega | (simp; done) | (simp; omega))) | ((with_reducible refine Below.alloc ?_ ?_ _); rotate_left; focus (first | omega | (simp; done) | (simp; omega))))))
    · go_wp2_with fail
      refine (l01Int_lit _ _ pb a cap l _ HC1.out ?size (by decide) (by decide) ?texts).mono ?_
      case size => rfl
      case texts => exact Nums.of (by rfl)
      rintro e w2 ⟨x2, rfl, hx2, hc2, ho2⟩
      have hz2 := ho2.size
      have HZ2 := Lib.hid (HZ1.out.only ho2 (.inr (by omega)))
      have HC2 := Lib.hid hc2; clear hc2; have HO2 := Lib.hid ho2; clear ho2
      go_wp2_with fail
      refine (leafNum _ _ hx2).mono ?_
      rintro e w3 ⟨k3, n3, s3, a3, c3, m3, rfl, hi3, hm3, hw3, hb3⟩
      obtain ⟨r0, r1, r2, r3, g0, g1, g2, g3⟩ := HZ2.out.below hb3 (by omega)
      have hc3 := HC2.out.below hb3
      have ho3 := (HOO.out.trans HO2.out).thenBelow (hb3.mono (by omega))
      have HI3 := Lib.hid hi3; clear hi3; have HW3 := Lib.hid hw3; clear hw3; have HM3 := Lib.hid hm3; clear hm3; have HC3 := Lib.hid hc3; clear hc3; have HO3 := Lib.hid ho3; clear ho3; have HB3 := Lib.hid hb3; clear hb3
      go_wp2_with fail
      refine bodyPost_ret (v := .agg #[.int .i64 k3, .int .i64 n3, .string s3, .slice a3 m3.length c3]) (by simp [results, Try.results101, go_sem, r0, r1, r2, r3]) rfl ?_
      refine ⟨k3, n3, s3, [], a3, c3, m3, rfl, HI3.out, ?_, HW3.out, by simp [Dat.countL]; exact nB_pos _, ?_, ?_⟩
      · (exact M.Mine.mono (M.Mine.keep HM3.out (fun b hb1 hb2 => by (try simp at hb1); simp (disch := (first | omega | (simp; omega))) only [heapSet, heapNew, heapDrew, heapDrewN])) (by first | omega | (simp; done) | (simp; omega)))
      · exact HC3.out.belowB (B := w.heap.size) (by (repeat (first | with_reducible assumption | with_reducible exact Below.refl _ _ | with_reducible refine Below.drew ?_ | with_reducible refine belowDrewN ?_ _ | ((with_reducible refine Below.setCell ?_ ?_ _); rotate_left; focus (first | omega | (simp; done) | (simp; omega))) | ((with_reducible refine Below.alloc ?_ ?_ _); rotate_left; focus (first | omega | (simp; done) | (simp; omega)))))) hpl
      · exact HO3.out.thenBelow (by (repeat (first | with_reducible assumption | with_reducible exact Below.refl _ _ | with_reducible refine Below.drew ?_ | with_reducible refine belowDrewN ?_ _ | ((with_reducible refine Below.setCell ?_ ?_ _); rotate_left; focus (first | omega | (simp; done) | (simp; omega))) | ((with_reducible refine Below.alloc ?_ ?_ _); rotate_left; focus (first | omega | (simp; done) | (simp; omega))))))
    · go_wp2_with fail
      refine (l01Int_lit _ _ pb a cap l _ HC1.out ?size (by decide) (by decide) ?texts).mono ?_
      case size => rfl
      case texts => exact Nums.of (by rfl)
      rintro e w2 ⟨x2, rfl, hx2, hc2, ho2⟩
      have hz2 := ho2.size
      have HZ2 := Lib.hid (HZ1.out.only ho2 (.inr (by omega)))
      have HC2 := Lib.hid hc2; clear hc2; have HO2 := Lib.hid ho2; clear ho2
      go_wp2_with fail
      refine (leafNum _ _ hx2).mono ?_
      rintro e w3 ⟨k3, n3, s3, a3, c3, m3, rfl, hi3, hm3, hw3, hb3⟩
      obtain ⟨r0, r1, r2, r3, g0, g1, g2, g3⟩ := HZ2.out.below hb3 (by omega)
      have hc3 := HC2.out.below hb3
      have ho3 := (HOO.out.trans HO2.out).thenBelow (hb3.mono (by omega))
      have HI3 := Lib.hid hi3; clear hi3; have HW3 := Lib.hid hw3; clear hw3; have HM3 := Lib.hid hm3; clear hm3; have HC3 := Lib.hid hc3; clear hc3; have HO3 := Lib.hid ho3; clear ho3; have HB3 := Lib.hid hb3; clear hb3
      go_wp2_with fail
      refine bodyPost_ret (v := .agg #[.int .i64 k3, .int .i64 n3, .string s3, .slice a3 m3.length c3]) (by simp [results, Try.results101, go_sem, r0, r1, r2, r3]) rfl ?_
      refine ⟨k3, n3, s3, [], a3, c3, m3, rfl, HI3.out, ?_, HW3.out, by simp [Dat.countL]; exact nB_pos _, ?_, ?_⟩
      · (exact M.Mine.mono (M.Mine.keep HM3.out (fun b hb1 hb2 => by (try simp at hb1); simp (disch := (first | omega | (simp; omega))) only [heapSet, heapNew, heapDrew, heapDrewN])) (by first | omega | (simp; done) | (simp; omega)))
      · exact HC3.out.belowB (B := w.heap.size) (by (repeat (first | with_reducible assumption | with_reducible exact Below.refl _ _ | with_reducible refine Below.drew ?_ | with_reducible refine belowDrewN ?_ _ | ((with_reducible refine Below.setCell ?_ ?_ _); rotate_left; focus (first | omega | (simp; done) | (simp; omega))) | ((with_reducible refine Below.alloc ?_ ?_ _); rotate_left; focus (first | omega | (simp; done) | (simp; omega)))))) hpl
      · exact HO3.out.thenBelow (by (repeat (first | with_reducible assumption | with_reducible exact Below.refl _ _ | with_reducible refine Below.drew ?_ | with_reducible refine belowDrewN ?_ _ | ((with_reducible refine Below.setCell ?_ ?_ _); rotate_left; focus (first | omega | (simp; done) | (simp; omega))) | ((with_reducible refine Below.alloc ?_ ?_ _); rotate_left; focus (first | omega | (simp; done) | (simp; omega))))))
    · go_wp2_with fail
      refine (l01Once_calls _ pb a cap l _ HC1.out (by decide) (by decide)).mono ?_
      rintro e w2 ⟨x2, rfl, hc2, ho2⟩
      have hz2 := ho2.size
      have HZ2 := Lib.hid (HZ1.out.only ho2 (.inr (by omega)))
      have HC2 := Lib.hid hc2; clear hc2; have HO2 := Lib.hid ho2; clear ho2
      go_wp2_with fail
      refine (leafBool _ _).mono ?_
      rintro e w3 ⟨k3, n3, s3, a3, c3, m3, rfl, hi3, hm3, hw3, hb3⟩
      obtain ⟨r0, r1, r2, r3, g0, g1, g2, g3⟩ := HZ2.out.below hb3 (by omega)
      have hc3 := HC2.out.below hb3
      have ho3 := (HOO.out.trans HO2.out).thenBelow (hb3.mono (by omega))
      have HI3 := Lib.hid hi3; clear hi3; have HW3 := Lib.hid hw3; clear hw3; have HM3 := Lib.hid hm3; clear hm3; have HC3 := Lib.hid hc3; clear hc3; have HO3 := Lib.hid ho3; clear ho3; have HB3 := Lib.hid hb3; clear hb3
      go_wp2_with fail
      refine bodyPost_ret (v := .agg #[.int .i64 k3, .int .i64 n3, .string s3, .slice a3 m3.length c3]) (by simp [results, Try.results101, go_sem, r0, r1, r2, r3]) rfl ?_
      refine ⟨k3, n3, s3, [], a3, c3, m3, rfl, HI3.out, ?_, HW3.out, by simp [Dat.countL]; exact nB_pos _, ?_, ?_⟩
      · (exact M.Mine.mono (M.Mine.keep HM3.out (fun b hb1 hb2 => by (try simp at hb1); simp (disch := (first | omega | (simp; omega))) only [heapSet, heapNew, heapDrew, heapDrewN])) (by first | omega | (simp; done) | (simp; omega)))
      · exact HC3.out.belowB (B := w.heap.size) (by (repeat (first | with_reducible assumption | with_reducible exact Below.refl _ _ | with_reducible refine Below.drew ?_ | with_reducible refine belowDrewN ?_ _ | ((with_reducible refine Below.setCell ?_ ?_ _); rotate_left; focus (first | omega | (simp; done) | (simp; omega))) | ((with_reducible refine Below.alloc ?_ ?_ _); rotate_left; focus (first | omega | (simp; done) | (simp; omega)))))) hpl
      · exact HO3.out.thenBelow (by (repeat (first | with_reducible assumption | with_reducible exact Below.refl _ _ | with_reducible refine Below.drew ?_ | with_reducible refine belowDrewN ?_ _ | ((with_reducible refine Below.setCell ?_ ?_ _); rotate_left; focus (first | omega | (simp; done) | (simp; omega))) | ((with_reducible refine Below.alloc ?_ ?_ _); rotate_left; focus (first | omega | (simp; done) | (simp; omega))))))
    · go_wp2_with fail
      refine (l01Pick_lit _ _ pb a cap l _ HC1.out ?size (by decide) (by decide) ?texts).mono ?_
      case size => rfl
      case texts => exact Texts.of (by rfl)
      rintro e w2 ⟨x2, rfl, hx2, hc2, ho2⟩
      have hz2 := ho2.size
      have HZ2 := Lib.hid (HZ1.out.only ho2 (.inr (by omega)))
      have HC2 := Lib.hid hc2; clear hc2; have HO2 := Lib.hid ho2; clear ho2
      go_wp2_with fail
      refine (leafStr _ _ hx2).mono ?_
      rintro e w3 ⟨k3, n3, s3, a3, c3, m3, rfl, hi3, hm3, hw3, hb3⟩
      obtain ⟨r0, r1, r2, r3, g0, g1, g2, g3⟩ := HZ2.out.below hb3 (by omega)
      have hc3 := HC2.out.below hb3
      have ho3 := (HOO.out.trans HO2.out).thenBelow (hb3.mono (by omega))
      have HI3 := Lib.hid hi3; clear hi3; have HW3 := Lib.hid hw3; clear hw3; have HM3 := Lib.hid hm3; clear hm3; have HC3 := Lib.hid hc3; clear hc3; have HO3 := Lib.hid ho3; clear ho3; have HB3 := Lib.hid hb3; clear hb3
      go_wp2_with fail
      refine bodyPost_ret (v := .agg #[.int .i64 k3, .int .i64 n3, .string s3, .slice a3 m3.length c3]) (by simp [results, Try.results101, go_sem, r0, r1, r2, r3]) rfl ?_
      refine ⟨k3, n3, s3, [], a3, c3, m3, rfl, HI3.out, ?_, HW3.out, by simp [Dat.countL]; exact nB_pos _, ?_, ?_⟩
      · (exact M.Mine.mono (M.Mine.keep HM3.out (fun b hb1 hb2 => by (try simp at hb1); simp (disch := (first | omega | (simp; omega))) only [heapSet, heapNew, heapDrew, heapDrewN])) (by first | omega | (simp; done) | (simp; omega)))
      · exact HC3.out.belowB (B := w.heap.size) (by (repeat (first | with_reducible assumption | with_reducible exact Below.refl _ _ | with_reducible refine Below.drew ?_ | with_reducible refine belowDrewN ?_ _ | ((with_reducible refine Below.setCell ?_ ?_ _); rotate_left; focus (first | omega | (simp; done) | (simp; omega))) | ((with_reducible refine Below.alloc ?_ ?_ _); rotate_left; focus (first | omega | (simp; done) | (simp; omega)))))) hpl
      · exact HO3.out.thenBelow (by (repeat (first | with_reducible assumption | with_reducible exact Below.refl _ _ | with_reducible refine Below.drew ?_ | with_reducible refine belowDrewN ?_ _ | ((with_reducible refine Below.setCell ?_ ?_ _); rotate_left; focus (first | omega | (simp; done) | (simp; omega))) | ((with_reducible refine Below.alloc ?_ ?_ _); rotate_left; focus (first | omega | (simp; done) | (simp; omega))))))
  · have y0 : (x == 0) = false := by simp; omega
    have y1 : (x == 1) = false := by simp; omega
    have y2 : (x == 2) = false := by simp; omega
    have y3 : (x == 3) = false := by simp; omega
    have y4 : (x == 4) = false := by simp; omega
    have y5 : (x == 5) = false := by simp; omega
    have HX5 := Lib.hid hx5; clear hx5; have HX0 := Lib.hid hx0; clear hx0; have HX1 := Lib.hid hx1; clear hx1
    go_wp2_with fail
    refine (l01Below_calls 5 pb a cap l _ (HC1.out.below (by (repeat (first | with_reducible assumption | with_reducible exact Below.refl _ _ | with_reducible refine Below.drew ?_ | with_reducible refine belowDrewN ?_ _ | ((with_reducible refine Below.setCell ?_ ?_ _); rotate_left; focus (first | omega | (simp; done) | (simp; omega))) | ((with_reducible refine Below.alloc ?_ ?_ _); rotate_left; focus (first | omega | (simp; done) | (simp; omega))))))) (by decide) (by decide)).mono ?_
    rintro e w2 ⟨y, rfl, hy0, hy1, hc2, ho2⟩
    obtain ⟨n0, rfl⟩ := Int.eq_ofNat_of_zero_le hy0
    have hz2 := ho2.size
    simp only [World.size_alloc] at hz2
    have hn4 : n0 ≤ 4 := by omega
    have ho12 : OnlyIn pb (pb + 1) w1 w2 := ((OnlyIn.refl _ _ _).new _).trans ho2
    have hz0 : Zero w.heap.size w2 := HZ1.out.only ho12 (.inr (by omega))
    have hzB : Zero w1.heap.size w2 := (Zero.new w1).only ho2 (.inr (by omega))
    have hzBs : w2.cell? ⟨w1.heap.size, 0, none⟩ = some (.int .i64 0) ∧ w2.cell? ⟨w1.heap.size, 1, none⟩ = some (.int .i64 0) ∧ w2.cell? ⟨w1.heap.size, 2, none⟩ = some (.string ⟨#[]⟩) ∧ w2.cell? ⟨w1.heap.size, 3, none⟩ = some (.slice none 0 0) ∧ w2.frozen? ⟨w1.heap.size, 3, none⟩ = false := ⟨hzB.c0, hzB.c1, hzB.c2, hzB.c3, hzB.f3⟩
    have ho02 : OnlyIn pb (pb + 1) w w2 := HOO.out.trans ho12
    have hwl : Dat.wf1L [] := trivial
    clear hy0 hy1
    have HC2 := Lib.hid hc2; clear hc2; have HO2 := Lib.hid ho2; clear ho2; have HO12 := Lib.hid ho12; clear ho12; have HZ0 := Lib.hid hz0; clear hz0; have HZB := Lib.hid hzB; clear hzB; have HZBS := Lib.hid hzBs; clear hzBs; have HO02 := Lib.hid ho02; clear ho02
    go_wp2_with fail
    go_loopw [7] (fun i wr => ∃ (n : Nat) (a' : Option Addr) (cap' : Nat) (ms' : List M) (ds' : List Dat), i = .int .i64 n ∧ ms'.length + n ≤ 4 ∧ Dat.IsL 52 ds' ms' ∧ (M.sl a' cap' 4 52 ms').Mine wr (w1.heap.size + 1) ∧ Dat.wf1L ds' ∧ Dat.countL ds' ≤ ms'.length * nB d ∧
        (wr.cell? ⟨w1.heap.size, 0, none⟩ = some (.int .i64 0) ∧ wr.cell? ⟨w1.heap.size, 1, none⟩ = some (.int .i64 0) ∧ wr.cell? ⟨w1.heap.size, 2, none⟩ = some (.string ⟨#[]⟩) ∧ wr.cell? ⟨w1.heap.size, 3, none⟩ = some (.slice a' ms'.length cap') ∧ wr.frozen? ⟨w1.heap.size, 3, none⟩ = false) ∧
        Zero w.heap.size wr ∧ Cur pb a cap l wr ∧ OnlyIn pb (pb + 1) w wr ∧ w1.heap.size + 1 ≤ wr.heap.size) (fun i _ => (intOf i).toNat)
    case atStart => exact ⟨n0, none, 0, [], [], rfl, by simpa using hn4, by simp [Dat.IsL], M.Mine.nil _ _ _ _ (by decide), trivial, by simp [Dat.countL], HZBS.out, HZ0.out, HC2.out, HO02.out, by omega⟩
    case round =>
      obtain ⟨n, a', cap', ms', ds', rfl, hnm, hi', hm', hwl', hct', ⟨q0, q1, q2, q3, qf⟩, hzr, hcr, hor, hsz⟩ := hrel
      have p3 : w1.heap.size < wr.heap.size := by omega
      have hcap' := hm'.in_.len
      cases n with
      | zero =>
        have hwfin : (Dat.mk 0 0 ⟨#[]⟩ ds').wf1 := ⟨by unfold I64; omega, by unfold I64; omega, by decide, hwl'⟩
        have hcfin : 1 + Dat.countL ds' ≤ nB (d + 1) := by
          have := Nat.mul_le_mul_right (nB d) (show ms'.length ≤ 4 by omega)
          simp only [nB]; omega
        obtain ⟨r0, r1, r2, r3, g0, g1, g2, g3⟩ := hzr
        have HI' := Lib.hid hi'; clear hi'; have HM' := Lib.hid hm'; clear hm'; have HWL' := Lib.hid hwl'; clear hwl'; have HCT' := Lib.hid hct'; clear hct'; have HCR := Lib.hid hcr; clear hcr; have HOR := Lib.hid hor; clear hor; have HWFIN := Lib.hid hwfin; clear hwfin; have HCFIN := Lib.hid hcfin; clear hcfin; have HNM := Lib.hid hnm; clear hnm
        go_wp2_with fail
        refine bodyPost_ret (v := .agg #[.int .i64 0, .int .i64 0, .string ⟨#[]⟩, .slice a' ms'.length cap']) (by simp [results, Try.results101, go_sem, r0, r1, r2, r3]) rfl ?_
        refine ⟨0, 0, ⟨#[]⟩, ds', a', cap', ms', rfl, HI'.out, ?_, HWFIN.out, HCFIN.out, ?_, ?_⟩
        · (exact M.Mine.mono (M.Mine.keep HM'.out (fun b hb1 hb2 => by (try simp at hb1); simp (disch := (first | omega | (simp; omega))) only [heapSet, heapNew, heapDrew, heapDrewN])) (by first | omega | (simp; done) | (simp; omega)))
        · exact HCR.out.belowB (B := w.heap.size) (by (repeat (first | with_reducible assumption | with_reducible exact Below.refl _ _ | with_reducible refine Below.drew ?_ | with_reducible refine belowDrewN ?_ _ | ((with_reducible refine Below.setCell ?_ ?_ _); rotate_left; focus (first | omega | (simp; done) | (simp; omega))) | ((with_reducible refine Below.alloc ?_ ?_ _); rotate_left; focus (first | omega | (simp; done) | (simp; omega)))))) hpl
        · exact HOR.out.thenBelow (by (repeat (first | with_reducible assumption | with_reducible exact Below.refl _ _ | with_reducible refine Below.drew ?_ | with_reducible refine belowDrewN ?_ _ | ((with_reducible refine Below.setCell ?_ ?_ _); rotate_left; focus (first | omega | (simp; done) | (simp; omega))) | ((with_reducible refine Below.alloc ?_ ?_ _); rotate_left; focus (first | omega | (simp; done) | (simp; omega))))))
      | succ n =>
        have hpos : 0 < ((n + 1 : Nat) : Int) := by omega
        have hn9 : n ≤ 3 := by omega
        have hwd : IntKind.i64.wrap (d : Int) = (d : Int) := by rw [IntKind.wrap_i64]; omega
        have HI' := Lib.hid hi'; clear hi'; have HM' := Lib.hid hm'; clear hm'; have HWL' := Lib.hid hwl'; clear hwl'; have HCT' := Lib.hid hct'; clear hct'; have HCR := Lib.hid hcr; clear hcr; have HOR := Lib.hid hor; clear hor; have HZR := Lib.hid hzr; clear hzr; have HNM := Lib.hid hnm; clear hnm
        go_wp2_with fail
        go_region_law (first
          | (go_simp; go_at_call 101; (try simp only [hwd]); refine (IH.out pb a cap l _ (HCR.out.below (by (repeat (first | with_reducible assumption | with_reducible exact Below.refl _ _ | with_reducible refine Below.drew ?_ | with_reducible refine belowDrewN ?_ _ | ((with_reducible refine Below.setCell ?_ ?_ _); rotate_left; focus (first | omega | (simp; done) | (simp; omega))) | ((with_reducible refine Below.alloc ?_ ?_ _); rotate_left; focus (first | omega | (simp; done) | (simp; omega)))))))).mono ?_; rintro e w4 ⟨k4, n4, s4, ds4, a4, cap4, ms4, rfl, hi4, hm4, hw4, hct4, hc4, ho4⟩; have ho4' : OnlyIn pb (pb + 1) wr w4 := (by first | exact ho4 | exact ((OnlyIn.refl _ _ _).drew).trans ho4 | exact ((OnlyIn.refl _ _ _).drewN _).trans ho4); have hz4 := ho4'.size; have p3c : w1.heap.size < w4.heap.size := (by omega); have q3c : w4.cell? ⟨w1.heap.size, 3, none⟩ = some (.slice a' ms'.length cap') := ((World.cell?_of_block (ho4'.block w1.heap.size p3 (.inr (by omega)))).trans q3); have qfc : w4.frozen? ⟨w1.heap.size, 3, none⟩ = false := ((World.frozen?_of_block (ho4'.block w1.heap.size p3 (.inr (by omega)))).trans qf))
          | (refine step_push3 (wr := wr) rfl _ _ 50 rfl 52 _ 4 56 Try.underlying50 infoDat rfl (by decide) (w1.heap.size + 1) a' cap' ms' rfl HM'.out hsz hz4 (fun b h1 h2 => ho4'.block b h2 (.inr (by omega))) _ (.ag [.c (.int .i64 k4), .c (.int .i64 n4), .c (.string s4), .sl a4 cap4 4 52 ms4]) rfl rfl _ (Dat.mine hm4) (by first | exact Nat.le_refl _ | (simp; done)) rfl (by have := HNM.out; unfold maxLen; omega) (by have := HNM.out; omega) ?_; intro a5 cap5 w5 hm5 hb5 hz5 hfr5; have p5c : w1.heap.size < w5.heap.size := (by omega); have q3' : w5.cell? ⟨w1.heap.size, 3, none⟩ = some (.slice a' ms'.length cap') := ((World.cell?_of_block (hb5.block w1.heap.size (by omega))).trans q3c); have qf' : w5.frozen? ⟨w1.heap.size, 3, none⟩ = false := ((World.frozen?_of_block (hb5.block w1.heap.size (by omega))).trans qfc)))
        all_goals
          have kB := (hb5.block w1.heap.size (by omega)).trans (ho4'.block w1.heap.size p3 (.inr (by omega)))
          have q0' : w5.cell? ⟨w1.heap.size, 0, none⟩ = some (.int .i64 0) := (World.cell?_of_block kB).trans q0
          have q1' : w5.cell? ⟨w1.heap.size, 1, none⟩ = some (.int .i64 0) := (World.cell?_of_block kB).trans q1
          have q2' : w5.cell? ⟨w1.heap.size, 2, none⟩ = some (.string ⟨#[]⟩) := (World.cell?_of_block kB).trans q2
          have hzr5 := HZR.out.of ((hb5.block w.heap.size (by omega)).trans (ho4'.block w.heap.size (by omega) (.inr (by omega))))
          have hc5 := hc4.belowB hb5 (by omega)
          have ho5 := (HOR.out.trans ho4').thenBelow (hb5.mono (by omega))
          have hi5 : Dat.IsL 52 (ds' ++ [.mk k4 n4 s4 ds4]) (ms' ++ [.ag [.c (.int .i64 k4), .c (.int .i64 n4), .c (.string s4), .sl a4 cap4 4 52 ms4]]) := HI'.out.snoc ⟨_, _, _, rfl, hi4⟩
          have hlen5 : (ms' ++ [M.ag [.c (.int .i64 k4), .c (.int .i64 n4), .c (.string s4), .sl a4 cap4 4 52 ms4]]).length = ms'.length + 1 := by simp
          have hct5 : Dat.countL (ds' ++ [.mk k4 n4 s4 ds4]) ≤ (ms'.length + 1) * nB d := by
            have := HCT'.out
            rw [Dat.countL_append, Nat.succ_mul]; simp only [Dat.countL, Dat.count]; omega
          have hwl5 : Dat.wf1L (ds' ++ [.mk k4 n4 s4 ds4]) := wf1L_snoc HWL'.out hw4
          have HM5 := Lib.hid hm5; clear hm5; have HI5 := Lib.hid hi5; clear hi5; have HCT5 := Lib.hid hct5; clear hct5; have HWL5 := Lib.hid hwl5; clear hwl5; have HZR5 := Lib.hid hzr5; clear hzr5; have HC5 := Lib.hid hc5; clear hc5; have HO5 := Lib.hid ho5; clear ho5; have HI4 := Lib.hid hi4; clear hi4; have HM4 := Lib.hid hm4; clear hm4; have HW4 := Lib.hid hw4; clear hw4; have HCT4 := Lib.hid hct4; clear hct4; have HC4 := Lib.hid hc4; clear hc4; have HO4 := Lib.hid ho4; clear ho4; have HO4' := Lib.hid ho4'; clear ho4'; have HFR5 := Lib.hid hfr5; clear hfr5
          go_wp2_with fail
          go_roundw
          case rel =>
            refine ⟨n, a5, cap5, ms' ++ [.ag [.c (.int .i64 k4), .c (.int .i64 n4), .c (.string s4), .sl a4 cap4 4 52 ms4]], ds' ++ [.mk k4 n4 s4 ds4], by go_num, by have := HNM.out; simp; omega, HI5.out, ?_, HWL5.out, by rw [hlen5]; exact HCT5.out, ?_, ?_, ?_, ?_, ?_⟩
            · exact M.Mine.keep HM5.out (fun b hb1 hb2 => by simp (disch := (first | omega | (simp; omega))) only [heapSet])
            · simp [go_sem, q0', q1', q2', q3', qf']
            · exact HZR5.out.of (by simp (disch := (first | omega | (simp; omega))) only [heapSet])
            · exact HC5.out.belowB (B := w.heap.size) (by (repeat (first | with_reducible assumption | with_reducible exact Below.refl _ _ | with_reducible refine Below.drew ?_ | with_reducible refine belowDrewN ?_ _ | ((with_reducible refine Below.setCell ?_ ?_ _); rotate_left; focus (first | omega | (simp; done) | (simp; omega))) | ((with_reducible refine Below.alloc ?_ ?_ _); rotate_left; focus (first | omega | (simp; done) | (simp; omega)))))) hpl
            · exact HO5.out.thenBelow (by (repeat (first | with_reducible assumption | with_reducible exact Below.refl _ _ | with_reducible refine Below.drew ?_ | with_reducible refine belowDrewN ?_ _ | ((with_reducible refine Below.setCell ?_ ?_ _); rotate_left; focus (first | omega | (simp; done) | (simp; omega))) | ((with_reducible refine Below.alloc ?_ ?_ _); rotate_left; focus (first | omega | (simp; done) | (simp; omega))))))
            · simp; omega
          case measure => first | (simp [intOf]; done) | (simp [intOf]; omega)
theorem l1Draw_calls : ∀ d, d ≤ 100 → DrD d
  | 0, _ => l1Draw_leaf 0 (by decide)
  | 1, _ => l1Draw_leaf 1 (by decide)
  | d + 2, h => l1Draw_deep (d + 1) (by omega) (by omega) (l1Draw_calls (d + 1) (by omega))
end Go.Proofs.Ytghbnehocggnnaa

/-
  append of one element, told with where the new row lies. No condition.
-/
set_option linter.unusedVariables false
namespace Go.Proofs.Ytghbnehocggnnaa
open Go.RowKit

theorem wpList_push2 {P : Program} {wr w1 : World} {ops : Array Oper} {rest : List Oper} {o : Oper} {act : Act} {Q : Exit → Act → World → Prop} (hgd : o.guard = none) (s x : Operand) (t : TypeId)
    (ho : o.op = .call { callee := .builtin .append, args := #[s, x], argTypes := #[t, t] })
    (e : TypeId) (z : Value) (size bytes : Nat) (ht : P.underlying t = some (.slice e)) (hinfo : (P.info? e).map (fun i => (i.zero, i.size, i.bytes)) = some (some z, size, bytes))
    (hzs : z.cells.size = size) (hsz : 0 < size)
    (lo : Nat) (a : Option Addr) (cap : Nat) (xs : List M) (hs : act.eval s = .slice a xs.length cap) (hrow : (M.sl a cap size e xs).Mine wr lo) (hlo : lo ≤ wr.heap.size) (hb : Below wr.heap.size wr w1)
    (cs : Array Value) (m : M) (hmc : m.cells = cs.toList) (hml : cs.size = size) (c : Nat) (hm : m.Mine w1 c) (hc : wr.heap.size ≤ c)
    (hx : act.eval x = .slice (some ⟨w1.heap.size, 0, none⟩) 1 1) (h63 : xs.length + 1 ≤ maxLen) (hbytes : (xs.length + 1) * bytes ≤ 140737488355328)
    (h : ∀ a' cap' w', (M.sl a' cap' size e (xs ++ [m])).Mine w' lo → Below lo w1 w' → w1.heap.size ≤ w'.heap.size → (∀ b, b < w1.heap.size → b ∉ addrBlocks a → w'.heap[b]? = w1.heap[b]?) →
      (∀ b ∈ addrBlocks a', b ∈ addrBlocks a ∨ w1.heap.size ≤ b) → wpList P ops Q rest (act.put o.dst (.slice a' (xs.length + 1) cap')) w') : wpList P ops Q (o :: rest) act (w1.alloc (.cells cs e)) := by
  have hsz1 := hb.size
  have hrw : (M.sl a cap size e xs).Mine (w1.alloc (.cells cs e)) lo := by
    refine M.Mine.keep hrow fun b h1 h2 => ?_
    rw [heapNew _ _ _ (by omega), hb.block b h2]
  have hmw : m.Mine (w1.alloc (.cells cs e)) lo := by
    refine M.Mine.mono (M.Mine.keep hm fun b h1 h2 => ?_) (by omega)
    rw [heapNew _ _ _ h2]
  have hlen : m.cells.length = size := by rw [hmc]; simpa using hml
  refine wpList_row _ hgd s x t ho e z size bytes ht hinfo hzs hsz lo a xs.length cap (M.cellsL xs) hs hrw.own.1.1 _ 1 1 m.cells hx (by omega) (by simp) ?_ ?_ h63 hbytes (by simp; omega) ?_
  · intro ad had j u hu
    obtain rfl := Option.some.inj had
    rw [addr_add, Nat.zero_add, World.cell?_alloc_new]
    rw [hmc] at hu
    simpa using hu
  · exact M.Own.one m hmw.own
  · intro a' cap' w' hr hg ha
    have hY : M.MineL (w1.alloc (.cells cs e)) lo [m] := ⟨⟨hmw.own, trivial⟩, by simpa [M.blocksL] using hmw.dup⟩
    have hp := M.Mine.push (ys := [m]) hrw (by simpa [M.cellsL] using hr) hg ha hY (by simpa using hlen) (fun b hb' => by
      have h1 := hm.lt b (by simpa [M.blocksL] using hb')
      have h2 : ∀ b' ∈ (M.sl a cap size e xs).blocks, b' < wr.heap.size := fun b' hb' => (hrow.lt b' hb').2
      exact ⟨fun hn => by have := h2 b (by simp [M.blocks, hn]); omega, fun hn => by have := h2 b (by simp [M.blocks, hn]); omega⟩)
    have hkeep : ∀ b, b < w1.heap.size → b ∉ addrBlocks a → w'.heap[b]? = w1.heap[b]? := fun b hb1 hn => by
      rw [hg.block b (by simp; omega) (fun he => hn (addrBlocks_own.1 he.symm)), heapNew _ _ _ hb1]
    have hgs := hg.size
    simp only [World.size_alloc] at hgs
    refine h a' cap' w' hp ⟨hg.os, hg.tape, hg.output, by omega, fun k hk => hkeep k (by omega) fun hn => ?_⟩ (by omega) hkeep (fun b hb => (ha b hb).imp id fun h => by simp at h; omega)
    have := (Mine.addr_lo hrow k hn).1
    omega
theorem At_keep {m : M} {lo hi : Nat} {w w' : World} (h : m.At lo hi w) (hs : w.heap.size ≤ w'.heap.size) (hk : ∀ b, lo ≤ b → b < hi → w'.heap[b]? = w.heap[b]?) : m.At lo hi w' :=
  ⟨⟨M.Own.frame m h.mine.own fun b hb => hk b (h.mine.lt b hb).1 (h.lt b hb), h.mine.dup⟩, h.lt, Nat.le_trans h.hi hs⟩
end Go.Proofs.Ytghbnehocggnnaa

/-
  Walks: data drawn, not valid sometimes. No condition.
-/
set_option linter.unusedVariables false
set_option linter.unusedSimpArgs false
set_option maxRecDepth 100000
namespace Go.Proofs.Ytghbnehocggnnaa
open Go.RowKit

theorem countL_snocD (ds : List Dat) (d : Dat) : Dat.countL (ds ++ [d]) = Dat.countL ds + d.count := by
  induction ds with
  | nil => simp [Dat.countL]
  | cons e r ih => simp only [List.cons_append, Dat.countL, ih]; omega
theorem DBox.set0 {b : Nat} {k n : Int} {s : ByteArray} {v : Value} {w : World} (h : DBox b k n s v w) (u : Int) : DBox b u n s v (w.setCell ⟨b, 0, none⟩ (.int .i64 u)) :=
  ⟨by rw [cell?_setCell_eq, h.c0]; rfl, (cellSet_ne _ (by decide)).trans h.c1, (cellSet_ne _ (by decide)).trans h.c2, (cellSet_ne _ (by decide)).trans h.c3,
   (frozenSet _).trans h.f0, (frozenSet _).trans h.f1, (frozenSet _).trans h.f2, (frozenSet _).trans h.f3⟩
theorem DBox.set1 {b : Nat} {k n : Int} {s : ByteArray} {v : Value} {w : World} (h : DBox b k n s v w) (u : Int) : DBox b k u s v (w.setCell ⟨b, 1, none⟩ (.int .i64 u)) :=
  ⟨(cellSet_ne _ (by decide)).trans h.c0, by rw [cell?_setCell_eq, h.c1]; rfl, (cellSet_ne _ (by decide)).trans h.c2, (cellSet_ne _ (by decide)).trans h.c3,
   (frozenSet _).trans h.f0, (frozenSet _).trans h.f1, (frozenSet _).trans h.f2, (frozenSet _).trans h.f3⟩
theorem MineL_one {lo : Nat} {w : World} {a : Option Addr} {cap : Nat} {e : TypeId} {ms : List M} (h : (M.sl a cap 4 e ms).Mine w lo) (k n : Int) (s : ByteArray) : M.MineL w lo [.ag [.c (.int .i64 k), .c (.int .i64 n), .c (.string s), .sl a cap 4 e ms]] :=
  ⟨⟨⟨rfl, rfl, rfl, h.own, trivial⟩, trivial⟩, by simpa [M.blocks, M.blocksL] using h.dup⟩
set_option maxHeartbeats 1000000 in
theorem l1Any_calls (pb : Nat) (a : Option Addr) (cap : Nat) (l : List Int) (w : World) (hc : Cur pb a cap l w) :
    Calls Try.prog 63 #[.pointer (some ⟨pb, 0, none⟩)] w (DrawnD 400 pb a cap l w) := by
  have hpl := hc.lt
  have HC := Lib.hid hc; clear hc
  go_enter Try.func63, Try.ntmps63
  go_wp2_with fail
  refine (l1Draw_calls 4 (by decide) pb a cap l _ (HC.out.below (by (repeat (first | with_reducible assumption | with_reducible exact Below.refl _ _ | with_reducible refine Below.drew ?_ | with_reducible refine belowDrewN ?_ _ | ((with_reducible refine Below.setCell ?_ ?_ _); rotate_left; focus (first | omega | (simp; done) | (simp; omega))) | ((with_reducible refine Below.alloc ?_ ?_ _); rotate_left; focus (first | omega | (simp; done) | (simp; omega)))))))).mono ?_
  rintro e w1 ⟨k1, n1, s1, ds1, a1, cap1, ms1, rfl, hi1, hm1, hw1, hct1, hc1, ho1⟩
  have hz1 := ho1.size
  simp only [World.size_alloc] at hz1
  have hzz := (Zero.new w).only ho1 (.inr (by omega))
  have hoo : OnlyIn pb (pb + 1) w w1 := ((OnlyIn.refl _ _ _).new _).trans ho1
  have HC1 := Lib.hid hc1; clear hc1; have HO1 := Lib.hid ho1; clear ho1; have HOO := Lib.hid hoo; clear hoo; have HI1 := Lib.hid hi1; clear hi1; have HM1 := Lib.hid hm1; clear hm1; have HW1 := Lib.hid hw1; clear hw1; have HCT1 := Lib.hid hct1; clear hct1; have HZZ := Lib.hid hzz; clear hzz
  go_wp2_with fail
  refine (l01Below_calls 12 pb a cap l _ (HC1.out.below (by (repeat (first | with_reducible assumption | with_reducible exact Below.refl _ _ | with_reducible refine Below.drew ?_ | with_reducible refine belowDrewN ?_ _ | ((with_reducible refine Below.setCell ?_ ?_ _); rotate_left; focus (first | omega | (simp; done) | (simp; omega))) | ((with_reducible refine Below.alloc ?_ ?_ _); rotate_left; focus (first | omega | (simp; done) | (simp; omega))))))) (by decide) (by decide)).mono ?_
  rintro e w2 ⟨x, rfl, hx0, hx1, hc2, ho2⟩
  have hz2 := ho2.size
  simp only [World.size_alloc] at hz2
  have hbx : DBox w1.heap.size k1 n1 s1 (.slice a1 ms1.length cap1) w2 := (DBox.new _ _ _ _ w1).only ho2 (.inr (by omega))
  have ho12 : OnlyIn pb (pb + 1) w1 w2 := ((OnlyIn.refl _ _ _).new _).trans ho2
  have hz0 : Zero w.heap.size w2 := HZZ.out.only ho12 (.inr (by omega))
  have hm2 : (M.sl a1 cap1 4 52 ms1).Mine w2 (w.heap.size + 1) := (HM1.out.mono (by simp)).keep (fun b h1 h2 => ho12.block b h2 (.inr (by omega)))
  have ho02 := HOO.out.trans ho12
  have hlt := HM1.out.lt_size
  have HC2 := Lib.hid hc2; clear hc2; have HO2 := Lib.hid ho2; clear ho2; have HO12 := Lib.hid ho12; clear ho12; have HM2 := Lib.hid hm2; clear hm2; have HO02 := Lib.hid ho02; clear ho02; have HBX := Lib.hid hbx; clear hbx; have HZ0 := Lib.hid hz0; clear hz0; have HLT := Lib.hid hlt; clear hlt
  have hct : 1 + Dat.countL ds1 ≤ 341 := by have := HCT1.out; simpa [nB] using this
  by_cases h5 : 5 ≤ x
  · have y0 : (x == 0) = false := by simp; omega
    have y1 : (x == 1) = false := by simp; omega
    have y2 : (x == 2) = false := by simp; omega
    have y3 : (x == 3) = false := by simp; omega
    have y4 : (x == 4) = false := by simp; omega
    have HCT := Lib.hid hct; clear hct; have HX0 := Lib.hid hx0; clear hx0; have HX1 := Lib.hid hx1; clear hx1; have H5 := Lib.hid h5; clear h5
    obtain ⟨r0, r1, r2, r3, g0, g1, g2, g3⟩ := HZ0.out
    obtain ⟨q0, q1, q2, q3, f0, f1, f2, f3⟩ := HBX.out
    go_wp2_with fail
    refine bodyPost_ret (v := .agg #[.int .i64 k1, .int .i64 n1, .string s1, .slice a1 ms1.length cap1]) (by simp [results, Try.results63, go_sem, r0, r1, r2, r3]) rfl ?_
    refine ⟨k1, n1, s1, ds1, a1, cap1, ms1, rfl, HI1.out, ?_, HW1.out, by have := HCT.out; omega, ?_, ?_⟩
    · (exact M.Mine.mono (M.Mine.keep HM2.out (fun b hb1 hb2 => by (try simp at hb1); simp (disch := (first | omega | (simp; omega))) only [heapSet, heapNew, heapDrew, heapDrewN])) (by first | omega | (simp; done) | (simp; omega)))
    · exact HC2.out.belowB (B := w.heap.size) (by (repeat (first | with_reducible assumption | with_reducible exact Below.refl _ _ | with_reducible refine Below.drew ?_ | with_reducible refine belowDrewN ?_ _ | ((with_reducible refine Below.setCell ?_ ?_ _); rotate_left; focus (first | omega | (simp; done) | (simp; omega))) | ((with_reducible refine Below.alloc ?_ ?_ _); rotate_left; focus (first | omega | (simp; done) | (simp; omega)))))) hpl
    · exact HO02.out.thenBelow (by (repeat (first | with_reducible assumption | with_reducible exact Below.refl _ _ | with_reducible refine Below.drew ?_ | with_reducible refine belowDrewN ?_ _ | ((with_reducible refine Below.setCell ?_ ?_ _); rotate_left; focus (first | omega | (simp; done) | (simp; omega))) | ((with_reducible refine Below.alloc ?_ ?_ _); rotate_left; focus (first | omega | (simp; done) | (simp; omega))))))
  · have hx : x = 0 ∨ x = 1 ∨ x = 2 ∨ x = 3 ∨ x = 4 := by omega
    clear hx0 hx1 h5
    rcases hx with rfl | rfl | rfl | rfl | rfl
    · have HCT := Lib.hid hct; clear hct
      go_wp2_with fail
      refine (l01Int_lit _ _ pb a cap l _ HC2.out ?size (by decide) (by decide) ?nums).mono ?_
      case size => rfl
      case nums => exact Nums.of (by rfl)
      rintro e w3 ⟨y, rfl, hy, hc3, ho3⟩
      have hz3 := ho3.size
      obtain ⟨r0, r1, r2, r3, g0, g1, g2, g3⟩ := HZ0.out.only ho3 (.inr (by omega))
      obtain ⟨q0, q1, q2, q3, f0, f1, f2, f3⟩ := HBX.out.only ho3 (.inr (by omega))
      have hm3 := HM2.out.keep (w' := w3) (fun b h1 h2 => ho3.block b h2 (.inr (by omega)))
      have ho03 := HO02.out.trans ho3
      have hw3 : (Dat.mk k1 y s1 ds1).wf1 := ⟨HW1.out.1, hy, HW1.out.2.2⟩
      have HY := Lib.hid hy; clear hy
      have HC3 := Lib.hid hc3; clear hc3; have HO3 := Lib.hid ho3; clear ho3; have HM3 := Lib.hid hm3; clear hm3; have HO03 := Lib.hid ho03; clear ho03; have HW3 := Lib.hid hw3; clear hw3
      go_wp2_with fail
      refine bodyPost_ret (v := .agg #[.int .i64 k1, .int .i64 y, .string s1, .slice a1 ms1.length cap1]) (by simp [results, Try.results63, go_sem, r0, r1, r2, r3]) rfl ?_
      refine ⟨k1, y, s1, ds1, a1, cap1, ms1, rfl, HI1.out, ?_, HW3.out, by have := HCT.out; omega, ?_, ?_⟩
      · exact M.Mine.mono ⟨M.Own.frame _ HM3.out.own fun b hb => by have h1_ := HLT.out b hb; have h2_ := HM3.out.lt b hb; simp (disch := (first | omega | (simp; omega))) only [heapSet], HM3.out.dup⟩ (by omega)
      · exact HC3.out.belowB (B := w.heap.size) (by (repeat (first | with_reducible assumption | with_reducible exact Below.refl _ _ | with_reducible refine Below.drew ?_ | with_reducible refine belowDrewN ?_ _ | ((with_reducible refine Below.setCell ?_ ?_ _); rotate_left; focus (first | omega | (simp; done) | (simp; omega))) | ((with_reducible refine Below.alloc ?_ ?_ _); rotate_left; focus (first | omega | (simp; done) | (simp; omega)))))) hpl
      · exact HO03.out.thenBelow (by (repeat (first | with_reducible assumption | with_reducible exact Below.refl _ _ | with_reducible refine Below.drew ?_ | with_reducible refine belowDrewN ?_ _ | ((with_reducible refine Below.setCell ?_ ?_ _); rotate_left; focus (first | omega | (simp; done) | (simp; omega))) | ((with_reducible refine Below.alloc ?_ ?_ _); rotate_left; focus (first | omega | (simp; done) | (simp; omega))))))
    · have HCT := Lib.hid hct; clear hct
      go_wp2_with fail
      refine (l01Pick_lit _ _ pb a cap l _ HC2.out ?size (by decide) (by decide) ?texts).mono ?_
      case size => rfl
      case texts => exact Texts.of (by rfl)
      rintro e w3 ⟨y, rfl, hy, hc3, ho3⟩
      have hz3 := ho3.size
      obtain ⟨r0, r1, r2, r3, g0, g1, g2, g3⟩ := HZ0.out.only ho3 (.inr (by omega))
      obtain ⟨q0, q1, q2, q3, f0, f1, f2, f3⟩ := HBX.out.only ho3 (.inr (by omega))
      have hm3 := HM2.out.keep (w' := w3) (fun b h1 h2 => ho3.block b h2 (.inr (by omega)))
      have ho03 := HO02.out.trans ho3
      have hw3 : (Dat.mk k1 n1 y ds1).wf1 := ⟨HW1.out.1, HW1.out.2.1, by omega, HW1.out.2.2.2⟩
      have HY := Lib.hid hy; clear hy
      have HC3 := Lib.hid hc3; clear hc3; have HO3 := Lib.hid ho3; clear ho3; have HM3 := Lib.hid hm3; clear hm3; have HO03 := Lib.hid ho03; clear ho03; have HW3 := Lib.hid hw3; clear hw3
      go_wp2_with fail
      refine bodyPost_ret (v := .agg #[.int .i64 k1, .int .i64 n1, .string y, .slice a1 ms1.length cap1]) (by simp [results, Try.results63, go_sem, r0, r1, r2, r3]) rfl ?_
      refine ⟨k1, n1, y, ds1, a1, cap1, ms1, rfl, HI1.out, ?_, HW3.out, by have := HCT.out; omega, ?_, ?_⟩
      · exact M.Mine.mono ⟨M.Own.frame _ HM3.out.own fun b hb => by have h1_ := HLT.out b hb; have h2_ := HM3.out.lt b hb; simp (disch := (first | omega | (simp; omega))) only [heapSet], HM3.out.dup⟩ (by omega)
      · exact HC3.out.belowB (B := w.heap.size) (by (repeat (first | with_reducible assumption | with_reducible exact Below.refl _ _ | with_reducible refine Below.drew ?_ | with_reducible refine belowDrewN ?_ _ | ((with_reducible refine Below.setCell ?_ ?_ _); rotate_left; focus (first | omega | (simp; done) | (simp; omega))) | ((with_reducible refine Below.alloc ?_ ?_ _); rotate_left; focus (first | omega | (simp; done) | (simp; omega)))))) hpl
      · exact HO03.out.thenBelow (by (repeat (first | with_reducible assumption | with_reducible exact Below.refl _ _ | with_reducible refine Below.drew ?_ | with_reducible refine belowDrewN ?_ _ | ((with_reducible refine Below.setCell ?_ ?_ _); rotate_left; focus (first | omega | (simp; done) | (simp; omega))) | ((with_reducible refine Below.alloc ?_ ?_ _); rotate_left; focus (first | omega | (simp; done) | (simp; omega))))))
    · have HCT := Lib.hid hct; clear hct
      go_wp2_with fail
      refine (l01Below_calls 7 pb a cap l _ HC2.out (by decide) (by decide)).mono ?_
      rintro e w3 ⟨y, rfl, hy0, hy1, hc3, ho3⟩
      have hwr : wrap64 (y - 1) = y - 1 := by unfold wrap64; omega
      have hz3 := ho3.size
      obtain ⟨r0, r1, r2, r3, g0, g1, g2, g3⟩ := HZ0.out.only ho3 (.inr (by omega))
      obtain ⟨q0, q1, q2, q3, f0, f1, f2, f3⟩ := HBX.out.only ho3 (.inr (by omega))
      have hm3 := HM2.out.keep (w' := w3) (fun b h1 h2 => ho3.block b h2 (.inr (by omega)))
      have ho03 := HO02.out.trans ho3
      have hw3 : (Dat.mk (y - 1) n1 s1 ds1).wf1 := ⟨by unfold I64; omega, HW1.out.2.1, HW1.out.2.2⟩
      have HY0 := Lib.hid hy0; clear hy0; have HY1 := Lib.hid hy1; clear hy1
      have HC3 := Lib.hid hc3; clear hc3; have HO3 := Lib.hid ho3; clear ho3; have HM3 := Lib.hid hm3; clear hm3; have HO03 := Lib.hid ho03; clear ho03; have HW3 := Lib.hid hw3; clear hw3
      go_wp2_with fail
      refine bodyPost_ret (v := .agg #[.int .i64 (y - 1), .int .i64 n1, .string s1, .slice a1 ms1.length cap1]) (by simp [results, Try.results63, go_sem, r0, r1, r2, r3]) rfl ?_
      refine ⟨(y - 1), n1, s1, ds1, a1, cap1, ms1, rfl, HI1.out, ?_, HW3.out, by have := HCT.out; omega, ?_, ?_⟩
      · exact M.Mine.mono ⟨M.Own.frame _ HM3.out.own fun b hb => by have h1_ := HLT.out b hb; have h2_ := HM3.out.lt b hb; simp (disch := (first | omega | (simp; omega))) only [heapSet], HM3.out.dup⟩ (by omega)
      · exact HC3.out.belowB (B := w.heap.size) (by (repeat (first | with_reducible assumption | with_reducible exact Below.refl _ _ | with_reducible refine Below.drew ?_ | with_reducible refine belowDrewN ?_ _ | ((with_reducible refine Below.setCell ?_ ?_ _); rotate_left; focus (first | omega | (simp; done) | (simp; omega))) | ((with_reducible refine Below.alloc ?_ ?_ _); rotate_left; focus (first | omega | (simp; done) | (simp; omega)))))) hpl
      · exact HO03.out.thenBelow (by (repeat (first | with_reducible assumption | with_reducible exact Below.refl _ _ | with_reducible refine Below.drew ?_ | with_reducible refine belowDrewN ?_ _ | ((with_reducible refine Below.setCell ?_ ?_ _); rotate_left; focus (first | omega | (simp; done) | (simp; omega))) | ((with_reducible refine Below.alloc ?_ ?_ _); rotate_left; focus (first | omega | (simp; done) | (simp; omega))))))
    · obtain ⟨q0, q1, q2, q3, f0, f1, f2, f3⟩ := HBX.out
      have hlm : ms1.length ≤ 400 := by have h1 := HI1.out.length; have h2 := Dat.length_le ds1; omega
      have hno : w1.heap.size ∉ addrBlocks a1 := fun hx => by have := HLT.out w1.heap.size (by simp only [M.blocks, List.mem_append]; exact .inl hx); omega
      have HCT := Lib.hid hct; clear hct; have HNO := Lib.hid hno; clear hno
      go_wp2_with (at_builtin; refine wpList_push2 (wr := w2) rfl _ _ 50 rfl 52 _ 4 56 Try.underlying50 infoDat rfl (by decide) (w.heap.size + 1) a1 cap1 ms1 rfl HM2.out (by omega) (by (repeat (first | with_reducible assumption | with_reducible exact Below.refl _ _ | with_reducible refine Below.drew ?_ | with_reducible refine belowDrewN ?_ _ | ((with_reducible refine Below.setCell ?_ ?_ _); rotate_left; focus (first | omega | (simp; done) | (simp; omega))) | ((with_reducible refine Below.alloc ?_ ?_ _); rotate_left; focus (first | omega | (simp; done) | (simp; omega)))))) _ (M.ag [.c (.int .i64 9), .c (.int .i64 0), .c (.string ⟨#[]⟩), .sl none 0 4 52 []]) rfl rfl w2.heap.size ⟨⟨rfl, rfl, rfl, (M.Mine.nil w2 _ 4 52 (by decide)).own, trivial⟩, by simp [M.blocks, M.blocksL, addrBlocks]⟩ (Nat.le_refl _) (by simp [go_sem]) (by unfold maxLen; omega) (by omega) ?_)
      intro a3 cap3 w3 hm3 hb3 hz3 hk3 hl3
      have hp3 : w1.heap.size < w3.heap.size := by omega
      obtain ⟨s0, s1', s2, s3, m0, m1, m2, m3⟩ : DBox w1.heap.size k1 n1 s1 (.slice a1 ms1.length cap1) w3 := HBX.out.of (hk3 _ (by omega) HNO.out)
      obtain ⟨r0, r1, r2, r3, g0, g1, g2, g3⟩ : Zero w.heap.size w3 := HZ0.out.of (hb3.block _ (by omega))
      have hlt3 : ∀ b ∈ (M.sl a3 cap3 4 52 (ms1 ++ [(M.ag [.c (.int .i64 9), .c (.int .i64 0), .c (.string ⟨#[]⟩), .sl none 0 4 52 []])])).blocks, b ≠ w1.heap.size := by
        intro b hb
        simp only [M.blocks, List.mem_append] at hb
        rcases hb with hb | hb
        · rcases hl3 b hb with h | h
          · intro he; subst he; exact HNO.out h
          · omega
        · rw [M.blocksL_append, List.mem_append] at hb
          rcases hb with hb | hb
          · have := HLT.out b (by simp only [M.blocks, List.mem_append]; exact .inr hb); omega
          · simp [M.blocksL, M.blocks, addrBlocks] at hb
      have hi3 : Dat.IsL 52 (ds1 ++ [.mk 9 0 ⟨#[]⟩ []]) (ms1 ++ [(M.ag [.c (.int .i64 9), .c (.int .i64 0), .c (.string ⟨#[]⟩), .sl none 0 4 52 []])]) := HI1.out.snoc ⟨none, 0, [], rfl, rfl⟩
      have hw3 : (Dat.mk k1 n1 s1 (ds1 ++ [.mk 9 0 ⟨#[]⟩ []])).wf1 := ⟨HW1.out.1, HW1.out.2.1, HW1.out.2.2.1, wf1L_snoc HW1.out.2.2.2 ⟨by unfold I64; omega, by unfold I64; omega, by show (0 : Nat) ≤ _; omega, trivial⟩⟩
      have hct3 : 1 + Dat.countL (ds1 ++ [.mk 9 0 ⟨#[]⟩ []]) ≤ 400 := by have := HCT.out; rw [countL_snocD]; simp [Dat.count, Dat.countL]; omega
      have hml3 : (ms1 ++ [(M.ag [.c (.int .i64 9), .c (.int .i64 0), .c (.string ⟨#[]⟩), .sl none 0 4 52 []])]).length = ms1.length + 1 := by simp
      have hb23 : Below w.heap.size w2 w3 := hb3.mono (by omega)
      clear q0 q1 q2 q3 f0 f1 f2 f3 hk3 hl3
      have HM3 := Lib.hid hm3; clear hm3; have HLT3 := Lib.hid hlt3; clear hlt3; have HI3 := Lib.hid hi3; clear hi3; have HW3 := Lib.hid hw3; clear hw3; have HCT3 := Lib.hid hct3; clear hct3; have HML3 := Lib.hid hml3; clear hml3
      go_wp2_with fail
      refine bodyPost_ret (v := .agg #[.int .i64 k1, .int .i64 n1, .string s1, .slice a3 (ms1.length + 1) cap3]) (by simp [results, Try.results63, go_sem, r0, r1, r2, r3]) rfl ?_
      refine ⟨k1, n1, s1, _, a3, cap3, _, by rw [HML3.out], HI3.out, ?_, HW3.out, HCT3.out, ?_, ?_⟩
      · exact M.Mine.mono ⟨M.Own.frame _ HM3.out.own fun b hb => by have h1_ := HLT3.out b hb; have h2_ := HM3.out.lt b hb; simp (disch := (first | omega | (simp; omega))) only [heapSet], HM3.out.dup⟩ (by omega)
      · exact HC2.out.belowB (B := w.heap.size) (by (repeat (first | with_reducible assumption | with_reducible exact Below.refl _ _ | with_reducible refine Below.drew ?_ | with_reducible refine belowDrewN ?_ _ | ((with_reducible refine Below.setCell ?_ ?_ _); rotate_left; focus (first | omega | (simp; done) | (simp; omega))) | ((with_reducible refine Below.alloc ?_ ?_ _); rotate_left; focus (first | omega | (simp; done) | (simp; omega))) | ((with_reducible refine Below.trans ?_ (Below.mono hb23 ?_)); rotate_left; focus (first | omega | (simp; done) | (simp; omega)))))) hpl
      · exact HO02.out.thenBelow (by (repeat (first | with_reducible assumption | with_reducible exact Below.refl _ _ | with_reducible refine Below.drew ?_ | with_reducible refine belowDrewN ?_ _ | ((with_reducible refine Below.setCell ?_ ?_ _); rotate_left; focus (first | omega | (simp; done) | (simp; omega))) | ((with_reducible refine Below.alloc ?_ ?_ _); rotate_left; focus (first | omega | (simp; done) | (simp; omega))) | ((with_reducible refine Below.trans ?_ (Below.mono hb23 ?_)); rotate_left; focus (first | omega | (simp; done) | (simp; omega))))))
    · have HCT := Lib.hid hct; clear hct
      go_wp2_with fail
      go_loopw [4] (fun i wr => ∃ (j : Nat) (k n : Int) (s : ByteArray) (ds : List Dat) (a' : Option Addr) (cap' : Nat) (ms' : List M), j ≤ 21 ∧ i = .int .i64 j ∧ DBox w1.heap.size k n s (.slice a' ms'.length cap') wr ∧ Zero w.heap.size wr ∧ Dat.IsL 52 ds ms' ∧ (M.sl a' cap' 4 52 ms').Mine wr (w.heap.size + 1) ∧ (∀ b ∈ (M.sl a' cap' 4 52 ms').blocks, b ≠ w1.heap.size) ∧ (Dat.mk k n s ds).wf1 ∧ 1 + Dat.countL ds ≤ 341 + j ∧ Below w.heap.size w2 wr) (fun i _ => 21 - (intOf i).toNat)
      case atStart => exact ⟨0, k1, n1, s1, ds1, a1, cap1, ms1, by omega, rfl, HBX.out, HZ0.out, HI1.out, HM2.out, fun b hb => by have := HLT.out b hb; omega, HW1.out, by have := HCT.out; omega, Below.refl _ _⟩
      case round =>
        obtain ⟨j, k, n, s, ds, a', cap', ms', hj, rfl, hbx, hz, hi, hm, hnb, hwf, hct', hb⟩ := hrel
        have hzr := hb.size
        have p3 := hbx.lt
        have hbx0 := hbx
        have hz0 := hz
        have hcapm := hm.in_.len
        obtain ⟨q0, q1, q2, q3, f0, f1, f2, f3⟩ := hbx
        obtain ⟨r0, r1, r2, r3, g0, g1, g2, g3⟩ := hz
        by_cases hlt21 : j < 21
        · have HI := Lib.hid hi; clear hi; have HM := Lib.hid hm; clear hm; have HNB := Lib.hid hnb; clear hnb; have HWF := Lib.hid hwf; clear hwf; have HCT' := Lib.hid hct'; clear hct'; have HBX0 := Lib.hid hbx0; clear hbx0; have HZ0 := Lib.hid hz0; clear hz0
          go_wp2_with fail
          go_roundw
          case rel =>
            refine ⟨j + 1, 0, 0, ⟨#[]⟩, [.mk k n s ds], some ⟨wr.heap.size, 0, none⟩, 1, [.ag [.c (.int .i64 k), .c (.int .i64 n), .c (.string s), .sl a' cap' 4 52 ms']], by omega, by go_num, ?_, ?_, ⟨_, [], rfl, ⟨a', cap', ms', rfl, HI.out⟩, rfl⟩, ?_, ?_, ?_, ?_, ?_⟩
            · refine DBox.of (w := (((wr.setCell ⟨w1.heap.size, 0, none⟩ (.int .i64 0)).setCell ⟨w1.heap.size, 1, none⟩ (.int .i64 0)).setCell ⟨w1.heap.size, 2, none⟩ (.string ⟨#[]⟩)).setCell ⟨w1.heap.size, 3, none⟩ (.slice (some ⟨wr.heap.size, 0, none⟩) 1 1)) ((((HBX0.out.set0 0).set1 0).set2 ⟨#[]⟩).set3 _) ?_
              simp (disch := (first | omega | (simp; done) | (simp; omega))) only [heapNew]
            · refine HZ0.out.of ?_
              have := HZ0.out.lt
              simp (disch := (first | omega | (simp; done) | (simp; omega))) only [heapSet, heapNew]
            · have hmw : (M.sl a' cap' 4 52 ms').Mine ((((wr.setCell ⟨w1.heap.size, 0, none⟩ (.int .i64 0)).setCell ⟨w1.heap.size, 1, none⟩ (.int .i64 0)).setCell ⟨w1.heap.size, 2, none⟩ (.string ⟨#[]⟩)).setCell ⟨w1.heap.size, 3, none⟩ (.slice (some ⟨wr.heap.size, 0, none⟩) 1 1)) (w.heap.size + 1) :=
                ⟨M.Own.frame _ HM.out.own fun b hb' => by have h1_ := HNB.out b hb'; simp (disch := (first | omega | (simp; omega))) only [heapSet], HM.out.dup⟩
              have hN := M.Mine.new (w := ((((wr.setCell ⟨w1.heap.size, 0, none⟩ (.int .i64 0)).setCell ⟨w1.heap.size, 1, none⟩ (.int .i64 0)).setCell ⟨w1.heap.size, 2, none⟩ (.string ⟨#[]⟩)).setCell ⟨w1.heap.size, 3, none⟩ (.slice (some ⟨wr.heap.size, 0, none⟩) 1 1))) (lo := w.heap.size + 1) (sz := 4) (n := 1) (e := 52) (cs := #[.int .i64 k, .int .i64 n, .string s, .slice a' ms'.length cap']) (xs := [.ag [.c (.int .i64 k), .c (.int .i64 n), .c (.string s), .sl a' cap' 4 52 ms']]) rfl (by simp; omega) rfl (by decide) (by intro x hx; simp at hx; subst hx; rfl) (by decide) (MineL_one hmw k n s)
              simpa using hN
            · intro b hb'
              simp only [M.blocks, M.blocksL, List.mem_append, List.append_nil, List.nil_append] at hb'
              rcases hb' with hb' | hb'
              · simp [addrBlocks] at hb'; omega
              · exact HNB.out b (by simp only [M.blocks, List.mem_append]; exact hb')
            · exact ⟨by unfold I64; omega, by unfold I64; omega, by show (0 : Nat) ≤ _; omega, HWF.out, trivial⟩
            · have := HCT'.out; simp only [Dat.countL, Dat.count]; omega
            · (repeat (first | with_reducible assumption | with_reducible exact Below.refl _ _ | with_reducible refine Below.drew ?_ | with_reducible refine belowDrewN ?_ _ | ((with_reducible refine Below.setCell ?_ ?_ _); rotate_left; focus (first | omega | (simp; done) | (simp; omega))) | ((with_reducible refine Below.alloc ?_ ?_ _); rotate_left; focus (first | omega | (simp; done) | (simp; omega))) | ((with_reducible refine Below.trans ?_ (Below.mono hb ?_)); rotate_left; focus (first | omega | (simp; done) | (simp; omega)))))
          case measure => simp [intOf]; omega
        · have hj21 : j = 21 := by omega
          subst hj21
          have HI := Lib.hid hi; clear hi; have HM := Lib.hid hm; clear hm; have HNB := Lib.hid hnb; clear hnb; have HWF := Lib.hid hwf; clear hwf; have HCT' := Lib.hid hct'; clear hct'; have HBX0 := Lib.hid hbx0; clear hbx0; have HZ0 := Lib.hid hz0; clear hz0
          go_wp2_with fail
          refine bodyPost_ret (v := .agg #[.int .i64 k, .int .i64 n, .string s, .slice a' ms'.length cap']) (by simp [results, Try.results63, go_sem, r0, r1, r2, r3]) rfl ?_
          refine ⟨k, n, s, ds, a', cap', ms', rfl, HI.out, ?_, HWF.out, by have := HCT'.out; omega, ?_, ?_⟩
          · exact M.Mine.mono ⟨M.Own.frame _ HM.out.own fun b hb' => by have h1_ := HNB.out b hb'; have h2_ := HM.out.lt b hb'; simp (disch := (first | omega | (simp; omega))) only [heapSet], HM.out.dup⟩ (by omega)
          · exact HC2.out.belowB (B := w.heap.size) (by (repeat (first | with_reducible assumption | with_reducible exact Below.refl _ _ | with_reducible refine Below.drew ?_ | with_reducible refine belowDrewN ?_ _ | ((with_reducible refine Below.setCell ?_ ?_ _); rotate_left; focus (first | omega | (simp; done) | (simp; omega))) | ((with_reducible refine Below.alloc ?_ ?_ _); rotate_left; focus (first | omega | (simp; done) | (simp; omega))) | ((with_reducible refine Below.trans ?_ (Below.mono hb ?_)); rotate_left; focus (first | omega | (simp; done) | (simp; omega)))))) hpl
          · exact HO02.out.thenBelow (by (repeat (first | with_reducible assumption | with_reducible exact Below.refl _ _ | with_reducible refine Below.drew ?_ | with_reducible refine belowDrewN ?_ _ | ((with_reducible refine Below.setCell ?_ ?_ _); rotate_left; focus (first | omega | (simp; done) | (simp; omega))) | ((with_reducible refine Below.alloc ?_ ?_ _); rotate_left; focus (first | omega | (simp; done) | (simp; omega))) | ((with_reducible refine Below.trans ?_ (Below.mono hb ?_)); rotate_left; focus (first | omega | (simp; done) | (simp; omega))))))
end Go.Proofs.Ytghbnehocggnnaa

/-
  Walks: the law's comparison of syntax that is one. No condition.
-/
set_option linter.unusedVariables false
set_option linter.unusedSimpArgs false
set_option maxRecDepth 100000
namespace Go.Proofs.Ytghbnehocggnnaa
open Go.RowKit

end Go.Proofs.Ytghbnehocggnnaa

/-
  Walks: marking syntax. No condition.
-/
set_option linter.unusedVariables false
set_option linter.unusedSimpArgs false
set_option maxRecDepth 100000
namespace Go.Proofs.Ytghbnehocggnnaa
open Go.RowKit

mutual
/-- how many places of a piece of syntax are numbered -/
def Syn.places : Syn → Nat
  | .mk _ _ _ x es => 3 + x.length + Syn.placesL es
def Syn.placesL : List Syn → Nat
  | [] => 0
  | d :: r => d.places + Syn.placesL r
end
theorem Syn.placesL_append (xs ys : List Syn) : Syn.placesL (xs ++ ys) = Syn.placesL xs + Syn.placesL ys := by
  induction xs with
  | nil => simp [Syn.placesL]
  | cons x r ih => simp only [List.cons_append, Syn.placesL, ih]; omega
theorem Syn.placesL_le (ds : List Syn) (k : Nat) (d : Syn) (h : ds[k]? = some d) : Syn.placesL (ds.take (k+1)) = Syn.placesL (ds.take k) + d.places ∧ Syn.placesL (ds.take k) + d.places ≤ Syn.placesL ds := by
  have h1 : Syn.placesL (ds.take (k+1)) = Syn.placesL (ds.take k) + d.places := by rw [take_snoc h, Syn.placesL_append]; simp [Syn.placesL]
  refine ⟨h1, ?_⟩
  rw [← h1]
  conv => rhs; rw [← List.take_append_drop (k+1) ds, Syn.placesL_append]
  omega
theorem Syn.placesL_wt (ds : List Syn) : Syn.placesL ds ≤ 3 * (ds.length + Syn.wtX ds) := by
  refine Syn.inductL (P := fun ds => Syn.placesL ds ≤ 3 * (ds.length + Syn.wtX ds)) (fun ds ih => ?_) ds
  induction ds with
  | nil => simp [Syn.placesL]
  | cons d r ihr =>
    obtain ⟨k, n, s, x, es⟩ := d
    have h1 := ih k n s x es (List.mem_cons_self ..)
    have h2 := ihr fun k n s x es hm => ih k n s x es (List.mem_cons_of_mem _ hm)
    simp only [Syn.placesL, Syn.places, Syn.wtX, Syn.wt, List.length_cons] at *
    omega
mutual
/-- A piece of syntax whose places have been numbered from k on. -/
def Syn.mark (k : Int) : Syn → Syn
  | .mk _ _ _ x es => .mk k (k + 1) (mtx (k + 2)) (cnt (k + 3) x.length) (Syn.markL (k + 3 + (x.length : Int)) es)
def Syn.markL (k : Int) : List Syn → List Syn
  | [] => []
  | d :: r => d.mark k :: Syn.markL (k + (d.places : Int)) r
end
theorem Syn.markL_append (xs ys : List Syn) : ∀ k, Syn.markL k (xs ++ ys) = Syn.markL k xs ++ Syn.markL (k + (Syn.placesL xs : Int)) ys := by
  induction xs with
  | nil => intro k; simp [Syn.markL, Syn.placesL]
  | cons x r ih =>
    intro k
    simp only [List.cons_append, Syn.markL, Syn.placesL, ih]
    congr 3
    push_cast; omega
theorem Syn.markL_length (ds : List Syn) : ∀ k, (Syn.markL k ds).length = ds.length := by
  induction ds with
  | nil => intro k; rfl
  | cons x r ih => intro k; simp [Syn.markL, ih]
theorem Syn.markL_take {ds : List Syn} {j : Nat} {d : Syn} (h : ds[j]? = some d) (k : Int) : Syn.markL k (ds.take (j + 1)) = Syn.markL k (ds.take j) ++ [d.mark (k + (Syn.placesL (ds.take j) : Int))] := by
  rw [take_snoc h, Syn.markL_append]; rfl
theorem Syn.mark_set {ds : List Syn} {j : Nat} {d : Syn} (h : ds[j]? = some d) (k : Int) :
    (Syn.markL k (ds.take j) ++ ds.drop j).set j (d.mark (k + (Syn.placesL (ds.take j) : Int))) = Syn.markL k (ds.take (j + 1)) ++ ds.drop (j + 1) := by
  obtain ⟨hj, rfl⟩ := List.getElem?_eq_some_iff.1 h
  have hl : (Syn.markL k (ds.take j)).length = j := by rw [Syn.markL_length]; simp; omega
  rw [List.set_append, hl, if_neg (by omega), Nat.sub_self, List.drop_eq_getElem_cons hj, List.set_cons_zero, Syn.markL_take h k]
  simp
theorem Syn.mark_at {ds : List Syn} {j : Nat} (k : Int) (hj : j < ds.length) : (Syn.markL k (ds.take j) ++ ds.drop j)[j]? = ds[j]? := by
  have hl : (Syn.markL k (ds.take j)).length = j := by rw [Syn.markL_length]; simp; omega
  rw [List.getElem?_append_right (by omega), hl, Nat.sub_self, List.getElem?_drop]; simp
theorem Syn.markL_get {ds : List Syn} {j : Nat} {d : Syn} (h : ds[j]? = some d) (k : Int) : (Syn.markL k ds)[j]? = some (d.mark (k + (Syn.placesL (ds.take j) : Int))) := by
  obtain ⟨hj, rfl⟩ := List.getElem?_eq_some_iff.1 h
  conv => lhs; rw [← List.take_append_drop j ds, List.drop_eq_getElem_cons hj, Syn.markL_append]
  have hl : (Syn.markL k (ds.take j)).length = j := by rw [Syn.markL_length]; simp; omega
  rw [List.getElem?_append_right (by omega), hl, Nat.sub_self]; rfl

end Go.Proofs.Ytghbnehocggnnaa

/-
  Walks: the syntax of a datum. No condition. (printed by wip/tools/mkt1.py)
-/
set_option linter.unusedVariables false
set_option linter.unusedSimpArgs false
set_option maxRecDepth 100000
namespace Go.Proofs.Ytghbnehocggnnaa
open Go.RowKit

mutual
def synOf : Dat → Syn
  | .mk k n s ds => .mk k n s [] (synOfL ds)
def synOfL : List Dat → List Syn
  | [] => []
  | d :: r => synOf d :: synOfL r
end
theorem synOfL_append : ∀ (ds es : List Dat), synOfL (ds ++ es) = synOfL ds ++ synOfL es
  | [], es => by simp [synOfL]
  | d :: r, es => by simp only [List.cons_append, synOfL]; rw [synOfL_append r es]
theorem synOfL_take {ds : List Dat} {j : Nat} {k n : Int} {s : ByteArray} {es : List Dat} (h : ds[j]? = some (.mk k n s es)) : synOfL (ds.take (j + 1)) = synOfL (ds.take j) ++ [.mk k n s [] (synOfL es)] := by
  rw [take_snoc h, synOfL_append]; simp [synOfL, synOf]
theorem synOfL_places (ds : List Dat) : Syn.placesL (synOfL ds) = 3 * Dat.countL ds := by
  refine Dat.inductL (P := fun ds => Syn.placesL (synOfL ds) = 3 * Dat.countL ds) (fun ds ih => ?_) ds
  induction ds with
  | nil => simp [Syn.placesL, synOfL, Dat.countL]
  | cons d r ihr =>
    obtain ⟨k, n, s, es⟩ := d
    have h1 := ih k n s es (List.mem_cons_self ..)
    have h2 := ihr fun k n s es hm => ih k n s es (List.mem_cons_of_mem _ hm)
    simp only [Syn.placesL, Syn.places, synOfL, synOf, Dat.countL, Dat.count, List.length_nil] at *
    omega
/-- what SyntaxOf hands back -/
noncomputable def synG (k n : Int) (s : ByteArray) (ds : List Dat) : Syn := if isDatB k n s ds = true then .mk k n s [] (synOfL ds) else .mk 0 0 ⟨#[]⟩ [] []
theorem synG_yes {k n : Int} {s : ByteArray} {ds : List Dat} (h : isDatB k n s ds = true) : synG k n s ds = .mk k n s [] (synOfL ds) := by simp [synG, h]
theorem synG_no {k n : Int} {s : ByteArray} {ds : List Dat} (h : isDatB k n s ds = false) : synG k n s ds = .mk 0 0 ⟨#[]⟩ [] [] := by simp [synG, h]
theorem synG_x (k n : Int) (s : ByteArray) (ds : List Dat) : (synG k n s ds).x.length = 0 := by unfold synG; split <;> rfl
theorem synG_places (k n : Int) (s : ByteArray) (ds : List Dat) : Syn.placesL (synG k n s ds).ds ≤ 3 * Dat.countL ds := by
  unfold synG; split
  · simp only [Syn.ds_mk]; rw [synOfL_places]; omega
  · simp [Syn.placesL]
def sOfDs (ds : List Dat) : Prop := ∀ (k n : Int) (s : ByteArray) (a : Option Addr) (cap : Nat) (ms : List M) (w : World), Dat.countL ds ≤ 1000000000 → Dat.IsL 52 ds ms → (M.sl a cap 4 52 ms).In w →
    Calls Try.prog 92 #[.agg #[.int .i64 k, .int .i64 n, .string s, .slice a ms.length cap]] w (RetSyn 27 (.mk k n s [] (synOfL ds)) w)
set_option maxHeartbeats 2000000 in
theorem l2Of_calls : ∀ ds, sOfDs ds := by
  refine Dat.inductL fun ds ih => ?_
  intro k n s a cap ms w hB hi hin
  have hl := hi.length
  have hcap := hin.len
  have hdl := Dat.length_le ds
  have IH := Lib.hid ih; clear ih; have HIN := Lib.hid hin; clear hin; have HI := Lib.hid hi; clear hi; have HL := Lib.hid hl; clear hl
  go_enter Try.func92, Try.ntmps92
  go_wp2_with fail
  go_loopw [16] (fun i wr => ∃ (j : Nat) (a' : Option Addr) (cap' : Nat) (ms' : List M), j ≤ ms.length ∧ i = .int .i64 j ∧ ms'.length = j ∧ Syn.IsL 27 (synOfL (ds.take j)) ms' ∧ (M.sl a' cap' 5 27 ms').Mine wr (w.heap.size + 1 + 1 + 1) ∧
      SBox (w.heap.size + 1 + 1) k n s (.slice none 0 0) (.slice a' ms'.length cap') wr ∧ SBox (w.heap.size + 1) 0 0 ⟨#[]⟩ (.slice none 0 0) (.slice none 0 0) wr ∧ Below w.heap.size w wr ∧ w.heap.size + 1 + 1 + 1 ≤ wr.heap.size) (fun i _ => ms.length - (intOf i).toNat)
  case atStart => exact ⟨0, none, 0, [], Nat.zero_le _, rfl, rfl, by simp [synOfL, Syn.IsL], M.Mine.nil _ _ _ _ (by decide), by constructor <;> simp [go_sem], by constructor <;> simp [go_sem], by (repeat (first | with_reducible assumption | with_reducible exact Below.refl _ _ | with_reducible refine Below.drew ?_ | with_reducible refine belowDrewN ?_ _ | ((with_reducible refine Below.setCell ?_ ?_ _); rotate_left; focus (first | omega | (simp; done) | (simp; omega))) | ((with_reducible refine Below.alloc ?_ ?_ _); rotate_left; focus (first | omega | (simp; done) | (simp; omega))))), by simp⟩
  case round =>
    obtain ⟨j, a', cap', ms', hj, rfl, hj', hi', hm', hq, hr, hb, hsz⟩ := hrel
    obtain ⟨q0, q1, q2, q3, q4, e0, e1, e2, e3, e4⟩ := hq
    obtain ⟨r0, r1, r2, r3, r4, g0, g1, g2, g3, g4⟩ := hr
    have hq : SBox (w.heap.size + 1 + 1) k n s (.slice none 0 0) (.slice a' ms'.length cap') wr := ⟨q0, q1, q2, q3, q4, e0, e1, e2, e3, e4⟩
    have hr : SBox (w.heap.size + 1) 0 0 ⟨#[]⟩ (.slice none 0 0) (.slice none 0 0) wr := ⟨r0, r1, r2, r3, r4, g0, g1, g2, g3, g4⟩
    have p3 := hq.lt
    have p2 := hr.lt
    by_cases hlt : j < ms.length
    · obtain ⟨b, off, k1, n1, s1, ds1, a1, cap1, ms1, rfl, hd, hi1, hin1, c0, c1, c2, c3⟩ := Dat.elem (HIN.out.below hb) HI.out j hlt
      obtain ⟨ht, hle⟩ := Dat.countL_le ds j _ hd
      simp only [Dat.count] at hle
      clear ht
      have HD := Lib.hid hd; clear hd; have HI1 := Lib.hid hi1; clear hi1; have HIN1 := Lib.hid hin1; clear hin1; have HJ' := Lib.hid hj'; clear hj'; have HI' := Lib.hid hi'; clear hi'; have HM' := Lib.hid hm'; clear hm'
      have HQ := Lib.hid hq; clear hq
      have HR := Lib.hid hr; clear hr
      go_wp2_with fail
      go_region_law (first
        | (go_simp; go_at_call 92; refine (IH.out k1 n1 s1 ds1 (List.mem_of_getElem? HD.out) k1 n1 s1 a1 cap1 ms1 _ (by omega) HI1.out (HIN1.out.below (by (repeat (first | with_reducible assumption | with_reducible exact Below.refl _ _ | with_reducible refine Below.drew ?_ | with_reducible refine belowDrewN ?_ _ | ((with_reducible refine Below.setCell ?_ ?_ _); rotate_left; focus (first | omega | (simp; done) | (simp; omega))) | ((with_reducible refine Below.alloc ?_ ?_ _); rotate_left; focus (first | omega | (simp; done) | (simp; omega)))))))).mono ?_; rintro e w1 ⟨xa2, xc2, a2, cap2, ms2, rfl, hi2, hm2, hb2⟩; obtain ⟨hc2, hf2⟩ := bcell hb2; have hz2 := hb2.size; (try simp only [World.size_alloc, World.size_setCell, World.size_drew, sizeDrewN] at hz2 hc2 hf2); have q3c : w1.cell? ⟨w.heap.size + 1 + 1, 4, none⟩ = some (.slice a' ms'.length cap') := (by simp (disch := omega) [hc2, q4, go_sem]); have p3c : w.heap.size + 1 + 1 < w1.heap.size := (by omega); (try simp only [Syn.k_mk, Syn.n_mk, Syn.s_mk, Syn.x_mk, Syn.ds_mk, List.length_nil]))
        | (refine step_push (wr := wr) rfl _ _ 25 rfl 27 _ 5 80 Try.underlying25 infoSyn rfl (by decide) (w.heap.size + 1 + 1 + 1) a' cap' ms' rfl HM'.out hsz (by (repeat (first | with_reducible assumption | with_reducible exact Below.refl _ _ | with_reducible refine Below.drew ?_ | with_reducible refine belowDrewN ?_ _ | ((with_reducible refine Below.setCell ?_ ?_ _); rotate_left; focus (first | omega | (simp; done) | (simp; omega))) | ((with_reducible refine Below.alloc ?_ ?_ _); rotate_left; focus (first | omega | (simp; done) | (simp; omega))) | ((with_reducible refine Below.trans ?_ (Below.mono hb2 ?_)); rotate_left; focus (first | omega | (simp; done) | (simp; omega)))))) _ (.ag [.c (.int .i64 k1), .c (.int .i64 n1), .c (.string s1), .sl xa2 xc2 1 3 (intM []), .sl a2 cap2 5 27 ms2]) (by simp [M.cells, M.cellsL, intM_length]) rfl _ (SynOwn_el hm2 k1 n1 s1) (by simp) rfl (by have := HJ'.out; unfold maxLen; omega) (by have := HJ'.out; have := HL.out; omega) ?_; intro a3 cap3 w3 hm3 hb3 hz3 hfr3; have q3' : w3.cell? ⟨w.heap.size + 1 + 1, 4, none⟩ = some (.slice a' ms'.length cap') := (by rw [hb3.cell (by first | (simp; done) | (simp; omega))]; simp (disch := omega) [hc2, q4, go_sem]); have qf' : w3.frozen? ⟨w.heap.size + 1 + 1, 4, none⟩ = false := (by rw [hb3.frozen (by first | (simp; done) | (simp; omega))]; simp (disch := omega) [hf2, e4, go_sem])))
      all_goals
        have hbA : Below wr.heap.size wr w1 := by (repeat (first | with_reducible assumption | with_reducible exact Below.refl _ _ | with_reducible refine Below.drew ?_ | with_reducible refine belowDrewN ?_ _ | ((with_reducible refine Below.setCell ?_ ?_ _); rotate_left; focus (first | omega | (simp; done) | (simp; omega))) | ((with_reducible refine Below.alloc ?_ ?_ _); rotate_left; focus (first | omega | (simp; done) | (simp; omega))) | ((with_reducible refine Below.trans ?_ (Below.mono hb2 ?_)); rotate_left; focus (first | omega | (simp; done) | (simp; omega)))))
        have hq3 := (HQ.out.below hbA p3).below hb3 (by omega)
        have hr3 := (HR.out.below hbA p2).below hb3 (by omega)
        (try simp only [Syn.k_mk, Syn.n_mk, Syn.s_mk, Syn.x_mk, Syn.ds_mk] at hi2)
        have hfin : Syn.IsL 27 (synOfL (ds.take (j + 1))) (ms' ++ [.ag [.c (.int .i64 k1), .c (.int .i64 n1), .c (.string s1), .sl xa2 xc2 1 3 (intM []), .sl a2 cap2 5 27 ms2]]) := by
          rw [synOfL_take HD.out]; exact HI'.out.snoc ⟨_, _, _, _, _, rfl, hi2⟩
        have hjj := HJ'.out
        have HFIN := Lib.hid hfin; clear hfin; have HM3 := Lib.hid hm3; clear hm3; have HI2 := Lib.hid hi2; clear hi2; have HM2 := Lib.hid hm2; clear hm2; have HQ3 := Lib.hid hq3; clear hq3; have HR3 := Lib.hid hr3; clear hr3; have HBA := Lib.hid hbA; clear hbA
        go_wp2_with fail
        go_roundw
        case rel =>
          refine ⟨j + 1, a3, cap3, ms' ++ [.ag [.c (.int .i64 k1), .c (.int .i64 n1), .c (.string s1), .sl xa2 xc2 1 3 (intM []), .sl a2 cap2 5 27 ms2]], by omega, by go_num, by simp [hjj], HFIN.out, ?_, ?_, ?_, ?_, ?_⟩
          · exact M.Mine.keep HM3.out (fun b hb1 hb2 => by simp (disch := (first | omega | (simp; omega))) only [heapSet])
          · have := HQ3.out.set4 (.slice a3 (ms'.length + 1) cap3); simpa [hjj] using this
          · exact HR3.out.far _ (by first | (simp; done) | (simp; omega))
          · (repeat (first | with_reducible assumption | with_reducible exact Below.refl _ _ | with_reducible refine Below.drew ?_ | with_reducible refine belowDrewN ?_ _ | ((with_reducible refine Below.setCell ?_ ?_ _); rotate_left; focus (first | omega | (simp; done) | (simp; omega))) | ((with_reducible refine Below.alloc ?_ ?_ _); rotate_left; focus (first | omega | (simp; done) | (simp; omega))) | ((with_reducible refine Below.trans ?_ (Below.mono hb2 ?_)); rotate_left; focus (first | omega | (simp; done) | (simp; omega))) | ((with_reducible refine Below.trans ?_ (Below.mono hb3 ?_)); rotate_left; focus (first | omega | (simp; done) | (simp; omega)))))
          · simp; omega
        case measure => simp [intOf]; omega
    · have HJ' := Lib.hid hj'; clear hj'
      have HQ := Lib.hid hq; clear hq
      have HR := Lib.hid hr; clear hr
      go_wp2_with fail
      refine bodyPost_ret (v := .agg #[.int .i64 k, .int .i64 n, .string s, .slice none 0 0, .slice a' ms'.length cap']) (by simp [results, Try.results92, go_sem, q0, q1, q2, q3, q4, r0, r1, r2, r3, r4, HJ'.out]) rfl ?_
      have hk2 : j = ms.length := by omega
      subst hk2
      refine ⟨none, 0, a', cap', ms', rfl, ?_, ?_, ?_⟩
      · rw [HL.out, List.take_length] at hi'
        exact hi'
      · exact SynOwn_two (c := w.heap.size + 1 + 1 + 1) (M.Mine.nil _ _ _ _ (by decide)) (by (exact M.Mine.mono (M.Mine.keep hm' (fun b hb1 hb2 => by (try simp at hb1); simp (disch := (first | omega | (simp; omega))) only [heapSet, heapNew, heapDrew, heapDrewN])) (by first | omega | (simp; done) | (simp; omega)))) (by omega) (by simp [M.blocks, addrBlocks, intM, M.blocksL])
      · (repeat (first | with_reducible assumption | with_reducible exact Below.refl _ _ | with_reducible refine Below.drew ?_ | with_reducible refine belowDrewN ?_ _ | ((with_reducible refine Below.setCell ?_ ?_ _); rotate_left; focus (first | omega | (simp; done) | (simp; omega))) | ((with_reducible refine Below.alloc ?_ ?_ _); rotate_left; focus (first | omega | (simp; done) | (simp; omega))) | ((with_reducible refine Below.trans ?_ (Below.mono hb ?_)); rotate_left; focus (first | omega | (simp; done) | (simp; omega)))))
def iOfDs (ds : List Dat) : Prop := ∀ (k n : Int) (s : ByteArray) (a : Option Addr) (cap : Nat) (ms : List M) (w : World), Dat.countL ds ≤ 1000000000 → Dat.IsL 52 ds ms → (M.sl a cap 4 52 ms).In w →
    Calls Try.prog 72 #[.agg #[.int .i64 k, .int .i64 n, .string s, .slice a ms.length cap]] w (RetSyn 27 (.mk k n s [] (synOfL ds)) w)
set_option maxHeartbeats 2000000 in
theorem iToSyntax_calls : ∀ ds, iOfDs ds := by
  refine Dat.inductL fun ds ih => ?_
  intro k n s a cap ms w hB hi hin
  have hl := hi.length
  have hcap := hin.len
  have hdl := Dat.length_le ds
  have IH := Lib.hid ih; clear ih; have HIN := Lib.hid hin; clear hin; have HI := Lib.hid hi; clear hi; have HL := Lib.hid hl; clear hl
  go_enter Try.func72, Try.ntmps72
  go_wp2_with fail
  go_loopw [16] (fun i wr => ∃ (j : Nat) (a' : Option Addr) (cap' : Nat) (ms' : List M), j ≤ ms.length ∧ i = .int .i64 j ∧ ms'.length = j ∧ Syn.IsL 27 (synOfL (ds.take j)) ms' ∧ (M.sl a' cap' 5 27 ms').Mine wr (w.heap.size + 1 + 1 + 1) ∧
      SBox (w.heap.size + 1 + 1) k n s (.slice none 0 0) (.slice a' ms'.length cap') wr ∧ SBox (w.heap.size + 1) 0 0 ⟨#[]⟩ (.slice none 0 0) (.slice none 0 0) wr ∧ Below w.heap.size w wr ∧ w.heap.size + 1 + 1 + 1 ≤ wr.heap.size) (fun i _ => ms.length - (intOf i).toNat)
  case atStart => exact ⟨0, none, 0, [], Nat.zero_le _, rfl, rfl, by simp [synOfL, Syn.IsL], M.Mine.nil _ _ _ _ (by decide), by constructor <;> simp [go_sem], by constructor <;> simp [go_sem], by (repeat (first | with_reducible assumption | with_reducible exact Below.refl _ _ | with_reducible refine Below.drew ?_ | with_reducible refine belowDrewN ?_ _ | ((with_reducible refine Below.setCell ?_ ?_ _); rotate_left; focus (first | omega | (simp; done) | (simp; omega))) | ((with_reducible refine Below.alloc ?_ ?_ _); rotate_left; focus (first | omega | (simp; done) | (simp; omega))))), by simp⟩
  case round =>
    obtain ⟨j, a', cap', ms', hj, rfl, hj', hi', hm', hq, hr, hb, hsz⟩ := hrel
    obtain ⟨q0, q1, q2, q3, q4, e0, e1, e2, e3, e4⟩ := hq
    obtain ⟨r0, r1, r2, r3, r4, g0, g1, g2, g3, g4⟩ := hr
    have hq : SBox (w.heap.size + 1 + 1) k n s (.slice none 0 0) (.slice a' ms'.length cap') wr := ⟨q0, q1, q2, q3, q4, e0, e1, e2, e3, e4⟩
    have hr : SBox (w.heap.size + 1) 0 0 ⟨#[]⟩ (.slice none 0 0) (.slice none 0 0) wr := ⟨r0, r1, r2, r3, r4, g0, g1, g2, g3, g4⟩
    have p3 := hq.lt
    have p2 := hr.lt
    by_cases hlt : j < ms.length
    · obtain ⟨b, off, k1, n1, s1, ds1, a1, cap1, ms1, rfl, hd, hi1, hin1, c0, c1, c2, c3⟩ := Dat.elem (HIN.out.below hb) HI.out j hlt
      obtain ⟨ht, hle⟩ := Dat.countL_le ds j _ hd
      simp only [Dat.count] at hle
      clear ht
      have HD := Lib.hid hd; clear hd; have HI1 := Lib.hid hi1; clear hi1; have HIN1 := Lib.hid hin1; clear hin1; have HJ' := Lib.hid hj'; clear hj'; have HI' := Lib.hid hi'; clear hi'; have HM' := Lib.hid hm'; clear hm'
      have HQ := Lib.hid hq; clear hq
      have HR := Lib.hid hr; clear hr
      go_wp2_with fail
      go_region_law (first
        | (go_simp; go_at_call 72; refine (IH.out k1 n1 s1 ds1 (List.mem_of_getElem? HD.out) k1 n1 s1 a1 cap1 ms1 _ (by omega) HI1.out (HIN1.out.below (by (repeat (first | with_reducible assumption | with_reducible exact Below.refl _ _ | with_reducible refine Below.drew ?_ | with_reducible refine belowDrewN ?_ _ | ((with_reducible refine Below.setCell ?_ ?_ _); rotate_left; focus (first | omega | (simp; done) | (simp; omega))) | ((with_reducible refine Below.alloc ?_ ?_ _); rotate_left; focus (first | omega | (simp; done) | (simp; omega)))))))).mono ?_; rintro e w1 ⟨xa2, xc2, a2, cap2, ms2, rfl, hi2, hm2, hb2⟩; obtain ⟨hc2, hf2⟩ := bcell hb2; have hz2 := hb2.size; (try simp only [World.size_alloc, World.size_setCell, World.size_drew, sizeDrewN] at hz2 hc2 hf2); have q3c : w1.cell? ⟨w.heap.size + 1 + 1, 4, none⟩ = some (.slice a' ms'.length cap') := (by simp (disch := omega) [hc2, q4, go_sem]); have p3c : w.heap.size + 1 + 1 < w1.heap.size := (by omega); (try simp only [Syn.k_mk, Syn.n_mk, Syn.s_mk, Syn.x_mk, Syn.ds_mk, List.length_nil]))
        | (refine step_push (wr := wr) rfl _ _ 25 rfl 27 _ 5 80 Try.underlying25 infoSyn rfl (by decide) (w.heap.size + 1 + 1 + 1) a' cap' ms' rfl HM'.out hsz (by (repeat (first | with_reducible assumption | with_reducible exact Below.refl _ _ | with_reducible refine Below.drew ?_ | with_reducible refine belowDrewN ?_ _ | ((with_reducible refine Below.setCell ?_ ?_ _); rotate_left; focus (first | omega | (simp; done) | (simp; omega))) | ((with_reducible refine Below.alloc ?_ ?_ _); rotate_left; focus (first | omega | (simp; done) | (simp; omega))) | ((with_reducible refine Below.trans ?_ (Below.mono hb2 ?_)); rotate_left; focus (first | omega | (simp; done) | (simp; omega)))))) _ (.ag [.c (.int .i64 k1), .c (.int .i64 n1), .c (.string s1), .sl xa2 xc2 1 3 (intM []), .sl a2 cap2 5 27 ms2]) (by simp [M.cells, M.cellsL, intM_length]) rfl _ (SynOwn_el hm2 k1 n1 s1) (by simp) rfl (by have := HJ'.out; unfold maxLen; omega) (by have := HJ'.out; have := HL.out; omega) ?_; intro a3 cap3 w3 hm3 hb3 hz3 hfr3; have q3' : w3.cell? ⟨w.heap.size + 1 + 1, 4, none⟩ = some (.slice a' ms'.length cap') := (by rw [hb3.cell (by first | (simp; done) | (simp; omega))]; simp (disch := omega) [hc2, q4, go_sem]); have qf' : w3.frozen? ⟨w.heap.size + 1 + 1, 4, none⟩ = false := (by rw [hb3.frozen (by first | (simp; done) | (simp; omega))]; simp (disch := omega) [hf2, e4, go_sem])))
      all_goals
        have hbA : Below wr.heap.size wr w1 := by (repeat (first | with_reducible assumption | with_reducible exact Below.refl _ _ | with_reducible refine Below.drew ?_ | with_reducible refine belowDrewN ?_ _ | ((with_reducible refine Below.setCell ?_ ?_ _); rotate_left; focus (first | omega | (simp; done) | (simp; omega))) | ((with_reducible refine Below.alloc ?_ ?_ _); rotate_left; focus (first | omega | (simp; done) | (simp; omega))) | ((with_reducible refine Below.trans ?_ (Below.mono hb2 ?_)); rotate_left; focus (first | omega | (simp; done) | (simp; omega)))))
        have hq3 := (HQ.out.below hbA p3).below hb3 (by omega)
        have hr3 := (HR.out.below hbA p2).below hb3 (by omega)
        (try simp only [Syn.k_mk, Syn.n_mk, Syn.s_mk, Syn.x_mk, Syn.ds_mk] at hi2)
        have hfin : Syn.IsL 27 (synOfL (ds.take (j + 1))) (ms' ++ [.ag [.c (.int .i64 k1), .c (.int .i64 n1), .c (.string s1), .sl xa2 xc2 1 3 (intM []), .sl a2 cap2 5 27 ms2]]) := by
          rw [synOfL_take HD.out]; exact HI'.out.snoc ⟨_, _, _, _, _, rfl, hi2⟩
        have hjj := HJ'.out
        have HFIN := Lib.hid hfin; clear hfin; have HM3 := Lib.hid hm3; clear hm3; have HI2 := Lib.hid hi2; clear hi2; have HM2 := Lib.hid hm2; clear hm2; have HQ3 := Lib.hid hq3; clear hq3; have HR3 := Lib.hid hr3; clear hr3; have HBA := Lib.hid hbA; clear hbA
        go_wp2_with fail
        go_roundw
        case rel =>
          refine ⟨j + 1, a3, cap3, ms' ++ [.ag [.c (.int .i64 k1), .c (.int .i64 n1), .c (.string s1), .sl xa2 xc2 1 3 (intM []), .sl a2 cap2 5 27 ms2]], by omega, by go_num, by simp [hjj], HFIN.out, ?_, ?_, ?_, ?_, ?_⟩
          · exact M.Mine.keep HM3.out (fun b hb1 hb2 => by simp (disch := (first | omega | (simp; omega))) only [heapSet])
          · have := HQ3.out.set4 (.slice a3 (ms'.length + 1) cap3); simpa [hjj] using this
          · exact HR3.out.far _ (by first | (simp; done) | (simp; omega))
          · (repeat (first | with_reducible assumption | with_reducible exact Below.refl _ _ | with_reducible refine Below.drew ?_ | with_reducible refine belowDrewN ?_ _ | ((with_reducible refine Below.setCell ?_ ?_ _); rotate_left; focus (first | omega | (simp; done) | (simp; omega))) | ((with_reducible refine Below.alloc ?_ ?_ _); rotate_left; focus (first | omega | (simp; done) | (simp; omega))) | ((with_reducible refine Below.trans ?_ (Below.mono hb2 ?_)); rotate_left; focus (first | omega | (simp; done) | (simp; omega))) | ((with_reducible refine Below.trans ?_ (Below.mono hb3 ?_)); rotate_left; focus (first | omega | (simp; done) | (simp; omega)))))
          · simp; omega
        case measure => simp [intOf]; omega
    · have HJ' := Lib.hid hj'; clear hj'
      have HQ := Lib.hid hq; clear hq
      have HR := Lib.hid hr; clear hr
      go_wp2_with fail
      refine bodyPost_ret (v := .agg #[.int .i64 k, .int .i64 n, .string s, .slice none 0 0, .slice a' ms'.length cap']) (by simp [results, Try.results72, go_sem, q0, q1, q2, q3, q4, r0, r1, r2, r3, r4, HJ'.out]) rfl ?_
      have hk2 : j = ms.length := by omega
      subst hk2
      refine ⟨none, 0, a', cap', ms', rfl, ?_, ?_, ?_⟩
      · rw [HL.out, List.take_length] at hi'
        exact hi'
      · exact SynOwn_two (c := w.heap.size + 1 + 1 + 1) (M.Mine.nil _ _ _ _ (by decide)) (by (exact M.Mine.mono (M.Mine.keep hm' (fun b hb1 hb2 => by (try simp at hb1); simp (disch := (first | omega | (simp; omega))) only [heapSet, heapNew, heapDrew, heapDrewN])) (by first | omega | (simp; done) | (simp; omega)))) (by omega) (by simp [M.blocks, addrBlocks, intM, M.blocksL])
      · (repeat (first | with_reducible assumption | with_reducible exact Below.refl _ _ | with_reducible refine Below.drew ?_ | with_reducible refine belowDrewN ?_ _ | ((with_reducible refine Below.setCell ?_ ?_ _); rotate_left; focus (first | omega | (simp; done) | (simp; omega))) | ((with_reducible refine Below.alloc ?_ ?_ _); rotate_left; focus (first | omega | (simp; done) | (simp; omega))) | ((with_reducible refine Below.trans ?_ (Below.mono hb ?_)); rotate_left; focus (first | omega | (simp; done) | (simp; omega)))))
set_option maxHeartbeats 1000000 in
theorem iSyntaxOf_calls (k n : Int) (s : ByteArray) (ds : List Dat) (a : Option Addr) (cap : Nat) (ms : List M) (w : World) (hwf : (Dat.mk k n s ds).wf) (hB : Dat.countL ds ≤ 1000000000) (hi : Dat.IsL 52 ds ms) (hin : (M.sl a cap 4 52 ms).In w) :
    Calls Try.prog 32 #[.agg #[.int .i64 k, .int .i64 n, .string s, .slice a ms.length cap]] w (RetSyn 27 (synG k n s ds) w) := by
  have hcap := hin.len
  have HI := Lib.hid hi; clear hi; have HIN := Lib.hid hin; clear hin; have HWF := Lib.hid hwf; clear hwf
  go_enter Try.func32, Try.ntmps32
  go_wp2_with fail
  refine (iIsDatum_calls k n s ds a cap ms _ HWF.out hB HI.out (HIN.out.below (by (repeat (first | with_reducible assumption | with_reducible exact Below.refl _ _ | with_reducible refine Below.drew ?_ | with_reducible refine belowDrewN ?_ _ | ((with_reducible refine Below.setCell ?_ ?_ _); rotate_left; focus (first | omega | (simp; done) | (simp; omega))) | ((with_reducible refine Below.alloc ?_ ?_ _); rotate_left; focus (first | omega | (simp; done) | (simp; omega)))))))).mono ?_
  rintro e w1 ⟨rfl, hb1⟩
  obtain ⟨hc1, hf1⟩ := bcell hb1; have hz1 := hb1.size; (try simp only [World.size_alloc, World.size_setCell, World.size_drew, sizeDrewN] at hz1 hc1 hf1)
  have p0 : w.heap.size < w1.heap.size := by omega
  have p1 : w.heap.size + 1 < w1.heap.size := by omega
  have hq : DBox w.heap.size k n s (.slice a ms.length cap) w1 := by constructor <;> first | (simp (disch := omega) [hc1, hf1, go_sem]; done) | (simp (disch := omega) [hc1, hf1, go_sem]; rfl)
  have hr : SBox (w.heap.size + 1) 0 0 ⟨#[]⟩ (.slice none 0 0) (.slice none 0 0) w1 := by constructor <;> first | (simp (disch := omega) [hc1, hf1, go_sem]; done) | (simp (disch := omega) [hc1, hf1, go_sem]; rfl)
  obtain ⟨q0, q1, q2, q3, e0, e1, e2, e3⟩ := hq
  obtain ⟨r0, r1, r2, r3, r4, g0, g1, g2, g3, g4⟩ := hr
  clear hc1 hf1
  cases hv : isDatB k n s ds with
  | false =>
    have hg := synG_no hv
    have HV := Lib.hid hv; clear hv; have HG := Lib.hid hg; clear hg
    go_wp2_with fail
    refine bodyPost_ret (v := .agg #[.int .i64 0, .int .i64 0, .string ⟨#[]⟩, .slice none 0 0, .slice none 0 0]) (by simp [results, Try.results32, go_sem, q0, q1, q2, q3, r0, r1, r2, r3, r4]) rfl ?_
    rw [HG.out]
    refine ⟨none, 0, none, 0, [], rfl, rfl, ?_, ?_⟩
    · exact SynOwn_two (c := w.heap.size) (M.Mine.nil _ _ _ _ (by decide)) (M.Mine.nil _ _ _ _ (by decide)) (by omega) (by simp [M.blocks, addrBlocks, intM, M.blocksL])
    · (repeat (first | with_reducible assumption | with_reducible exact Below.refl _ _ | with_reducible refine Below.drew ?_ | with_reducible refine belowDrewN ?_ _ | ((with_reducible refine Below.setCell ?_ ?_ _); rotate_left; focus (first | omega | (simp; done) | (simp; omega))) | ((with_reducible refine Below.alloc ?_ ?_ _); rotate_left; focus (first | omega | (simp; done) | (simp; omega))) | ((with_reducible refine Below.trans ?_ (Below.mono hb1 ?_)); rotate_left; focus (first | omega | (simp; done) | (simp; omega)))))
  | true =>
    have hg := synG_yes hv
    have HV := Lib.hid hv; clear hv; have HG := Lib.hid hg; clear hg
    go_wp2_with fail
    refine (iToSyntax_calls ds k n s a cap ms _ hB HI.out (HIN.out.below (by (repeat (first | with_reducible assumption | with_reducible exact Below.refl _ _ | with_reducible refine Below.drew ?_ | with_reducible refine belowDrewN ?_ _ | ((with_reducible refine Below.setCell ?_ ?_ _); rotate_left; focus (first | omega | (simp; done) | (simp; omega))) | ((with_reducible refine Below.alloc ?_ ?_ _); rotate_left; focus (first | omega | (simp; done) | (simp; omega))) | ((with_reducible refine Below.trans ?_ (Below.mono hb1 ?_)); rotate_left; focus (first | omega | (simp; done) | (simp; omega)))))))).mono ?_
    rintro e w2 ⟨xa2, xc2, a2, cap2, ms2, rfl, hi2, hm2, hb2⟩
    obtain ⟨hc2, hf2⟩ := bcell hb2; have hz2 := hb2.size; (try simp only [World.size_alloc, World.size_setCell, World.size_drew, sizeDrewN] at hz2 hc2 hf2)
    simp only [Syn.k_mk, Syn.n_mk, Syn.s_mk, Syn.x_mk, Syn.ds_mk, List.length_nil] at hi2 hm2 ⊢
    have hr : SBox (w.heap.size + 1) 0 0 ⟨#[]⟩ (.slice none 0 0) (.slice none 0 0) w2 := by constructor <;> simp (disch := omega) [hc2, hf2, r0, r1, r2, r3, r4, g0, g1, g2, g3, g4]
    obtain ⟨s0, s1, s2, s3, s4, h0, h1, h2, h3, h4⟩ := hr
    have HI2 := Lib.hid hi2; clear hi2; have HM2 := Lib.hid hm2; clear hm2
    go_wp2_with fail
    refine bodyPost_ret (v := .agg #[.int .i64 k, .int .i64 n, .string s, .slice xa2 0 xc2, .slice a2 ms2.length cap2]) (by simp [results, Try.results32, go_sem, s0, s1, s2, s3, s4]) rfl ?_
    refine ⟨xa2, xc2, a2, cap2, ms2, by rw [HG.out]; rfl, by rw [HG.out]; exact HI2.out, ?_, ?_⟩
    · rw [HG.out]; (exact M.Mine.mono (M.Mine.keep HM2.out (fun b hb1 hb2 => by (try simp at hb1); simp (disch := (first | omega | (simp; omega))) only [heapSet, heapNew, heapDrew, heapDrewN])) (by first | omega | (simp; done) | (simp; omega)))
    · (repeat (first | with_reducible assumption | with_reducible exact Below.refl _ _ | with_reducible refine Below.drew ?_ | with_reducible refine belowDrewN ?_ _ | ((with_reducible refine Below.setCell ?_ ?_ _); rotate_left; focus (first | omega | (simp; done) | (simp; omega))) | ((with_reducible refine Below.alloc ?_ ?_ _); rotate_left; focus (first | omega | (simp; done) | (simp; omega))) | ((with_reducible refine Below.trans ?_ (Below.mono hb1 ?_)); rotate_left; focus (first | omega | (simp; done) | (simp; omega))) | ((with_reducible refine Below.trans ?_ (Below.mono hb2 ?_)); rotate_left; focus (first | omega | (simp; done) | (simp; omega)))))
end Go.Proofs.Ytghbnehocggnnaa

/-
  Walks: a piece of syntax drawn. No condition.
-/
set_option linter.unusedVariables false
set_option linter.unusedSimpArgs false
set_option maxRecDepth 100000
namespace Go.Proofs.Ytghbnehocggnnaa
open Go.RowKit

mutual
/-- numbers of the machine, texts of at most 100 bytes, at most 8 scopes -/
def Syn.wf1 : Syn → Prop
  | .mk k n s x ds => I64 k ∧ I64 n ∧ s.size ≤ 100 ∧ x.length ≤ 8 ∧ Small x ∧ Syn.wf1L ds
def Syn.wf1L : List Syn → Prop
  | [] => True
  | d :: ds => d.wf1 ∧ Syn.wf1L ds
end
theorem Small.I64 {x : List Int} (h : Small x) : ∀ z ∈ x, I64 z := fun z hz => by have := h z hz; unfold Go.Proofs.Ytghbnehocggnnaa.I64; omega
mutual
theorem Syn.wf1.wf : ∀ {d : Syn}, d.wf1 → d.wf
  | .mk _ _ _ _ _, h => ⟨h.1, h.2.1, Nat.le_trans h.2.2.1 (by decide), h.2.2.2.2.1.I64, Syn.wf1L.wfL h.2.2.2.2.2⟩
theorem Syn.wf1L.wfL : ∀ {ds : List Syn}, Syn.wf1L ds → Syn.wfL ds
  | [], _ => trivial
  | _ :: _, h => ⟨Syn.wf1.wf h.1, Syn.wf1L.wfL h.2⟩
end
theorem Syn.wf1L_wt : ∀ ds : List Syn, Syn.wf1L ds → ds.length + Syn.wtX ds ≤ 109 * Syn.countL ds := by
  refine Syn.inductL fun ds ih hw => ?_
  induction ds with
  | nil => simp [Syn.wtX]
  | cons d r ihr =>
    obtain ⟨k, n, s, x, es⟩ := d
    obtain ⟨⟨_, _, hs, hx, _, he⟩, hr⟩ := hw
    have h1 := ih k n s x es (List.mem_cons_self ..) he
    have h2 := ihr (fun k n s x es hm => ih k n s x es (List.mem_cons_of_mem _ hm)) hr
    simp only [List.length_cons, Syn.wtX, Syn.wt, Syn.countL, Syn.count]
    omega
theorem Syn.wf1.wt_le {k n : Int} {s : ByteArray} {x : List Int} {ds : List Syn} (h : (Syn.mk k n s x ds).wf1) (hc : 1 + Syn.countL ds ≤ 400) : s.size + (x.length + (ds.length + Syn.wtX ds)) ≤ 50000 := by
  obtain ⟨_, _, hs, hx, _, he⟩ := h
  have := Syn.wf1L_wt ds he
  omega
mutual
theorem synOf_wf1 : ∀ {d : Dat}, d.wf1 → (synOf d).wf1
  | .mk _ _ _ _, h => by
    simp only [synOf]
    exact ⟨h.1, h.2.1, h.2.2.1, by simp, fun z hz => by simp at hz, synOfL_wf1 h.2.2.2⟩
theorem synOfL_wf1 : ∀ {ds : List Dat}, Dat.wf1L ds → Syn.wf1L (synOfL ds)
  | [], _ => trivial
  | _ :: _, h => by simp only [synOfL]; exact ⟨synOf_wf1 h.1, synOfL_wf1 h.2⟩
end
mutual
theorem synOf_count : ∀ d : Dat, (synOf d).count = d.count
  | .mk _ _ _ ds => by simp only [synOf, Syn.count, Dat.count]; rw [synOfL_count ds]
theorem synOfL_count : ∀ ds : List Dat, Syn.countL (synOfL ds) = Dat.countL ds
  | [] => rfl
  | d :: r => by simp only [synOfL, Syn.countL, Dat.countL]; rw [synOf_count d, synOfL_count r]
end
mutual
theorem Mix.keeps : ∀ {d d' : Syn}, Mix d d' → d.wf1 → d'.wf1 ∧ d'.count = d.count
  | .mk k n s x ds, .mk k' n' s' x' ds', h, hw => by
    obtain ⟨rfl, rfl, rfl, hx, hl⟩ := h
    obtain ⟨h1, h2, h3, h4, h5, h6⟩ := hw
    obtain ⟨g1, g2⟩ := MixL.keeps hl h6
    have hxx : x'.length ≤ 8 ∧ Small x' := by
      rcases hx with rfl | ⟨ha, hb⟩
      · exact ⟨h4, h5⟩
      · exact ⟨by omega, hb⟩
    exact ⟨⟨h1, h2, h3, hxx.1, hxx.2, g1⟩, by simp only [Syn.count]; rw [g2]⟩
theorem MixL.keeps : ∀ {ds ds' : List Syn}, MixL ds ds' → Syn.wf1L ds → Syn.wf1L ds' ∧ Syn.countL ds' = Syn.countL ds
  | [], ds', h, _ => by simp only [MixL] at h; subst h; exact ⟨trivial, rfl⟩
  | d :: r, ds', h, hw => by
    obtain ⟨d', r', rfl, h1, h2⟩ := h
    obtain ⟨g1, g2⟩ := Mix.keeps h1 hw.1
    obtain ⟨g3, g4⟩ := MixL.keeps h2 hw.2
    exact ⟨⟨g1, g3⟩, by simp only [Syn.countL]; rw [g2, g4]⟩
end
theorem OnlyIn.thenOnly {lo hi : Nat} {bs : List Nat} {a b c : World} (h : OnlyIn lo hi a b) (k : Only bs b c) (hs : ∀ x ∈ bs, (lo ≤ x ∧ x < hi) ∨ a.heap.size ≤ x) : OnlyIn lo hi a c :=
  ⟨k.os.trans h.os, k.tape.trans h.tape, k.output.trans h.output, Nat.le_trans h.size k.size, fun i hi2 hn => (k.block i (Nat.lt_of_lt_of_le hi2 h.size) fun hc => by
    rcases hs i hc with h1 | h1
    · omega
    · omega).trans (h.block i hi2 hn)⟩
/-- a piece of syntax drawn -/
def DrawnS (pb : Nat) (a : Option Addr) (cap : Nat) (l : List Int) (w : World) (e : Ending) (w' : World) : Prop :=
  ∃ (k n : Int) (s : ByteArray) (x : List Int) (ds : List Syn) (xa : Option Addr) (xc : Nat) (a' : Option Addr) (cap' : Nat) (ms : List M), e = .returned (.agg #[.int .i64 k, .int .i64 n, .string s, .slice xa x.length xc, .slice a' ms.length cap']) ∧
    Syn.IsL 27 ds ms ∧ (SynOwn 27 xa xc x a' cap' ms).Mine w' w.heap.size ∧ (Syn.mk k n s x ds).wf1 ∧ 1 + Syn.countL ds ≤ 400 ∧ Cur pb a cap l w' ∧ OnlyIn pb (pb + 1) w w'
/-- handed back out of the box of the result -/
theorem DrawnS.boxed {pb : Nat} {a : Option Addr} {cap : Nat} {l : List Int} {w W : World} {k n : Int} {s : ByteArray} {x : List Int} {ds : List Syn} {xa : Option Addr} {xc : Nat} {a' : Option Addr} {cap' : Nat} {ms : List M} {c : Nat}
    (hi : Syn.IsL 27 ds ms) (hm : (SynOwn 27 xa xc x a' cap' ms).Mine W c) (hc : w.heap.size < c) (hw : (Syn.mk k n s x ds).wf1) (hct : 1 + Syn.countL ds ≤ 400) (hcur : Cur pb a cap l W) (ho : OnlyIn pb (pb + 1) w W) (hp : pb < w.heap.size) (hsz : w.heap.size < W.heap.size) :
    DrawnS pb a cap l w (.returned (.agg #[.int .i64 k, .int .i64 n, .string s, .slice xa x.length xc, .slice a' ms.length cap'])) (setCells W w.heap.size 0 [.int .i64 k, .int .i64 n, .string s, .slice xa x.length xc, .slice a' ms.length cap']) := by
  have ho2 := setCells_Only w.heap.size (bs := [w.heap.size]) (by simp) [.int .i64 k, .int .i64 n, .string s, .slice xa x.length xc, .slice a' ms.length cap'] W 0 (Only.refl _ W)
  refine ⟨k, n, s, x, ds, xa, xc, a', cap', ms, rfl, hi, ?_, hw, hct, ?_, ?_⟩
  · exact M.Mine.mono (hm.only ho2 fun b hb hn => by have := (hm.lt b hb).1; simp at hn; omega) (by omega)
  · exact hcur.belowB (B := w.heap.size) (ho2.below (by omega) (by simp)) hp
  · exact ho.thenOnly ho2 (fun y hy => by simp at hy; omega)
set_option maxHeartbeats 2000000 in
theorem l2Draw_calls (pb : Nat) (a : Option Addr) (cap : Nat) (l : List Int) (w : World) (hc : Cur pb a cap l w) :
    Calls Try.prog 93 #[.pointer (some ⟨pb, 0, none⟩)] w (DrawnS pb a cap l w) := by
  have hpl := hc.lt
  have HC := Lib.hid hc; clear hc
  go_enter Try.func93, Try.ntmps93
  go_wp2_with fail
  refine (l1Draw_calls 4 (by decide) pb a cap l _ (HC.out.below (by (repeat (first | with_reducible assumption | with_reducible exact Below.refl _ _ | with_reducible refine Below.drew ?_ | with_reducible refine belowDrewN ?_ _ | ((with_reducible refine Below.setCell ?_ ?_ _); rotate_left; focus (first | omega | (simp; done) | (simp; omega))) | ((with_reducible refine Below.alloc ?_ ?_ _); rotate_left; focus (first | omega | (simp; done) | (simp; omega)))))))).mono ?_
  rintro e w1 ⟨k1, n1, s1, ds1, a1, cap1, ms1, rfl, hi1, hm1, hw1, hct1, hc1, ho1⟩
  have hz1 := ho1.size
  simp only [World.size_alloc] at hz1
  have hr1 : SBox w.heap.size 0 0 ⟨#[]⟩ (.slice none 0 0) (.slice none 0 0) w1 := (SBox.new 0 0 ⟨#[]⟩ (.slice none 0 0) (.slice none 0 0) w).only ho1 (.inr (by omega))
  have hoo : OnlyIn pb (pb + 1) w w1 := ((OnlyIn.refl _ _ _).new _).trans ho1
  have hct : 1 + Dat.countL ds1 ≤ 341 := by simpa [nB] using hct1
  clear ho1 hct1
  have HI1 := Lib.hid hi1; clear hi1; have HM1 := Lib.hid hm1; clear hm1; have HW1 := Lib.hid hw1; clear hw1; have HC1 := Lib.hid hc1; clear hc1; have HOO := Lib.hid hoo; clear hoo; have HR1 := Lib.hid hr1; clear hr1; have HCT := Lib.hid hct; clear hct
  go_wp2_with fail
  refine (l2Of_calls ds1 k1 n1 s1 a1 cap1 ms1 _ (by have := HCT.out; omega) HI1.out HM1.out.in_).mono ?_
  rintro e w2 ⟨xa2, xc2, a2, cap2, ms2, rfl, hi2, hm2, hb2⟩
  simp only [Syn.k_mk, Syn.n_mk, Syn.s_mk, Syn.x_mk, Syn.ds_mk] at hi2 hm2 ⊢
  have hz2 := hb2.size
  have hc2 := HC1.out.below hb2
  have hoo2 := HOO.out.thenBelow (hb2.mono (by omega))
  have hmc := l2Mixed_calls (synOfL ds1) k1 n1 s1 [] xa2 xc2 a2 cap2 ms2 pb a cap l w1.heap.size w2 hi2 hm2 hc2 (by omega) (by omega)
  have hlt2 := (SynOwn_ms hm2).lt
  have hr2 := HR1.out.below hb2 (by omega)
  have HMC := Lib.hid hmc; clear hmc; have HOO2 := Lib.hid hoo2; clear hoo2; have HLT2 := Lib.hid hlt2; clear hlt2; have HR2 := Lib.hid hr2; clear hr2
  clear hi2 hm2 hc2
  go_wp2_with fail
  refine HMC.out.mono ?_
  rintro e w3 ⟨x3, xa3, xc3, ds3, ms3, rfl, hl3, hx3, hmx3, hi3, hm3, hc3, ho3, hbl3, hxb3⟩
  have hz3 := ho3.size
  obtain ⟨r0, r1, r2, r3, r4, g0, g1, g2, g3, g4⟩ : SBox w.heap.size 0 0 ⟨#[]⟩ (.slice none 0 0) (.slice none 0 0) w3 := HR2.out.of (ho3.block _ (by omega) (fun hn => by
    rcases List.mem_cons.1 hn with h1 | h1
    · omega
    · have := (HLT2.out _ h1).1; omega))
  have hoo3 := HOO2.out.thenOnly ho3 (fun y hy => by
    rcases List.mem_cons.1 hy with h1 | h1
    · omega
    · have := (HLT2.out _ h1).1; omega)
  obtain ⟨hwf3, hcn3⟩ := Mix.keeps (d := .mk k1 n1 s1 [] (synOfL ds1)) (d' := .mk k1 n1 s1 x3 ds3) ⟨rfl, rfl, rfl, hx3, hmx3⟩ (by simpa only [synOf] using synOf_wf1 HW1.out)
  have hct3 : 1 + Syn.countL ds3 ≤ 400 := by
    simp only [Syn.count] at hcn3
    rw [synOfL_count] at hcn3
    have := HCT.out
    omega
  have hret := DrawnS.boxed (w := w) (k := k1) (n := n1) (s := s1) hi3 hm3 (by omega) hwf3 hct3 hc3 hoo3 hpl (by omega)
  simp only [setCells, Nat.zero_add, Nat.reduceAdd] at hret
  clear hl3 hx3 hmx3 hi3 hm3 hc3 ho3 hbl3 hxb3 hoo3 hwf3 hcn3 hct3
  have HRET := Lib.hid hret; clear hret
  go_wp2_with fail
  refine bodyPost_ret (v := .agg #[.int .i64 k1, .int .i64 n1, .string s1, .slice xa3 x3.length xc3, .slice a2 ms3.length cap2]) (by simp [results, Try.results93, go_sem, r0, r1, r2, r3, r4]) rfl ?_
  exact HRET.out
end Go.Proofs.Ytghbnehocggnnaa

/-
  Walks: a piece of syntax drawn, not valid sometimes; what the laws draw. No condition.
-/
set_option linter.unusedVariables false
set_option linter.unusedSimpArgs false
set_option maxRecDepth 100000
namespace Go.Proofs.Ytghbnehocggnnaa
open Go.RowKit

theorem Syn.wf1.setX {k n : Int} {s : ByteArray} {x L : List Int} {ds : List Syn} (h : (Syn.mk k n s x ds).wf1) (h1 : L.length ≤ 8) (h2 : Small L) : (Syn.mk k n s L ds).wf1 := ⟨h.1, h.2.1, h.2.2.1, h1, h2, h.2.2.2.2.2⟩
set_option maxHeartbeats 4000000 in
theorem l2Any_calls (pb : Nat) (a : Option Addr) (cap : Nat) (l : List Int) (w : World) (hc : Cur pb a cap l w) :
    Calls Try.prog 52 #[.pointer (some ⟨pb, 0, none⟩)] w (DrawnS pb a cap l w) := by
  have hpl := hc.lt
  have HC := Lib.hid hc; clear hc
  go_enter Try.func52, Try.ntmps52
  go_wp2_with fail
  refine (l01Once_calls 6 pb a cap l _ (HC.out.below (by (repeat (first | with_reducible assumption | with_reducible exact Below.refl _ _ | with_reducible refine Below.drew ?_ | with_reducible refine belowDrewN ?_ _ | ((with_reducible refine Below.setCell ?_ ?_ _); rotate_left; focus (first | omega | (simp; done) | (simp; omega))) | ((with_reducible refine Below.alloc ?_ ?_ _); rotate_left; focus (first | omega | (simp; done) | (simp; omega))))))) (by decide) (by decide)).mono ?_
  rintro e w1 ⟨bb, rfl, hc1, ho1⟩
  have hz1 := ho1.size
  simp only [World.size_alloc] at hz1
  have hr1 : SBox w.heap.size 0 0 ⟨#[]⟩ (.slice none 0 0) (.slice none 0 0) w1 := (SBox.new 0 0 ⟨#[]⟩ (.slice none 0 0) (.slice none 0 0) w).only ho1 (.inr (by omega))
  have hoo1 : OnlyIn pb (pb + 1) w w1 := ((OnlyIn.refl _ _ _).new _).trans ho1
  clear ho1
  have HC1 := Lib.hid hc1; clear hc1; have HR1 := Lib.hid hr1; clear hr1; have HOO1 := Lib.hid hoo1; clear hoo1
  cases bb with
  | true =>
    go_wp2_with fail
    refine (l1Any_calls pb a cap l _ HC1.out).mono ?_
    rintro e w2 ⟨k1, n1, s1, ds1, a1, cap1, ms1, rfl, hi1, hm1, hw1, hct1, hc2, ho2⟩
    have hz2 := ho2.size
    have hr2 := HR1.out.only ho2 (.inr (by omega))
    have hoo2 := HOO1.out.trans ho2
    clear ho2
    have HI1 := Lib.hid hi1; clear hi1; have HM1 := Lib.hid hm1; clear hm1; have HW1 := Lib.hid hw1; clear hw1; have HCT1 := Lib.hid hct1; clear hct1; have HC2 := Lib.hid hc2; clear hc2; have HR2 := Lib.hid hr2; clear hr2; have HOO2 := Lib.hid hoo2; clear hoo2
    go_wp2_with fail
    refine (l2Of_calls ds1 k1 n1 s1 a1 cap1 ms1 _ (by have := HCT1.out; omega) HI1.out HM1.out.in_).mono ?_
    rintro e w3 ⟨xa2, xc2, a2, cap2, ms2, rfl, hi2, hm2, hb3⟩
    simp only [Syn.k_mk, Syn.n_mk, Syn.s_mk, Syn.x_mk, Syn.ds_mk, List.length_nil] at hi2 hm2 ⊢
    have hz3 := hb3.size
    obtain ⟨r0, r1, r2, r3, r4, g0, g1, g2, g3, g4⟩ := HR2.out.below hb3 (by omega)
    have hct3 : 1 + Syn.countL (synOfL ds1) ≤ 400 := by rw [synOfL_count]; exact HCT1.out
    have hret := DrawnS.boxed (w := w) (k := k1) (n := n1) (s := s1) (x := []) hi2 hm2 (by omega) (by simpa only [synOf] using synOf_wf1 HW1.out) hct3 (HC2.out.below hb3) (HOO2.out.thenBelow (hb3.mono (by omega))) hpl (by omega)
    simp only [setCells, Nat.zero_add, Nat.reduceAdd, List.length_nil] at hret
    clear hi2 hm2 hb3 hct3
    have HRET := Lib.hid hret; clear hret
    go_wp2_with fail
    refine bodyPost_ret (v := .agg #[.int .i64 k1, .int .i64 n1, .string s1, .slice xa2 0 xc2, .slice a2 ms2.length cap2]) (by simp [results, Try.results52, go_sem, r0, r1, r2, r3, r4]) rfl ?_
    exact HRET.out
  | false =>
    go_wp2_with fail
    refine (l2Draw_calls pb a cap l _ HC1.out).mono ?_
    rintro e w2 ⟨k1, n1, s1, x1, ds1, xa1, xc1, a1, cap1, ms1, rfl, hi1, hm1, hw1, hct1, hc2, ho2⟩
    have hz2 := ho2.size
    have hr2 := HR1.out.only ho2 (.inr (by omega))
    have hoo2 := HOO1.out.trans ho2
    have hcm := (SynOwn_ms hm1).in_.len
    have hcx := Ints.len (SynOwn_x hm1).in_
    clear ho2
    have HI1 := Lib.hid hi1; clear hi1; have HM1 := Lib.hid hm1; clear hm1; have HW1 := Lib.hid hw1; clear hw1; have HCT1 := Lib.hid hct1; clear hct1; have HC2 := Lib.hid hc2; clear hc2; have HR2 := Lib.hid hr2; clear hr2; have HOO2 := Lib.hid hoo2; clear hoo2
    go_wp2_with fail
    refine (l01Once_calls 6 pb a cap l _ (HC2.out.below (by (repeat (first | with_reducible assumption | with_reducible exact Below.refl _ _ | with_reducible refine Below.drew ?_ | with_reducible refine belowDrewN ?_ _ | ((with_reducible refine Below.setCell ?_ ?_ _); rotate_left; focus (first | omega | (simp; done) | (simp; omega))) | ((with_reducible refine Below.alloc ?_ ?_ _); rotate_left; focus (first | omega | (simp; done) | (simp; omega))))))) (by decide) (by decide)).mono ?_
    rintro e w3 ⟨bb, rfl, hc3, ho3⟩
    have hz3 := ho3.size
    simp only [World.size_alloc] at hz3
    have hq3 : SBox w2.heap.size k1 n1 s1 (.slice xa1 x1.length xc1) (.slice a1 ms1.length cap1) w3 := (SBox.new k1 n1 s1 (.slice xa1 x1.length xc1) (.slice a1 ms1.length cap1) w2).only ho3 (.inr (by omega))
    have ho23 : OnlyIn pb (pb + 1) w2 w3 := ((OnlyIn.refl _ _ _).new _).trans ho3
    have hr3 := HR2.out.only ho23 (.inr (by omega))
    have hoo3 := HOO2.out.trans ho23
    have hm3 : (SynOwn 27 xa1 xc1 x1 a1 cap1 ms1).Mine w3 w1.heap.size := HM1.out.keep (fun b h1 h2 => ho23.block b h2 (.inr (by omega)))
    have hlt3 : ∀ b ∈ (SynOwn 27 xa1 xc1 x1 a1 cap1 ms1).blocks, b < w2.heap.size := fun b hb => (HM1.out.lt b hb).2
    clear ho3
    have HC3 := Lib.hid hc3; clear hc3; have HO23 := Lib.hid ho23; clear ho23; have HM3 := Lib.hid hm3; clear hm3; have HOO3 := Lib.hid hoo3; clear hoo3; have HLT3 := Lib.hid hlt3; clear hlt3
    cases bb with
    | false =>
      obtain ⟨r0, r1, r2, r3, r4, g0, g1, g2, g3, g4⟩ := hr3
      obtain ⟨q0, q1, q2, q3, q4, f0, f1, f2, f3, f4⟩ := hq3
      have hret := DrawnS.boxed (w := w) (k := k1) (n := n1) (s := s1) (x := x1) HI1.out HM3.out (by omega) HW1.out HCT1.out HC3.out HOO3.out hpl (by omega)
      simp only [setCells, Nat.zero_add, Nat.reduceAdd] at hret
      have HRET := Lib.hid hret; clear hret
      go_wp2_with fail
      refine bodyPost_ret (v := .agg #[.int .i64 k1, .int .i64 n1, .string s1, .slice xa1 x1.length xc1, .slice a1 ms1.length cap1]) (by simp [results, Try.results52, go_sem, r0, r1, r2, r3, r4]) rfl ?_
      exact HRET.out
    | true =>
      have HR3 := Lib.hid hr3; clear hr3; have HQ3 := Lib.hid hq3; clear hq3
      go_wp2_with fail
      refine (l2AnySet_calls pb a cap l _ HC3.out).mono ?_
      rintro e w4 ⟨L, la, lc, rfl, hL, hLs, hmL, hc4, ho4⟩
      have hz4 := ho4.size
      have hLl := Ints.len hmL.in_
      have hr4 := HR3.out.only ho4 (.inr (by omega))
      have hq4 := HQ3.out.only ho4 (.inr (by omega))
      have hoo4 := HOO3.out.trans ho4
      have hm4 : (SynOwn 27 xa1 xc1 x1 a1 cap1 ms1).Mine w4 w1.heap.size := HM3.out.keep (fun b h1 h2 => ho4.block b h2 (.inr (by omega)))
      have hmx : (SynOwn 27 la lc L a1 cap1 ms1).Mine w4 w1.heap.size := SynOwn_swapX hm4 hmL (by omega) (fun b hb => by have := HLT3.out b (by rw [SynOwn_blocks]; simp [hb]); omega)
      have hmxw : ∀ b ∈ (SynOwn 27 la lc L a1 cap1 ms1).blocks, b ≠ w2.heap.size := fun b hb => by
        rw [SynOwn_blocks] at hb
        rcases List.mem_append.1 hb with h1 | h1
        · have := (hmL.lt b (by simpa [M.blocks, intM_blocks] using h1)).1; omega
        · have := HLT3.out b (by rw [SynOwn_blocks]; simp [h1]); omega
      obtain ⟨q0, q1, q2, q3, q4, f0, f1, f2, f3, f4⟩ := hq4
      have hr5 := hr4.far (a := ⟨w2.heap.size, 3, none⟩) (.slice la L.length lc) (by simp; omega)
      have hm5 : (SynOwn 27 la lc L a1 cap1 ms1).Mine (w4.setCell ⟨w2.heap.size, 3, none⟩ (.slice la L.length lc)) w1.heap.size := hmx.keep2 (fun b hb => heapSet _ _ _ _ (hmxw b hb))
      have hc5 : Cur pb a cap l (w4.setCell ⟨w2.heap.size, 3, none⟩ (.slice la L.length lc)) := hc4.belowB (B := w.heap.size) (Below.setCell (Below.refl _ _) (by simp; omega) _) hpl
      have hoo5 : OnlyIn pb (pb + 1) w (w4.setCell ⟨w2.heap.size, 3, none⟩ (.slice la L.length lc)) := hoo4.thenBelow (Below.setCell (Below.refl _ _) (by simp; omega) _)
      have hret := DrawnS.boxed (w := w) (k := k1) (n := n1) (s := s1) (x := L) HI1.out hm5 (by omega) (HW1.out.setX hL hLs) HCT1.out hc5 hoo5 hpl (by simp; omega)
      simp only [setCells, Nat.zero_add, Nat.reduceAdd] at hret
      obtain ⟨r0, r1, r2, r3, r4, g0, g1, g2, g3, g4⟩ := hr4
      clear hL hLs hmL hc4 ho4 hoo4 hm4 hmx hmxw hr5 hm5 hc5 hoo5
      have HRET := Lib.hid hret; clear hret
      go_wp2_with fail
      refine bodyPost_ret (v := .agg #[.int .i64 k1, .int .i64 n1, .string s1, .slice la L.length lc, .slice a1 ms1.length cap1]) (by simp (disch := (first | omega | (simp; done) | (simp; omega))) [results, Try.results52, go_sem, r0, r1, r2, r3, r4]) rfl ?_
      exact HRET.out
/-- what DrawAddScope hands back -/
def RetDrawnSN (w : World) (e : Ending) (w' : World) : Prop :=
  ∃ (k n : Int) (s : ByteArray) (x : List Int) (ds : List Syn) (xa : Option Addr) (xc : Nat) (a' : Option Addr) (cap' : Nat) (ms : List M) (m : Int), e = .returned (.tuple #[.agg #[.int .i64 k, .int .i64 n, .string s, .slice xa x.length xc, .slice a' ms.length cap'], .int .i64 m]) ∧
    Syn.IsL 27 ds ms ∧ (SynOwn 27 xa xc x a' cap' ms).Mine w' w.heap.size ∧ (Syn.mk k n s x ds).wf1 ∧ 1 + Syn.countL ds ≤ 400 ∧ 0 ≤ m ∧ m ≤ 9 ∧ Below w.heap.size w w'
set_option maxHeartbeats 2000000 in
theorem drawAddScope_calls (a : Option Addr) (cap : Nat) (l : List Int) (w : World) (hin : (M.sl a cap 1 5 (u8M l)).In w) (hu : ∀ z ∈ l, 0 ≤ z ∧ z ≤ 255) (hlen : l.length ≤ 1048576) :
    Calls Try.prog 17 #[.slice a l.length cap] w (RetDrawnSN w) := by
  have HIN := Lib.hid hin; clear hin; have HU := Lib.hid hu; clear hu
  go_enter Try.func17, Try.ntmps17
  go_wp2_with fail
  refine (l01New_calls a cap l _ (HIN.out.below (by (repeat (first | with_reducible assumption | with_reducible exact Below.refl _ _ | with_reducible refine Below.drew ?_ | with_reducible refine belowDrewN ?_ _ | ((with_reducible refine Below.setCell ?_ ?_ _); rotate_left; focus (first | omega | (simp; done) | (simp; omega))) | ((with_reducible refine Below.alloc ?_ ?_ _); rotate_left; focus (first | omega | (simp; done) | (simp; omega))))))) HU.out hlen).mono ?_
  rintro e w1 ⟨pb, rfl, hpb, hc1, hb1⟩
  have hz1 := hb1.size
  simp only [World.size_alloc] at hz1 hpb
  have hp1 := hc1.lt
  have hr1 : SBox w.heap.size 0 0 ⟨#[]⟩ (.slice none 0 0) (.slice none 0 0) w1 := (SBox.new 0 0 ⟨#[]⟩ (.slice none 0 0) (.slice none 0 0) w).below hb1 (by simp)
  have hbw1 : Below w.heap.size w w1 := by (repeat (first | with_reducible assumption | with_reducible exact Below.refl _ _ | with_reducible refine Below.drew ?_ | with_reducible refine belowDrewN ?_ _ | ((with_reducible refine Below.setCell ?_ ?_ _); rotate_left; focus (first | omega | (simp; done) | (simp; omega))) | ((with_reducible refine Below.alloc ?_ ?_ _); rotate_left; focus (first | omega | (simp; done) | (simp; omega))) | ((with_reducible refine Below.trans ?_ (Below.mono hb1 ?_)); rotate_left; focus (first | omega | (simp; done) | (simp; omega)))))
  clear hb1
  have HC1 := Lib.hid hc1; clear hc1; have HR1 := Lib.hid hr1; clear hr1; have HBW1 := Lib.hid hbw1; clear hbw1
  go_wp2_with fail
  refine (l2Any_calls pb a cap l _ HC1.out).mono ?_
  rintro e w2 ⟨k1, n1, s1, x1, ds1, xa1, xc1, a1, cap1, ms1, rfl, hi1, hm1, hw1, hct1, hc2, ho2⟩
  have hz2 := ho2.size
  have hr2 := HR1.out.only ho2 (.inl (by omega))
  have hbw2 : Below w.heap.size w w2 := HBW1.out.trans (ho2.below (by omega) (by omega))
  have hcm := (SynOwn_ms hm1).in_.len
  have hcx := Ints.len (SynOwn_x hm1).in_
  clear ho2
  have HI1 := Lib.hid hi1; clear hi1; have HM1 := Lib.hid hm1; clear hm1; have HW1 := Lib.hid hw1; clear hw1; have HCT1 := Lib.hid hct1; clear hct1; have HC2 := Lib.hid hc2; clear hc2; have HR2 := Lib.hid hr2; clear hr2; have HBW2 := Lib.hid hbw2; clear hbw2
  go_wp2_with fail
  refine (l01Below_calls 10 pb a cap l _ HC2.out (by decide) (by decide)).mono ?_
  rintro e w3 ⟨m, rfl, hm0, hm9, hc3, ho3⟩
  have hz3 := ho3.size
  obtain ⟨r0, r1, r2, r3, r4, g0, g1, g2, g3, g4⟩ := HR2.out.only ho3 (.inl (by omega))
  have hbw3 : Below w.heap.size w w3 := HBW2.out.trans (ho3.below (by omega) (by omega))
  have hm3 : (SynOwn 27 xa1 xc1 x1 a1 cap1 ms1).Mine w3 w1.heap.size := HM1.out.keep (fun b h1 h2 => ho3.block b h2 (.inr (by omega)))
  have hret : RetDrawnSN w (.returned (.tuple #[.agg #[.int .i64 k1, .int .i64 n1, .string s1, .slice xa1 x1.length xc1, .slice a1 ms1.length cap1], .int .i64 m])) (setCells w3 w.heap.size 0 [.int .i64 k1, .int .i64 n1, .string s1, .slice xa1 x1.length xc1, .slice a1 ms1.length cap1]) := by
    have ho4 := setCells_Only w.heap.size (bs := [w.heap.size]) (by simp) [.int .i64 k1, .int .i64 n1, .string s1, .slice xa1 x1.length xc1, .slice a1 ms1.length cap1] w3 0 (Only.refl _ w3)
    exact ⟨k1, n1, s1, x1, ds1, xa1, xc1, a1, cap1, ms1, m, rfl, HI1.out, M.Mine.mono (hm3.only ho4 fun b hb hn => by have := (hm3.lt b hb).1; simp at hn; omega) (by omega), HW1.out, HCT1.out, hm0, by omega, hbw3.trans (ho4.below (by omega) (by simp))⟩
  simp only [setCells, Nat.zero_add, Nat.reduceAdd] at hret
  clear hc3 ho3 hbw3 hm3 hm0 hm9
  have HRET := Lib.hid hret; clear hret
  go_wp2_with fail
  refine bodyPost_ret (v := .tuple #[.agg #[.int .i64 k1, .int .i64 n1, .string s1, .slice xa1 x1.length xc1, .slice a1 ms1.length cap1], .int .i64 m]) (by simp [results, Try.results17, go_sem, r0, r1, r2, r3, r4]) rfl ?_
  exact HRET.out
/-- what DrawSyntaxOf hands back -/
def RetDrawnD (w : World) (e : Ending) (w' : World) : Prop :=
  ∃ (k n : Int) (s : ByteArray) (ds : List Dat) (a' : Option Addr) (cap' : Nat) (ms : List M), e = .returned (.agg #[.int .i64 k, .int .i64 n, .string s, .slice a' ms.length cap']) ∧
    Dat.IsL 52 ds ms ∧ (M.sl a' cap' 4 52 ms).Mine w' w.heap.size ∧ (Dat.mk k n s ds).wf1 ∧ 1 + Dat.countL ds ≤ 400 ∧ Below w.heap.size w w'
theorem drawSyntaxOf_calls (a : Option Addr) (cap : Nat) (l : List Int) (w : World) (hin : (M.sl a cap 1 5 (u8M l)).In w) (hu : ∀ z ∈ l, 0 ≤ z ∧ z ≤ 255) (hlen : l.length ≤ 1048576) :
    Calls Try.prog 28 #[.slice a l.length cap] w (RetDrawnD w) := by
  have HIN := Lib.hid hin; clear hin; have HU := Lib.hid hu; clear hu
  go_enter Try.func28, Try.ntmps28
  go_wp2_with fail
  refine (l01New_calls a cap l _ (HIN.out.below (by (repeat (first | with_reducible assumption | with_reducible exact Below.refl _ _ | with_reducible refine Below.drew ?_ | with_reducible refine belowDrewN ?_ _ | ((with_reducible refine Below.setCell ?_ ?_ _); rotate_left; focus (first | omega | (simp; done) | (simp; omega))) | ((with_reducible refine Below.alloc ?_ ?_ _); rotate_left; focus (first | omega | (simp; done) | (simp; omega))))))) HU.out hlen).mono ?_
  rintro e w1 ⟨pb, rfl, hpb, hc1, hb1⟩
  have hz1 := hb1.size
  simp only [World.size_alloc] at hz1 hpb
  have hp1 := hc1.lt
  have hr1 := (Zero.new w).below hb1 (by simp)
  have hbw1 : Below w.heap.size w w1 := by (repeat (first | with_reducible assumption | with_reducible exact Below.refl _ _ | with_reducible refine Below.drew ?_ | with_reducible refine belowDrewN ?_ _ | ((with_reducible refine Below.setCell ?_ ?_ _); rotate_left; focus (first | omega | (simp; done) | (simp; omega))) | ((with_reducible refine Below.alloc ?_ ?_ _); rotate_left; focus (first | omega | (simp; done) | (simp; omega))) | ((with_reducible refine Below.trans ?_ (Below.mono hb1 ?_)); rotate_left; focus (first | omega | (simp; done) | (simp; omega)))))
  clear hb1
  have HC1 := Lib.hid hc1; clear hc1; have HR1 := Lib.hid hr1; clear hr1; have HBW1 := Lib.hid hbw1; clear hbw1
  go_wp2_with fail
  refine (l1Any_calls pb a cap l _ HC1.out).mono ?_
  rintro e w2 ⟨k1, n1, s1, ds1, a1, cap1, ms1, rfl, hi1, hm1, hw1, hct1, hc2, ho2⟩
  have hz2 := ho2.size
  obtain ⟨r0, r1, r2, r3, g0, g1, g2, g3⟩ := HR1.out.only ho2 (.inl (by omega))
  have hret : RetDrawnD w (.returned (.agg #[.int .i64 k1, .int .i64 n1, .string s1, .slice a1 ms1.length cap1])) (setCells w2 w.heap.size 0 [.int .i64 k1, .int .i64 n1, .string s1, .slice a1 ms1.length cap1]) := by
    have ho4 := setCells_Only w.heap.size (bs := [w.heap.size]) (by simp) [.int .i64 k1, .int .i64 n1, .string s1, .slice a1 ms1.length cap1] w2 0 (Only.refl _ w2)
    exact ⟨k1, n1, s1, ds1, a1, cap1, ms1, rfl, hi1, M.Mine.mono (hm1.only ho4 fun b hb hn => by have := (hm1.lt b hb).1; simp at hn; omega) (by omega), hw1, hct1, (HBW1.out.trans (ho2.below (by omega) (by omega))).trans (ho4.below (by omega) (by simp))⟩
  simp only [setCells, Nat.zero_add, Nat.reduceAdd] at hret
  clear hi1 hm1 hw1 hct1 hc2 ho2
  have HRET := Lib.hid hret; clear hret
  go_wp2_with fail
  refine bodyPost_ret (v := .agg #[.int .i64 k1, .int .i64 n1, .string s1, .slice a1 ms1.length cap1]) (by simp [results, Try.results28, go_sem, r0, r1, r2, r3]) rfl ?_
  exact HRET.out
end Go.Proofs.Ytghbnehocggnnaa
