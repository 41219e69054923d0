/-
  The text of a number, of a datum and of a piece of syntax, in plain terms. No condition.
-/
import Derived.Lib.ItoaNum
import Derived.Lib.ItoaLen
import Derived.Test.YtoflfamfhpijcaaDoorDat
set_option linter.unusedVariables false
set_option linter.unusedSimpArgs false
namespace Go.Proofs.YtoflfamfhpijcaaDoor
open Go.RowKit

theorem decDigits_low {u : Nat} (h : u < 10) : Lib.decDigits u = [UInt8.ofNat (48 + u)] := by rw [Lib.decDigits, dif_pos h]
theorem decDigits_step {u : Nat} (h : ¬ u < 10) : Lib.decDigits u = Lib.decDigits (u / 10) ++ [UInt8.ofNat (48 + u % 10)] := by rw [Lib.decDigits, dif_neg h]
/-- what is still to be written in front -/
def numRest (u : Nat) : List UInt8 := if u = 0 then [] else Lib.decDigits u
theorem numRest_zero : numRest 0 = [] := rfl
theorem numRest_pos {u : Nat} (h : u ≠ 0) : numRest u = Lib.decDigits u := by simp [numRest, h]
theorem numRest_step {u : Nat} (h : u ≠ 0) : numRest u = numRest (u / 10) ++ [UInt8.ofNat (48 + u % 10)] := by
  rw [numRest_pos h]
  by_cases h10 : u < 10
  · rw [decDigits_low h10, Nat.div_eq_of_lt h10, Nat.mod_eq_of_lt h10, numRest_zero]; rfl
  · rw [decDigits_step h10, numRest_pos (by omega)]
theorem itoa_zero : Lib.itoa 0 = [48] := by unfold Lib.itoa; rw [if_neg (by decide)]; exact decDigits_low (by decide)
theorem itoa_pos {n : Int} (h0 : n ≠ 0) (h : ¬ n < 0) : Lib.itoa n = numRest n.natAbs := by
  unfold Lib.itoa; rw [if_neg h, numRest_pos (by omega)]; congr 1; omega
theorem itoa_neg' {n : Int} (h : n < 0) : Lib.itoa n = 45 :: numRest n.natAbs := by
  unfold Lib.itoa; rw [if_pos h, numRest_pos (by omega)]

/-- the texts with something between each two -/
def joinB (sep : List UInt8) : List (List UInt8) → List UInt8
  | [] => []
  | a :: r => if r.isEmpty then a else a ++ sep ++ joinB sep r
theorem joinB_snoc (sep : List UInt8) : ∀ (l : List (List UInt8)) (x : List UInt8), joinB sep (l ++ [x]) = if l.isEmpty then x else joinB sep l ++ sep ++ x
  | [], x => by simp [joinB]
  | [a], x => by simp [joinB]
  | a :: b :: r, x => by
    have h := joinB_snoc sep (b :: r) x
    simp only [List.isEmpty_cons, Bool.false_eq_true, if_false] at h
    show joinB sep (a :: ((b :: r) ++ [x])) = _
    rw [joinB, if_neg (by simp), h]
    simp [joinB]
theorem joinB_length (sep : List UInt8) : ∀ (l : List (List UInt8)), (joinB sep l).length ≤ (l.map fun x => x.length + sep.length).sum
  | [] => by simp [joinB]
  | a :: r => by
    have h := joinB_length sep r
    rw [joinB]
    split
    · simp; omega
    · simp; omega
mutual
/-- the text of a datum -/
def fmtD : Dat → List UInt8
  | .mk k n s ds => if k = 1 then s.data.toList else if k = 2 then Lib.itoa n else if k = 3 then (if n = 1 then [35, 116] else [35, 102]) else if k = 4 then 34 :: (s.data.toList ++ [34]) else 40 :: (joinB [32] (fmtL ds) ++ [41])
def fmtL : List Dat → List (List UInt8)
  | [] => []
  | d :: r => fmtD d :: fmtL r
end
theorem fmtL_map : ∀ ds : List Dat, fmtL ds = ds.map fmtD
  | [] => rfl
  | d :: r => by rw [fmtL, fmtL_map r]; rfl
theorem fmtL_take {ds : List Dat} {j : Nat} {d : Dat} (h : ds[j]? = some d) : fmtL (ds.take (j + 1)) = fmtL (ds.take j) ++ [fmtD d] := by
  rw [fmtL_map, fmtL_map, take_snoc h, List.map_append]; rfl
theorem fmtL_length (ds : List Dat) : (fmtL ds).length = ds.length := by rw [fmtL_map]; simp
theorem fmtD_sym (n : Int) (s : ByteArray) (ds : List Dat) : fmtD (.mk 1 n s ds) = s.data.toList := by rw [fmtD, if_pos rfl]
theorem fmtD_num (n : Int) (s : ByteArray) (ds : List Dat) : fmtD (.mk 2 n s ds) = Lib.itoa n := by rw [fmtD, if_neg (by decide), if_pos rfl]
theorem fmtD_tr (s : ByteArray) (ds : List Dat) : fmtD (.mk 3 1 s ds) = [35, 116] := by rw [fmtD, if_neg (by decide), if_neg (by decide), if_pos rfl, if_pos rfl]
theorem fmtD_fa {n : Int} (h : n ≠ 1) (s : ByteArray) (ds : List Dat) : fmtD (.mk 3 n s ds) = [35, 102] := by rw [fmtD, if_neg (by decide), if_neg (by decide), if_pos rfl, if_neg h]
theorem fmtD_str (n : Int) (s : ByteArray) (ds : List Dat) : fmtD (.mk 4 n s ds) = 34 :: (s.data.toList ++ [34]) := by rw [fmtD, if_neg (by decide), if_neg (by decide), if_neg (by decide), if_pos rfl]
theorem fmtD_list {k : Int} (h1 : k ≠ 1) (h2 : k ≠ 2) (h3 : k ≠ 3) (h4 : k ≠ 4) (n : Int) (s : ByteArray) (ds : List Dat) : fmtD (.mk k n s ds) = 40 :: (joinB [32] (fmtL ds) ++ [41]) := by
  rw [fmtD, if_neg h1, if_neg h2, if_neg h3, if_neg h4]
theorem fmt_wt (ds : List Dat) (hw : Dat.wfL ds) : ((fmtL ds).map fun x => x.length + 1).sum ≤ 23 * (ds.length + Dat.wtX ds) := by
  revert hw
  refine Dat.inductL (P := fun ds => Dat.wfL ds → ((fmtL ds).map fun x => x.length + 1).sum ≤ 23 * (ds.length + Dat.wtX ds)) (fun ds ih => ?_) ds
  induction ds with
  | nil => intro _; simp [fmtL]
  | cons d r ihr =>
    obtain ⟨k, n, s, es⟩ := d
    intro hw
    have hw' : (Dat.mk k n s es).wf ∧ Dat.wfL r := hw
    have hw1 : I64 n ∧ Dat.wfL es := ⟨by have := hw'.1; simp only [Dat.wf] at this; exact this.2.1, by have := hw'.1; simp only [Dat.wf] at this; exact this.2.2.2⟩
    have h1 := ih k n s es (List.mem_cons_self ..) hw1.2
    have h2 := ihr (fun k n s es hm => ih k n s es (List.mem_cons_of_mem _ hm)) hw'.2
    have h3 : (fmtD (.mk k n s es)).length ≤ 22 + 23 * (s.size + (es.length + Dat.wtX es)) := by
      have hj := joinB_length [32] (fmtL es)
      have hi := Lib.itoa_length_le n hw1.1.1 hw1.1.2
      have hs : s.data.toList.length = s.size := rfl
      simp only [List.length_singleton] at hj
      rw [fmtD]
      split
      · omega
      · split
        · omega
        · split
          · split <;> (simp only [List.length_cons, List.length_nil]; omega)
          · split
            · simp only [List.length_cons, List.length_append, List.length_nil]; omega
            · simp only [List.length_cons, List.length_append, List.length_nil]; omega
    simp only [fmtL, List.map_cons, List.sum_cons, List.length_cons, Dat.wtX, Dat.wt] at *
    omega
end Go.Proofs.YtoflfamfhpijcaaDoor
