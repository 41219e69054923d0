/-
  The text of a piece of syntax, in plain terms. No condition.
-/
import Derived.Test.YtoflfamfhpijcaaDoorF9
import Derived.Test.YtoflfamfhpijcaaDoorY9
set_option linter.unusedVariables false
set_option linter.unusedSimpArgs false
set_option maxRecDepth 100000
namespace Go.Proofs.YtoflfamfhpijcaaDoor
open Go.RowKit

mutual
/-- the text of a piece of syntax -/
def fmtS : Syn → List UInt8
  | .mk k n s x ds => if k = 0 then 40 :: (joinB [32] (fmtSL ds) ++ [41]) else fmtD (.mk k n s []) ++ scT x
def fmtSL : List Syn → List (List UInt8)
  | [] => []
  | d :: r => fmtS d :: fmtSL r
end
theorem fmtSL_map : ∀ ds : List Syn, fmtSL ds = ds.map fmtS
  | [] => rfl
  | d :: r => by rw [fmtSL, fmtSL_map r]; rfl
theorem fmtSL_take {ds : List Syn} {j : Nat} {d : Syn} (h : ds[j]? = some d) : fmtSL (ds.take (j + 1)) = fmtSL (ds.take j) ++ [fmtS d] := by
  rw [fmtSL_map, fmtSL_map, take_snoc h, List.map_append]; rfl
theorem fmtSL_length (ds : List Syn) : (fmtSL ds).length = ds.length := by rw [fmtSL_map]; simp
theorem fmtS_list (n : Int) (s : ByteArray) (x : List Int) (ds : List Syn) : fmtS (.mk 0 n s x ds) = 40 :: (joinB [32] (fmtSL ds) ++ [41]) := by rw [fmtS, if_pos rfl]
theorem fmtS_leaf {k : Int} (h : k ≠ 0) (n : Int) (s : ByteArray) (x : List Int) (ds : List Syn) : fmtS (.mk k n s x ds) = fmtD (.mk k n s []) ++ scT x := by rw [fmtS, if_neg h]
theorem fmtD_leaf_length (k n : Int) (s : ByteArray) (hn : I64 n) : (fmtD (.mk k n s [])).length ≤ 22 + s.size := by
  have hi := Lib.itoa_length_le n hn.1 hn.2
  have hs : s.data.toList.length = s.size := rfl
  rw [fmtD]
  split
  · omega
  · split
    · omega
    · split
      · split <;> (simp only [List.length_cons, List.length_nil]; omega)
      · split
        · simp only [List.length_cons, List.length_append, List.length_nil]; omega
        · simp only [fmtL, joinB, List.length_cons, List.length_append, List.length_nil]; omega
theorem fmtS_wt (ds : List Syn) (hw : Syn.wfL ds) : ((fmtSL ds).map fun x => x.length + 1).sum ≤ 25 * (ds.length + Syn.wtX ds) := by
  revert hw
  refine Syn.inductL (P := fun ds => Syn.wfL ds → ((fmtSL ds).map fun x => x.length + 1).sum ≤ 25 * (ds.length + Syn.wtX ds)) (fun ds ih => ?_) ds
  induction ds with
  | nil => intro _; simp [fmtSL]
  | cons d r ihr =>
    obtain ⟨k, n, s, x, es⟩ := d
    intro hw
    have hw' : (Syn.mk k n s x es).wf ∧ Syn.wfL r := hw
    have hw1 : I64 n ∧ (∀ z ∈ x, I64 z) ∧ Syn.wfL es := by have := hw'.1; simp only [Syn.wf] at this; exact ⟨this.2.1, this.2.2.2.1, this.2.2.2.2⟩
    have h1 := ih k n s x es (List.mem_cons_self ..) hw1.2.2
    have h2 := ihr (fun k n s x es hm => ih k n s x es (List.mem_cons_of_mem _ hm)) hw'.2
    have h3 : (fmtS (.mk k n s x es)).length ≤ 24 + 25 * (s.size + (x.length + (es.length + Syn.wtX es))) := by
      have hj := joinB_length [32] (fmtSL es)
      have hx := scT_length hw1.2.1
      have hl := fmtD_leaf_length k n s hw1.1
      simp only [List.length_singleton] at hj
      rw [fmtS]
      split
      · simp only [List.length_cons, List.length_append, List.length_nil]; omega
      · rw [List.length_append]; omega
    simp only [fmtSL, List.map_cons, List.sum_cons, List.length_cons, Syn.wtX, Syn.wt] at *
    omega
theorem syn_leaf {k n : Int} {s : ByteArray} {x : List Int} {ds : List Syn} (h : (Syn.mk k n s x ds).ok) (hk : k ≠ 0) : ds = [] := by
  have h1 := (Syn.ok_mk.1 h).1
  rw [nodeB, if_neg hk] at h1
  have h2 : (ds.length : Int) = 0 := by
    split at h1
    · simp only [Bool.and_eq_true, decide_eq_true_eq] at h1; exact h1.2.2
    · split at h1
      · simp only [Bool.and_eq_true, decide_eq_true_eq] at h1; exact h1.2.2
      · split at h1
        · simp only [Bool.and_eq_true, decide_eq_true_eq] at h1; exact h1.2.2
        · split at h1
          · simp only [Bool.and_eq_true, decide_eq_true_eq] at h1; exact h1.2.2
          · cases h1
  exact List.length_eq_zero_iff.1 (by omega)
theorem syn_leaf_ok {k n : Int} {s : ByteArray} {x : List Int} (h : (Syn.mk k n s x []).ok) : (Dat.mk k n s []).ok := Dat.ok_mk.2 ⟨(Syn.ok_mk.1 h).1, by intro d hd; cases hd⟩
theorem Syn.wfL_iff {ds : List Syn} : Syn.wfL ds ↔ ∀ d ∈ ds, d.wf := by
  induction ds with
  | nil => simp [Syn.wfL]
  | cons d r ih => simp [Syn.wfL, ih]
theorem Syn.wfL_take {ds : List Syn} (h : Syn.wfL ds) (j : Nat) : Syn.wfL (ds.take j) := Syn.wfL_iff.2 fun d hd => Syn.wfL_iff.1 h d (List.mem_of_mem_take hd)
theorem Syn.wtX_pre : ∀ {ds : List Syn} {j : Nat} {d : Syn}, ds[j]? = some d → Syn.wtX (ds.take j) + d.wt ≤ Syn.wtX ds
  | [], j, d, h => by simp at h
  | x :: r, 0, d, h => by simp at h; subst h; simp [Syn.wtX]
  | x :: r, j + 1, d, h => by have := Syn.wtX_pre (ds := r) (j := j) (by simpa using h); rw [List.take_succ_cons]; simp only [Syn.wtX]; omega
theorem fmtS_step0 (l : List UInt8) {ds : List Syn} {d : Syn} (h : ds[0]? = some d) : l ++ 40 :: joinB [32] (fmtSL (ds.take (0 + 1))) = (l ++ 40 :: joinB [32] (fmtSL (ds.take 0))) ++ fmtS d := by
  rw [fmtSL_take h]; simp [fmtSL, joinB]
theorem fmtS_step (l : List UInt8) {ds : List Syn} {j : Nat} {d : Syn} (hj : 0 < j) (h : ds[j]? = some d) : l ++ 40 :: joinB [32] (fmtSL (ds.take (j + 1))) = ((l ++ 40 :: joinB [32] (fmtSL (ds.take j))) ++ [32]) ++ fmtS d := by
  rw [fmtSL_take h, joinB_snoc]
  have hne : (fmtSL (ds.take j)).isEmpty = false := by
    rw [fmtSL_map]
    cases ds with
    | nil => simp at h
    | cons y r => cases j with
      | zero => omega
      | succ j => simp
  rw [hne]; simp
theorem Kb.sbox {lo : Nat} {a b : World} {c : Nat} {k n : Int} {s : ByteArray} {x v : Value} (h : Kb lo a b) (hc : a.heap[c]? = some (.cells #[.int .i64 k, .int .i64 n, .string s, x, v] 69)) (hd : SBox c k n s x v a) : SBox c k n s x v b :=
  hd.of ((h.2 c _ hc (by simp) (by intro c fz h; injection h with h1 h2 h3; exact absurd h2 (by decide))).trans hc.symm)
end Go.Proofs.YtoflfamfhpijcaaDoor
