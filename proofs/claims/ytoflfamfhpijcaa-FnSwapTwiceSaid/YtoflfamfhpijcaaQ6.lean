/-
  Walks: data drawn. No condition.
-/
import Derived.Test.YtoflfamfhpijcaaQ5
import Derived.Test.YtoflfamfhpijcaaN7
import Derived.Test.YtoflfamfhpijcaaB1
set_option linter.unusedVariables false
set_option linter.unusedSimpArgs false
set_option maxRecDepth 100000
namespace Go.Proofs.Ytoflfamfhpijcaa
open Go.RowKit

/-- a new datum's cells at block b -/
structure Zero (b : Nat) (w : World) : Prop where
  c0 : w.cell? ⟨b, 0, none⟩ = some (.int .i64 0)
  c1 : w.cell? ⟨b, 1, none⟩ = some (.int .i64 0)
  c2 : w.cell? ⟨b, 2, none⟩ = some (.string ⟨#[]⟩)
  c3 : w.cell? ⟨b, 3, none⟩ = some (.slice none 0 0)
  f0 : w.frozen? ⟨b, 0, none⟩ = false
  f1 : w.frozen? ⟨b, 1, none⟩ = false
  f2 : w.frozen? ⟨b, 2, none⟩ = false
  f3 : w.frozen? ⟨b, 3, none⟩ = false
theorem Zero.lt {b : Nat} {w : World} (h : Zero b w) : b < w.heap.size := World.block_lt_of_cell? w _ h.c0
theorem Zero.of {b : Nat} {w w' : World} (h : Zero b w) (hk : w'.heap[b]? = w.heap[b]?) : Zero b w' :=
  ⟨(World.cell?_of_block hk).trans h.c0, (World.cell?_of_block hk).trans h.c1, (World.cell?_of_block hk).trans h.c2, (World.cell?_of_block hk).trans h.c3,
   (World.frozen?_of_block hk).trans h.f0, (World.frozen?_of_block hk).trans h.f1, (World.frozen?_of_block hk).trans h.f2, (World.frozen?_of_block hk).trans h.f3⟩
theorem Zero.only {b lo hi : Nat} {w w' : World} (h : Zero b w) (k : OnlyIn lo hi w w') (hb : b < lo ∨ hi ≤ b) : Zero b w' := h.of (k.block b h.lt hb)
theorem Zero.below {b B : Nat} {w w' : World} (h : Zero b w) (k : Below B w w') (hb : b < B) : Zero b w' := h.of (k.block b hb)
theorem Zero.new (w : World) : Zero w.heap.size (w.alloc (.cells #[.int .i64 0, .int .i64 0, .string ⟨#[]⟩, .slice none 0 0] 31)) := by
  constructor <;> simp [go_sem]

def textsB : List Value → Bool
  | [] => true
  | .string s :: r => decide (s.size ≤ 100) && textsB r
  | _ => false
theorem Texts.of {cs : Array Value} (h : textsB cs.toList = true) : Texts cs := by
  unfold Texts
  generalize cs.toList = l at *
  induction l with
  | nil => simp
  | cons x r ih =>
    cases x with
    | string s =>
      simp only [textsB, Bool.and_eq_true, decide_eq_true_eq] at h
      intro v hv
      rcases List.mem_cons.1 hv with rfl | hv
      · exact ⟨s, rfl, h.1⟩
      · exact ih h.2 v hv
    | _ => simp [textsB] at h
def numsB : List Value → Bool
  | [] => true
  | .int .i64 s :: r => decide (-9223372036854775808 ≤ s ∧ s ≤ 9223372036854775807) && numsB r
  | _ => false
theorem Nums.of {cs : Array Value} (h : numsB cs.toList = true) : Nums cs := by
  unfold Nums
  generalize cs.toList = l at *
  induction l with
  | nil => simp
  | cons x r ih =>
    cases x with
    | int k s =>
      cases k with
      | i64 =>
        simp only [numsB, Bool.and_eq_true, decide_eq_true_eq] at h
        intro v hv
        rcases List.mem_cons.1 hv with rfl | hv
        · exact ⟨s, rfl, h.1⟩
        · exact ih h.2 v hv
      | _ => simp [numsB] at h
    | _ => simp [numsB] at h

/-- a datum without items made -/
def RetLeaf (w : World) (e : Ending) (w' : World) : Prop :=
  ∃ (k n : Int) (s : ByteArray) (a : Option Addr) (cap : Nat) (ms : List M), e = .returned (.agg #[.int .i64 k, .int .i64 n, .string s, .slice a ms.length cap]) ∧ Dat.IsL 31 [] ms ∧ (M.sl a cap 4 31 ms).Mine w' w.heap.size ∧ (Dat.mk k n s []).wf ∧ Below w.heap.size w w'
theorem onlyS_size (b : Bool) (s : ByteArray) : (onlyS b s).size ≤ s.size := by unfold onlyS; split; exact Nat.le_refl _; exact Nat.zero_le _
theorem onlyN_I64 (b : Bool) {n : Int} (h : I64 n) : I64 (onlyN b n) := by unfold onlyN; split; exact h; (unfold I64; omega)
theorem leafSym (s : ByteArray) (w : World) (hs : s.size ≤ 100) : Calls Try.prog 147 #[.string s] w (RetLeaf w) := by
  refine (sSymbolDatum_calls s _ (by omega)).mono ?_
  rintro e w' ⟨a, cap, ms, rfl, hi, hm, hb⟩
  exact ⟨_, _, _, a, cap, ms, rfl, hi, hm, ⟨onlyN_I64 _ (by unfold I64; omega), by show I64 0; unfold I64; omega, Nat.le_trans (onlyS_size _ _) (by omega), trivial⟩, hb⟩
theorem leafStr (s : ByteArray) (w : World) (hs : s.size ≤ 100) : Calls Try.prog 150 #[.string s] w (RetLeaf w) := by
  refine (sStringDatum_calls s _ (by omega)).mono ?_
  rintro e w' ⟨a, cap, ms, rfl, hi, hm, hb⟩
  exact ⟨_, _, _, a, cap, ms, rfl, hi, hm, ⟨onlyN_I64 _ (by unfold I64; omega), by show I64 0; unfold I64; omega, Nat.le_trans (onlyS_size _ _) (by omega), trivial⟩, hb⟩
theorem leafNum (n : Int) (w : World) (hn : I64 n) : Calls Try.prog 148 #[.int .i64 n] w (RetLeaf w) := by
  refine (sNumberDatum_calls n _).mono ?_
  rintro e w' ⟨a, cap, ms, rfl, hi, hm, hb⟩
  exact ⟨_, _, _, a, cap, ms, rfl, hi, hm, ⟨onlyN_I64 _ (by unfold I64; omega), onlyN_I64 _ hn, by show (ByteArray.mk #[]).size ≤ _; decide, trivial⟩, hb⟩
theorem leafBool (b : Bool) (w : World) : Calls Try.prog 149 #[.bool b] w (RetLeaf w) := by
  refine (sBooleanDatum_calls b _).mono ?_
  rintro e w' ⟨a, cap, ms, rfl, hi, hm, hb⟩
  exact ⟨_, _, _, a, cap, ms, rfl, hi, hm, ⟨by show I64 3; unfold I64; omega, by show I64 (bnum b); unfold bnum I64; split <;> omega, by show (ByteArray.mk #[]).size ≤ _; decide, trivial⟩, hb⟩
/-- a datum drawn, of at most B nodes -/
def DrawnD (B : Nat) (pb : Nat) (a : Option Addr) (cap : Nat) (l : List Int) (w : World) (e : Ending) (w' : World) : Prop :=
  ∃ (k n : Int) (s : ByteArray) (ds : List Dat) (a' : Option Addr) (cap' : Nat) (ms : List M), e = .returned (.agg #[.int .i64 k, .int .i64 n, .string s, .slice a' ms.length cap']) ∧ Dat.IsL 31 ds ms ∧ (M.sl a' cap' 4 31 ms).Mine w' w.heap.size ∧ (Dat.mk k n s ds).wf ∧ 1 + Dat.countL ds ≤ B ∧ Cur pb a cap l w' ∧ OnlyIn pb (pb + 1) w w'
def nB : Nat → Nat
  | 0 => 1
  | d + 1 => 1 + 4 * nB d
theorem nB_pos (d : Nat) : 1 ≤ nB d := by cases d <;> simp [nB]
end Go.Proofs.Ytoflfamfhpijcaa
