/-
  Walks: texts. No condition.
-/
import Derived.Test.YtigmgfinjapchaaW4
set_option linter.unusedVariables false
set_option linter.unusedSimpArgs false
set_option maxRecDepth 100000
namespace Go.Proofs.Ytigmgfinjapchaa
open Go.RowKit

theorem conv1 (x : Int) (w : World) : (convert 28 9 (.slice (some ⟨w.heap.size, 0, none⟩) 1 1)).run Try.prog (w.alloc (.cells #[.int .u8 x] 5)) = .ok (.string (strOfNums [x])) (w.alloc (.cells #[.int .u8 x] 5)) := by
  refine run_convert_bytes_arg (P := Try.prog) (w.alloc (.cells #[.int .u8 x] 5)) 28 5 Try.underlying28 Try.underlying5 w.heap.size 0 1 1 [x] rfl (fun i hi => ?_) 9 Try.underlying9
  obtain rfl : i = 0 := by omega
  rw [World.cell?_alloc_new]; rfl

/-- decimal digits, put ahead of s -/
def digS : Nat → Nat → ByteArray → ByteArray
  | 0, _, s => s
  | d + 1, k, s => if k = 0 then s else digS d (k / 10) (strOfNums [48 + (k : Int) % 10] ++ s)
theorem digS_zero (d : Nat) (s : ByteArray) : digS d 0 s = s := by cases d <;> simp [digS]
theorem pow_step {d k : Nat} (h : k < 10 ^ d) (hk : 0 < k) : ∃ d', d = d' + 1 ∧ k / 10 < 10 ^ d' := by
  cases d with
  | zero => simp at h; omega
  | succ d => refine ⟨d, rfl, ?_⟩; rw [Nat.pow_succ] at h; omega
/-- the text that the law writes: m and the digits of k -/
def mtx (k : Int) : ByteArray := if k ≤ 0 then ⟨#[109, 48]⟩ else ⟨#[109]⟩ ++ digS 20 k.toNat ⟨#[]⟩
theorem digS_step {d k : Nat} {s : ByteArray} (hk : 0 < k) : digS (d + 1) k s = digS d (k / 10) (strOfNums [48 + (k : Int) % 10] ++ s) := by
  simp [digS]; omega
def DigRel (K0 : Nat) (k : Nat) (s : ByteArray) : Prop := ∃ d, s.size + d = 20 ∧ k < 10 ^ d ∧ digS d k s = digS 20 K0 ⟨#[]⟩
theorem DigRel.size {K0 k : Nat} {s : ByteArray} (h : DigRel K0 k s) : s.size ≤ 20 := by obtain ⟨d, h1, _⟩ := h; omega
theorem DigRel.step {K0 k : Nat} {s : ByteArray} (h : DigRel K0 k s) (hk : 0 < k) : DigRel K0 (k / 10) (strOfNums [48 + (k : Int) % 10] ++ s) := by
  obtain ⟨d, h1, h2, h3⟩ := h
  obtain ⟨d, rfl, h4⟩ := pow_step h2 hk
  refine ⟨d, ?_, h4, by rw [← h3, digS_step hk]⟩
  rw [ByteArray.size_append, strOfNums_size]
  simp only [List.length_cons, List.length_nil]; omega
theorem DigRel.done {K0 : Nat} {s : ByteArray} (h : DigRel K0 0 s) : s = digS 20 K0 ⟨#[]⟩ := by
  obtain ⟨d, h1, h2, h3⟩ := h
  rw [← h3, digS_zero]
theorem DigRel.start {K0 : Nat} (h : K0 ≤ 9223372036854775807) : DigRel K0 K0 ⟨#[]⟩ := ⟨20, rfl, by omega, rfl⟩
theorem ret_s {a b : ByteArray} (h : a = b) : Ending.returned (.string a) = .returned (.string b) := by rw [h]

end Go.Proofs.Ytigmgfinjapchaa
