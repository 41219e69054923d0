/-
  The arguments of a law, opened: bytes. No condition.
-/
import Derived.Test.YtoflfamfhpijcaaOpen
import Derived.Test.YtoflfamfhpijcaaQ1
set_option linter.unusedVariables false
set_option maxRecDepth 100000
set_option linter.unusedSimpArgs false
namespace Go.Proofs.Ytoflfamfhpijcaa
open Go.ChangeShapes Go.WideShapes Go.ChangeAt Go.RowKit

section
variable {H : Type} {enc : TypeId × Value → H} {w : World} {sp : Nat → Bool} {hd : Bool}
theorem cellsU8 : Try.prog.cellsOf 5 = 1 := by kernel_rfl
theorem U8_of {n : Int} (h : (Lit.int .u8 n).wf = true) : 0 ≤ n ∧ n ≤ 255 := by
  simp [Lit.wf, IntKind.min, IntKind.max, IntKind.signed, IntKind.bits] at h
  exact h
theorem rel_u8s : ∀ {ys : List Int} {ms : List M}, Rel2 (fun (n : Int) m => m = .c (.int .u8 n) ∧ 0 ≤ n ∧ n ≤ 255) ys ms → ms = u8M ys ∧ ∀ n ∈ ys, 0 ≤ n ∧ n ≤ 255
  | [], _, h => by simp [Rel2] at h; simp [h, u8M]
  | y :: ys, ms, h => by
    obtain ⟨m, r, rfl, ⟨rfl, h1⟩, h2⟩ := h
    obtain ⟨rfl, h3⟩ := rel_u8s h2
    exact ⟨rfl, by intro n hn; rcases List.mem_cons.1 hn with rfl | hn; exact h1; exact h3 n hn⟩
theorem arg_bytes {v : Value} {d : DataW H} {p : List MemPlace} {b : Nat} (hv : Value.okWide Try.prog w .any b 28 v) (h : DataW.Trod enc Try.prog w 0 sp hd 28 v d p) :
    ∃ a cap l, v = .slice a l.length cap ∧ (M.sl a cap 1 5 (u8M l)).In w ∧ ∀ n ∈ l, 0 ≤ n ∧ n ≤ 255 := by
  obtain ⟨a0, len0, cap0, rfl⟩ := okWide_slice Try.underlying28 hv
  obtain ⟨f, hf⟩ := h
  obtain ⟨a, cap, ys, ms, hcs, hr, hin⟩ := op_slice (fun (n : Int) m => m = .c (.int .u8 n) ∧ 0 ≤ n ∧ n ≤ 255) Try.underlying28 cellsU8 (by decide) hf (fun f cs' x' _ hx => by
    obtain ⟨n, rfl, _, hw⟩ := DataW.trod_int Try.underlying5 hx
    exact ⟨n, .c (.int .u8 n), ⟨rfl, U8_of hw⟩, rfl, trivial⟩)
  obtain ⟨rfl, hn⟩ := rel_u8s hr
  simp [Value.cells] at hcs
  obtain ⟨rfl, rfl, rfl⟩ := hcs
  exact ⟨_, _, ys, by rw [u8M_length], hin, hn⟩
end
end Go.Proofs.Ytoflfamfhpijcaa
