/-
  The arguments of a law, opened: what is read as data lies in memory as such. No condition.
-/
import Derived.Test.YtigmgfinjapchaaProg
import Derived.Test.YtigmgfinjapchaaDat
import Derived.Test.YtigmgfinjapchaaW3
import Derived.ProofKit
import Derived.OpenShut
import Derived.ShutString
import Derived.ChangeOld
import Derived.ChangeArms
import Derived.Below
import Derived.Deep.Slices
set_option linter.unusedVariables false
set_option maxRecDepth 100000
set_option linter.unusedSimpArgs false
namespace Go.Proofs.Ytigmgfinjapchaa
open Go.ChangeShapes Go.WideShapes Go.ChangeAt Go.RowKit

def Rel2 {α : Type} (R : α → M → Prop) : List α → List M → Prop
  | [], ms => ms = []
  | y :: ys, ms => ∃ m r, ms = m :: r ∧ R y m ∧ Rel2 R ys r
theorem Rel2.snoc {α : Type} {R : α → M → Prop} : ∀ {ys : List α} {ms : List M} {y : α} {m : M}, Rel2 R ys ms → R y m → Rel2 R (ys ++ [y]) (ms ++ [m])
  | [], ms, y, m, h, hd => by simp [Rel2] at h; subst h; exact ⟨m, [], rfl, hd, rfl⟩
  | x :: ds, ms, d, m, h, hd => by
    obtain ⟨y, r, rfl, h1, h2⟩ := h
    exact ⟨y, r ++ [m], rfl, h1, Rel2.snoc h2 hd⟩

theorem I64_of {n : Int} (h : (Lit.int .i64 n).wf = true) : I64 n := by
  simp [Lit.wf, IntKind.min, IntKind.max, IntKind.signed, IntKind.bits] at h
  exact h

section
variable {H : Type} {enc : TypeId × Value → H} {P : Program} {w : World} {sp : Nat → Bool} {hd : Bool}

theorem op_slice {α : Type} (R : α → M → Prop) {t e : TypeId} {fuel sz : Nat} {cs : List Value} {x : DataW H × List MemPlace} (ht : P.underlying t = some (.slice e)) (hsz : P.cellsOf e = sz) (hp : 0 < sz)
    (h : DataW.trod enc P w 0 sp hd fuel t cs = some x) (hel : ∀ f cs' x', f < fuel → DataW.trod enc P w 0 sp hd f e cs' = some x' → ∃ y m, R y m ∧ m.cells = cs' ∧ m.In w) :
    ∃ a cap ys ms, cs = [.slice a ms.length cap] ∧ Rel2 R ys ms ∧ (M.sl a cap sz e ms).In w := by
  rcases DataW.trod_slice ht h with ⟨rfl, _⟩ | ⟨a, len, cap, elems, rest, n, rfl, rfl, rfl, hb, hl, hm, hlen, hel2, _, _⟩
  · exact ⟨none, 0, [], [], rfl, rfl, ⟨⟨by simp [M.cellsL], hp, Nat.le_refl _, by simp [maxLen], fun _ => ⟨rfl, rfl⟩, (fun ad had => by cases had)⟩, by simp⟩, trivial⟩
  · have key : ∀ j, j ≤ len → ∃ ys ms, ms.length = j ∧ Rel2 R ys ms ∧ M.InL w ms ∧ (∀ m ∈ ms, m.cells.length = sz) ∧ ∀ (i : Nat) u, (M.cellsL ms)[i]? = some u → w.cell? (a.add i) = some u := by
      intro j
      induction j with
      | zero => intro _; exact ⟨[], [], rfl, rfl, trivial, by simp, by simp [M.cellsL]⟩
      | succ j ih =>
        intro hj
        obtain ⟨ys, ms, h1, h2, h3, h4, h5⟩ := ih (by omega)
        have he := hel2 j (by omega)
        rw [List.getElem?_eq_getElem (by omega)] at he
        obtain ⟨cs', hc, ht'⟩ := Option.bind_eq_some_iff.1 he
        obtain ⟨y, m, hr, hmc, hin⟩ := hel n cs' _ (by omega) ht'
        obtain ⟨_, hcl, hcell⟩ := World.cells?_some hc
        rw [hsz] at hcl hcell
        refine ⟨ys ++ [y], ms ++ [m], by simp [h1], h2.snoc hr, (M.InL_append _ _).2 ⟨h3, hin, trivial⟩, ?_, ?_⟩
        · intro m' hm'
          rcases List.mem_append.1 hm' with h | h
          · exact h4 m' h
          · simp at h; subst h; rw [hmc, hcl]
        · intro i u hu
          rw [M.cellsL_append] at hu
          have hlen' := M.cellsL_length h4
          rw [h1] at hlen'
          by_cases hi : i < j * sz
          · rw [List.getElem?_append_left (by omega)] at hu
            exact h5 i u hu
          · rw [List.getElem?_append_right (by omega), hlen'] at hu
            simp only [M.cellsL, List.append_nil, hmc] at hu
            have hlt := (List.getElem?_eq_some_iff.1 hu).1
            have := hcell (i - j * sz) (by omega)
            rw [hu] at this
            rwa [Go.Deep.add_add, show j * sz + (i - j * sz) = i by omega] at this
    obtain ⟨ys, ms, h1, h2, h3, h4, h5⟩ := key len (Nat.le_refl _)
    refine ⟨some a, cap, ys, ms, by rw [h1], h2, ⟨⟨M.cellsL_length h4, hp, by omega, hm, (fun h => by cases h), fun ad had j u hu => ?_⟩, h4⟩, h3⟩
    obtain rfl := Option.some.inj had
    exact h5 j u hu
end

section
variable {H : Type} {enc : TypeId × Value → H} {w : World} {sp : Nat → Bool} {hd : Bool}
theorem cellsInt : Try.prog.cellsOf 3 = 1 := by kernel_rfl
theorem cellsStr : Try.prog.cellsOf 9 = 1 := by kernel_rfl
theorem rel_ints : ∀ {ys : List Int} {ms : List M}, Rel2 (fun (n : Int) m => m = .c (.int .i64 n) ∧ I64 n) ys ms → ms = intM ys ∧ ∀ n ∈ ys, I64 n
  | [], _, h => by simp [Rel2] at h; simp [h, intM]
  | y :: ys, ms, h => by
    obtain ⟨m, r, rfl, ⟨rfl, h1⟩, h2⟩ := h
    obtain ⟨rfl, h3⟩ := rel_ints h2
    exact ⟨rfl, by intro n hn; rcases List.mem_cons.1 hn with rfl | hn; exact h1; exact h3 n hn⟩

theorem op_ints {fuel : Nat} {cs : List Value} {x : DataW H × List MemPlace} (h : DataW.trod enc Try.prog w 0 sp hd fuel 30 cs = some x) :
    ∃ a cap l, cs = [.slice a l.length cap] ∧ (M.sl a cap 1 3 (intM l)).In w ∧ ∀ n ∈ l, I64 n := by
  obtain ⟨a, cap, ys, ms, rfl, hr, hin⟩ := op_slice (fun (n : Int) m => m = .c (.int .i64 n) ∧ I64 n) Try.underlying30 cellsInt (by decide) h (fun f cs' x' _ hx => by
    obtain ⟨n, rfl, _, hw⟩ := DataW.trod_int Try.underlying3 hx
    exact ⟨n, .c (.int .i64 n), ⟨rfl, I64_of hw⟩, rfl, trivial⟩)
  obtain ⟨rfl, hn⟩ := rel_ints hr
  exact ⟨a, cap, ys, by rw [intM_length], hin, hn⟩

theorem arg_ints {v : Value} {d : DataW H} {p : List MemPlace} {b : Nat} (hv : Value.okWide Try.prog w .any b 30 v) (h : DataW.Trod enc Try.prog w 0 sp hd 30 v d p) :
    ∃ a cap l, v = .slice a l.length cap ∧ (M.sl a cap 1 3 (intM l)).In w ∧ ∀ n ∈ l, I64 n := by
  obtain ⟨a0, len0, cap0, rfl⟩ := okWide_slice Try.underlying30 hv
  obtain ⟨f, hf⟩ := h
  obtain ⟨a, cap, l, hcs, h1, h2⟩ := op_ints hf
  simp [Value.cells] at hcs
  obtain ⟨rfl, rfl, rfl⟩ := hcs
  exact ⟨_, _, _, rfl, h1, h2⟩
theorem arg_int {v : Value} {d : DataW H} {p : List MemPlace} {b : Nat} (hv : Value.okWide Try.prog w .any b 3 v) (h : DataW.Trod enc Try.prog w 0 sp hd 3 v d p) : ∃ n, v = .int .i64 n ∧ I64 n := by
  obtain ⟨n, rfl, _, _, hw⟩ := open_int Try.underlying3 hv h
  exact ⟨n, rfl, I64_of hw⟩
theorem arg_str {v : Value} {d : DataW H} {p : List MemPlace} {b : Nat} (hv : Value.okWide Try.prog w .any b 9 v) (h : DataW.Trod enc Try.prog w 0 sp hd 9 v d p) : ∃ s, v = .string s ∧ s.size ≤ 9223372036854775807 := by
  obtain ⟨n, rfl, _, _, hw⟩ := Go.ChangeMaps.open_string Try.underlying9 hv h
  exact ⟨n, rfl, by unfold maxLen at hw; omega⟩
theorem arg_bool {v : Value} {d : DataW H} {p : List MemPlace} {b : Nat} (hv : Value.okWide Try.prog w .any b 4 v) (h : DataW.Trod enc Try.prog w 0 sp hd 4 v d p) : ∃ x, v = .bool x := by
  obtain ⟨n, rfl, _, _⟩ := open_bool Try.underlying4 hv h
  exact ⟨n, rfl⟩

/-! ### Datum -/
theorem rel_dats {e : TypeId} : ∀ {ys : List Dat} {ms : List M}, Rel2 (fun (d : Dat) m => d.Is e m ∧ d.wf) ys ms → Dat.IsL e ys ms ∧ Dat.wfL ys
  | [], _, h => by simp [Rel2] at h; simp [h, Dat.IsL, Dat.wfL]
  | y :: ys, ms, h => by
    obtain ⟨m, r, rfl, ⟨h0, h1⟩, h2⟩ := h
    obtain ⟨h3, h4⟩ := rel_dats h2
    exact ⟨⟨m, r, rfl, h0, h3⟩, h1, h4⟩

end
end Go.Proofs.Ytigmgfinjapchaa
