/-
  Walks: the symbols of a datum. No condition.
-/
import Derived.Test.YtdfekdeojahmmabN6
import Derived.Test.YtdfekdeojahmmabW7
import Derived.Test.YtdfekdeojahmmabI1
import Derived.Test.YtdfekdeojahmmabY4
set_option linter.unusedVariables false
set_option linter.unusedSimpArgs false
set_option maxRecDepth 100000
namespace Go.Proofs.Ytdfekdeojahmmab
open Go.RowKit

theorem infoS : (Try.prog.info? 9).map (fun i => (i.zero, i.size, i.bytes)) = some (some (.string ⟨#[]⟩), 1, 16) := by kernel_rfl
theorem strM_snoc (l : List ByteArray) (n : ByteArray) : strM l ++ [.c (.string n)] = strM (l ++ [n]) := by simp [strM]
theorem Strs.nil (w : World) (lo : Nat) : (M.sl none 0 1 9 (strM [])).Mine w lo := M.Mine.nil _ _ _ _ (by decide)
/-- the empty literal '[]string{}' -/
theorem Strs.lit (w : World) (lo : Nat) (h : lo ≤ w.heap.size) : (M.sl (some ⟨w.heap.size, 0, none⟩) 0 1 9 (strM [])).Mine (w.alloc (.cells #[] 9)) lo :=
  M.Mine.new rfl h rfl (by decide) (by simp [strM]) (by simp [maxLen]) ⟨trivial, by simp [strM, M.blocksL]⟩
/-- 'out = append(out, s)' -/
theorem wpStrs_push {P : Program} {wr w1 : World} {ops : Array Oper} {rest : List Oper} {o : Oper} {act : Act} {Q : Exit → Act → World → Prop} (hgd : o.guard = none) (s x : Operand) (t : TypeId)
    (ho : o.op = .call { callee := .builtin .append, args := #[s, x], argTypes := #[t, t] })
    (e : TypeId) (z : Value) (ht : P.underlying t = some (.slice e)) (hinfo : (P.info? e).map (fun i => (i.zero, i.size, i.bytes)) = some (some z, 1, 16)) (hzs : z.cells.size = 1)
    (lo : Nat) (a : Option Addr) (cap : Nat) (xs : List ByteArray) (hs : act.eval s = .slice a xs.length cap) (hrow : (M.sl a cap 1 e (strM xs)).Mine wr lo) (hlo : lo ≤ wr.heap.size) (hb : Below wr.heap.size wr w1)
    (n : ByteArray) (hx : act.eval x = .slice (some ⟨w1.heap.size, 0, none⟩) 1 1) (hB : xs.length ≤ 1000000000)
    (k : ∀ a' cap' w', (M.sl a' cap' 1 e (strM (xs ++ [n]))).Mine w' lo → Below lo w1 w' → w1.heap.size ≤ w'.heap.size → (∀ b, b < w1.heap.size → b ∉ addrBlocks a → w'.heap[b]? = w1.heap[b]?) →
      wpList P ops Q rest (act.put o.dst (.slice a' (xs ++ [n]).length cap')) w') : wpList P ops Q (o :: rest) act (w1.alloc (.cells #[.string n] e)) := by
  refine wpList_push hgd s x t ho e z 1 16 ht hinfo hzs (by decide) lo a cap (strM xs) (by rw [strM_length]; exact hs) hrow hlo hb #[.string n] (.c (.string n)) rfl rfl wr.heap.size (M.Mine.c rfl) (Nat.le_refl _) hx (by rw [strM_length]; unfold maxLen; omega) (by rw [strM_length]; omega) ?_
  intro a' cap' w' h1 h2 h3 h4
  rw [strM_snoc] at h1
  rw [strM_length]
  have := k a' cap' w' h1 h2 h3 h4
  simpa using this

open Classical in
noncomputable def hasT (l : List ByteArray) (s : ByteArray) : Bool := decide (s ∈ l)
theorem hasT_iff (l : List ByteArray) (n : ByteArray) : hasT l n = true ↔ n ∈ l := by simp [hasT]
theorem hasT_not (l : List ByteArray) (n : ByteArray) : hasT l n = false ↔ ¬ n ∈ l := by simp [hasT]
open Classical in
noncomputable def addT (k : Int) (s : ByteArray) (acc : List ByteArray) : List ByteArray := if k = 1 ∧ ¬ s ∈ acc then acc ++ [s] else acc
theorem addT_other {k : Int} (h : ¬ k = 1) (s : ByteArray) (acc : List ByteArray) : addT k s acc = acc := by unfold addT; rw [if_neg fun x => h x.1]
theorem addT_in {s : ByteArray} {acc : List ByteArray} (h : s ∈ acc) (k : Int) : addT k s acc = acc := by unfold addT; rw [if_neg fun x => x.2 h]
theorem addT_new {s : ByteArray} {acc : List ByteArray} (h : ¬ s ∈ acc) : addT 1 s acc = acc ++ [s] := by unfold addT; rw [if_pos ⟨rfl, h⟩]
theorem addT_length (k : Int) (s : ByteArray) (acc : List ByteArray) : (addT k s acc).length ≤ acc.length + 1 := by unfold addT; split <;> simp
mutual
noncomputable def symD : Dat → List ByteArray → List ByteArray
  | .mk k _ s ds, acc => symL ds (addT k s acc)
noncomputable def symL : List Dat → List ByteArray → List ByteArray
  | [], acc => acc
  | d :: r, acc => symL r (symD d acc)
end
theorem symD_mk (k n : Int) (s : ByteArray) (ds : List Dat) (acc : List ByteArray) : symD (.mk k n s ds) acc = symL ds (addT k s acc) := by rw [symD]
theorem symL_nil (acc : List ByteArray) : symL [] acc = acc := by rw [symL]
theorem symL_snoc : ∀ (ds : List Dat) (d : Dat) (acc : List ByteArray), symL (ds ++ [d]) acc = symD d (symL ds acc)
  | [], d, acc => by simp [symL]
  | x :: r, d, acc => by rw [List.cons_append, symL, symL, symL_snoc r d]
theorem symL_take {ds : List Dat} {k : Nat} {d : Dat} (h : ds[k]? = some d) (acc : List ByteArray) : symL (ds.take (k + 1)) acc = symD d (symL (ds.take k) acc) := by rw [take_snoc h, symL_snoc]
theorem symL_length : ∀ (ds : List Dat) (acc : List ByteArray), (symL ds acc).length ≤ acc.length + Dat.countL ds := by
  refine Dat.inductL fun ds ih => ?_
  intro acc
  have key : ∀ k, k ≤ ds.length → (symL (ds.take k) acc).length ≤ acc.length + Dat.countL (ds.take k) := by
    intro k
    induction k with
    | zero => intro _; simp [symL, Dat.countL]
    | succ k ihk =>
      intro hk
      have hd : ds[k]? = some ds[k] := List.getElem?_eq_getElem (by omega)
      have h1 := ihk (by omega)
      obtain ⟨h2, _⟩ := Dat.countL_le ds k _ hd
      rw [symL_take hd, h2]
      cases hx : ds[k] with
      | mk k1 n1 s1 ds1 =>
        have h3 := ih k1 n1 s1 ds1 (by rw [← hx]; exact List.getElem_mem _) (addT k1 s1 (symL (ds.take k) acc))
        have h4 := addT_length k1 s1 (symL (ds.take k) acc)
        rw [symD_mk]; simp only [Dat.count]; omega
  have := key ds.length (Nat.le_refl _)
  rwa [List.take_length] at this
def RetTx (l : List ByteArray) (w0 : World) (e : Ending) (w' : World) : Prop := ∃ a cap, e = .returned (.slice a l.length cap) ∧ (M.sl a cap 1 9 (strM l)).Mine w' w0.heap.size ∧ Below w0.heap.size w0 w'

theorem l1Has_calls (a : Option Addr) (cap : Nat) (l : List ByteArray) (n : ByteArray) (w : World) (h : (M.sl a cap 1 9 (strM l)).In w) :
    Calls Try.prog 160 #[.slice a l.length cap, .string n] w (RetEq (.bool (hasT l n)) w) := by
  have hl := Strs.len h
  have H := Lib.hid h; clear h
  go_enter Try.func160, Try.ntmps160
  go_wp2
  go_loop [9] (fun i => ∃ k : Nat, k ≤ l.length ∧ i = .int .i64 k ∧ ¬ n ∈ l.take k) (fun i => l.length - (intOf i).toNat)
  case atStart => exact ⟨0, Nat.zero_le _, rfl, by simp⟩
  case round =>
    obtain ⟨k, hk, rfl, hno⟩ := hrel
    have HNO := Lib.hid hno; clear hno
    by_cases hlt : k < l.length
    · obtain ⟨b, off, x, rfl, hx, hc⟩ := Strs.elem H.out k hlt
      have HX := Lib.hid hx; clear hx
      by_cases hxn : x = n
      · subst hxn
        go_wp2_with fail
        go_ret
        refine ⟨ret_b ?_, rfl⟩
        rw [eq_comm, hasT_iff]
        exact List.mem_of_getElem? HX.out
      · have hxb := ba_ne hxn
        have hnx : ¬ n ∈ l.take (k + 1) := by
          rw [mem_take_succ HX.out]
          intro h
          rcases h with h | h
          · exact HNO.out h
          · exact hxn h.symm
        have HXN := Lib.hid hxn; clear hxn; have HNX := Lib.hid hnx; clear hnx
        go_wp2_with fail
        go_round
        case rel => exact ⟨k + 1, by omega, by go_num, HNX.out⟩
        case measure => simp [intOf]; omega
    · go_wp2
      go_ret
      have hk2 : k = l.length := by omega
      subst hk2
      refine ⟨ret_b ?_, rfl⟩
      have h := HNO.out
      rw [List.take_length] at h
      rw [eq_comm, hasT_not]
      exact h
end Go.Proofs.Ytdfekdeojahmmab
