/-
  Walks: WithoutUses. No condition.
-/
import Derived.Test.YtoflfamfhpijcaaI1
set_option linter.unusedVariables false
set_option linter.unusedSimpArgs false
set_option maxRecDepth 100000
namespace Go.Proofs.Ytoflfamfhpijcaa
open Go.RowKit

theorem intM_snoc (l : List Int) (n : Int) : intM l ++ [.c (.int .i64 n)] = intM (l ++ [n]) := by simp [intM]
/-- 'out = append(out, n)' -/
theorem wpInts_push {P : Program} {wr w1 : World} {ops : Array Oper} {rest : List Oper} {o : Oper} {act : Act} {Q : Exit → Act → World → Prop} (hgd : o.guard = none) (s x : Operand) (t : TypeId)
    (ho : o.op = .call { callee := .builtin .append, args := #[s, x], argTypes := #[t, t] })
    (e : TypeId) (z : Value) (ht : P.underlying t = some (.slice e)) (hinfo : (P.info? e).map (fun i => (i.zero, i.size, i.bytes)) = some (some z, 1, 8)) (hzs : z.cells.size = 1)
    (lo : Nat) (a : Option Addr) (cap : Nat) (xs : List Int) (hs : act.eval s = .slice a xs.length cap) (hrow : (M.sl a cap 1 e (intM xs)).Mine wr lo) (hlo : lo ≤ wr.heap.size) (hb : Below wr.heap.size wr w1)
    (n : Int) (hx : act.eval x = .slice (some ⟨w1.heap.size, 0, none⟩) 1 1) (hB : xs.length ≤ 1000000000)
    (k : ∀ a' cap' w', (M.sl a' cap' 1 e (intM (xs ++ [n]))).Mine w' lo → Below lo w1 w' → w1.heap.size ≤ w'.heap.size →
      wpList P ops Q rest (act.put o.dst (.slice a' (xs ++ [n]).length cap')) w') : wpList P ops Q (o :: rest) act (w1.alloc (.cells #[.int .i64 n] e)) := by
  refine wpList_push hgd s x t ho e z 1 8 ht hinfo hzs (by decide) lo a cap (intM xs) (by rw [intM_length]; exact hs) hrow hlo hb #[.int .i64 n] (.c (.int .i64 n)) rfl rfl wr.heap.size (M.Mine.c rfl) (Nat.le_refl _) hx (by rw [intM_length]; unfold maxLen; omega) (by rw [intM_length]; omega) ?_
  intro a' cap' w' h1 h2 h3 _
  rw [intM_snoc] at h1
  rw [intM_length]
  have := k a' cap' w' h1 h2 h3
  simpa using this

def noUse (l : List Int) : List Int := l.filter fun x => decide (¬ kindS x = 3)
theorem noUse_length (l : List Int) : (noUse l).length ≤ l.length := List.length_filter_le ..
theorem noUse_take (l : List Int) (k : Nat) : (noUse (l.take k)).length ≤ k := Nat.le_trans (noUse_length _) (by simp; omega)
theorem noUse_yes {l : List Int} {k : Nat} {x : Int} (hx : l[k]? = some x) (h : ¬ kindS x = 3) : noUse (l.take (k + 1)) = noUse (l.take k) ++ [x] := by
  rw [take_snoc hx, noUse, noUse, List.filter_append]; simp [h]
theorem noUse_no {l : List Int} {k : Nat} {x : Int} (hx : l[k]? = some x) (h : kindS x = 3) : noUse (l.take (k + 1)) = noUse (l.take k) := by
  rw [take_snoc hx, noUse, noUse, List.filter_append]; simp [h]
def woUse (l : List Int) : List Int := if ssB l = true then noUse l else l
theorem woUse_length (l : List Int) : (woUse l).length ≤ l.length := by unfold woUse; split; exact noUse_length l; exact Nat.le_refl _

theorem sNoUses_calls (a : Option Addr) (cap : Nat) (l : List Int) (w : World) (h : (M.sl a cap 1 3 (intM l)).In w) (hB : l.length ≤ 1000000000) :
    Calls Try.prog 162 #[.slice a l.length cap] w (RetInts (noUse l) w) := by
  have hl := Ints.len h
  have H := Lib.hid h; clear h
  go_enter Try.func162, Try.ntmps162
  go_wp2_with fail
  go_loopw [3, 9] (fun t i wr => ∃ (k : Nat) (a' : Option Addr) (cap' : Nat), k ≤ l.length ∧ i = .int .i64 k ∧ t = .slice a' (noUse (l.take k)).length cap' ∧ (M.sl a' cap' 1 3 (intM (noUse (l.take k)))).Mine wr w.heap.size ∧ Below w.heap.size w wr ∧ w.heap.size ≤ wr.heap.size) (fun _ i _ => l.length - (intOf i).toNat)
  case atStart => exact ⟨0, _, _, Nat.zero_le _, rfl, rfl, Ints.lit _ _ (Nat.le_refl _), by (repeat (first | with_reducible assumption | with_reducible exact Below.refl _ _ | with_reducible refine Below.drew ?_ | with_reducible refine belowDrewN ?_ _ | ((with_reducible refine Below.setCell ?_ ?_ _); rotate_left; focus (first | omega | (simp; done) | (simp; omega))) | ((with_reducible refine Below.alloc ?_ ?_ _); rotate_left; focus (first | omega | (simp; done) | (simp; omega))))), by simp⟩
  case round =>
    obtain ⟨k, a', cap', hk, rfl, rfl, hm', hb, hsz⟩ := hrel
    have hnt := noUse_take l k
    by_cases hlt : k < l.length
    · obtain ⟨b, off, x, rfl, hx, hc⟩ := Ints.elem (H.out.below hb) k hlt
      by_cases hq : kindS x = 3
      · have hfin := noUse_no hx hq
        have HX := Lib.hid hx; clear hx; have HM' := Lib.hid hm'; clear hm'; have HFIN := Lib.hid hfin; clear hfin
        go_wp2_with fail
        refine (sKindOfScope_calls _ _).mono ?_
        rintro e w1 ⟨rfl, hb1⟩
        obtain ⟨hc1, hf1⟩ := bcell hb1; have hz1 := hb1.size; (try simp only [World.size_alloc, World.size_setCell, World.size_drew, sizeDrewN] at hz1 hc1 hf1)
        go_wp2_with fail
        go_roundw
        case rel => exact ⟨k + 1, a', cap', by omega, by go_num, by simp [HFIN.out], by rw [HFIN.out]; exact HM'.out.below hb1, by (repeat (first | with_reducible assumption | with_reducible exact Below.refl _ _ | with_reducible refine Below.drew ?_ | with_reducible refine belowDrewN ?_ _ | ((with_reducible refine Below.setCell ?_ ?_ _); rotate_left; focus (first | omega | (simp; done) | (simp; omega))) | ((with_reducible refine Below.alloc ?_ ?_ _); rotate_left; focus (first | omega | (simp; done) | (simp; omega))) | ((with_reducible refine Below.trans ?_ (Below.mono hb1 ?_)); rotate_left; focus (first | omega | (simp; done) | (simp; omega))))), by omega⟩
        case measure => simp [intOf]; omega
      · have hfin := noUse_yes hx hq
        have HX := Lib.hid hx; clear hx; have HM' := Lib.hid hm'; clear hm'; have HFIN := Lib.hid hfin; clear hfin
        go_wp2_with fail
        refine (sKindOfScope_calls _ _).mono ?_
        rintro e w1 ⟨rfl, hb1⟩
        obtain ⟨hc1, hf1⟩ := bcell hb1; have hz1 := hb1.size; (try simp only [World.size_alloc, World.size_setCell, World.size_drew, sizeDrewN] at hz1 hc1 hf1)
        go_wp2_with (at_builtin; refine wpInts_push rfl _ _ 40 rfl 3 _ Try.underlying40 infoI rfl w.heap.size a' cap' (noUse (l.take k)) rfl HM'.out hsz (by (repeat (first | with_reducible assumption | with_reducible exact Below.refl _ _ | with_reducible refine Below.drew ?_ | with_reducible refine belowDrewN ?_ _ | ((with_reducible refine Below.setCell ?_ ?_ _); rotate_left; focus (first | omega | (simp; done) | (simp; omega))) | ((with_reducible refine Below.alloc ?_ ?_ _); rotate_left; focus (first | omega | (simp; done) | (simp; omega))) | ((with_reducible refine Below.trans ?_ (Below.mono hb1 ?_)); rotate_left; focus (first | omega | (simp; done) | (simp; omega)))))) x rfl (by omega) ?_)
        intro a3 cap3 w3 hm3 hb3 hz3
        have HM3 := Lib.hid hm3; clear hm3
        go_wp2_with fail
        go_roundw
        case rel => exact ⟨k + 1, a3, cap3, by omega, by go_num, by simp [HFIN.out], by rw [HFIN.out]; exact HM3.out, by (repeat (first | with_reducible assumption | with_reducible exact Below.refl _ _ | with_reducible refine Below.drew ?_ | with_reducible refine belowDrewN ?_ _ | ((with_reducible refine Below.setCell ?_ ?_ _); rotate_left; focus (first | omega | (simp; done) | (simp; omega))) | ((with_reducible refine Below.alloc ?_ ?_ _); rotate_left; focus (first | omega | (simp; done) | (simp; omega))) | ((with_reducible refine Below.trans ?_ (Below.mono hb1 ?_)); rotate_left; focus (first | omega | (simp; done) | (simp; omega))) | ((with_reducible refine Below.trans ?_ (Below.mono hb3 ?_)); rotate_left; focus (first | omega | (simp; done) | (simp; omega))))), by omega⟩
        case measure => simp [intOf]; omega
    · have hk2 : k = l.length := by omega
      subst hk2
      rw [List.take_length] at *
      have HM' := Lib.hid hm'; clear hm'
      go_wp2_with fail
      go_ret
      exact ⟨_, _, rfl, HM'.out, hb⟩

theorem iWithoutUses_calls (a : Option Addr) (cap : Nat) (l : List Int) (w : World) (h : (M.sl a cap 1 3 (intM l)).In w) (hB : l.length ≤ 1000000000) :
    Calls Try.prog 104 #[.slice a l.length cap] w (RetInts (woUse l) w) := by
  have hl := Ints.len h
  have H := Lib.hid h; clear h
  go_enter Try.func104, Try.ntmps104
  go_wp2_with fail
  refine (iIsScopeSet_calls a cap l _ H.out).mono ?_
  rintro e w1 ⟨rfl, hb1⟩
  obtain ⟨hc1, hf1⟩ := bcell hb1; have hz1 := hb1.size; (try simp only [World.size_alloc, World.size_setCell, World.size_drew, sizeDrewN] at hz1 hc1 hf1)
  cases hs : ssB l with
  | false =>
    go_wp2_with fail
    refine (icopyInts_calls a cap l _ (H.out.below (by (repeat (first | with_reducible assumption | with_reducible exact Below.refl _ _ | with_reducible refine Below.drew ?_ | with_reducible refine belowDrewN ?_ _ | ((with_reducible refine Below.setCell ?_ ?_ _); rotate_left; focus (first | omega | (simp; done) | (simp; omega))) | ((with_reducible refine Below.alloc ?_ ?_ _); rotate_left; focus (first | omega | (simp; done) | (simp; omega))) | ((with_reducible refine Below.trans ?_ (Below.mono hb1 ?_)); rotate_left; focus (first | omega | (simp; done) | (simp; omega))))))) hB).mono ?_
    rintro e w2 ⟨a2, c2, rfl, hm2, hb2⟩
    obtain ⟨hc2, hf2⟩ := bcell hb2; have hz2 := hb2.size; (try simp only [World.size_alloc, World.size_setCell, World.size_drew, sizeDrewN] at hz2 hc2 hf2)
    have HM2 := Lib.hid hm2; clear hm2
    go_wp2_with fail
    go_ret
    rw [show woUse l = l by simp [woUse, hs]]
    exact ⟨_, _, rfl, HM2.out.mono hz1, by (repeat (first | with_reducible assumption | with_reducible exact Below.refl _ _ | with_reducible refine Below.drew ?_ | with_reducible refine belowDrewN ?_ _ | ((with_reducible refine Below.setCell ?_ ?_ _); rotate_left; focus (first | omega | (simp; done) | (simp; omega))) | ((with_reducible refine Below.alloc ?_ ?_ _); rotate_left; focus (first | omega | (simp; done) | (simp; omega))) | ((with_reducible refine Below.trans ?_ (Below.mono hb1 ?_)); rotate_left; focus (first | omega | (simp; done) | (simp; omega))) | ((with_reducible refine Below.trans ?_ (Below.mono hb2 ?_)); rotate_left; focus (first | omega | (simp; done) | (simp; omega)))))⟩
  | true =>
    go_wp2_with fail
    go_loopw [3, 13] (fun t i wr => ∃ (k : Nat) (a' : Option Addr) (cap' : Nat), k ≤ l.length ∧ i = .int .i64 k ∧ t = .slice a' (noUse (l.take k)).length cap' ∧ (M.sl a' cap' 1 3 (intM (noUse (l.take k)))).Mine wr w.heap.size ∧ Below w.heap.size w wr ∧ w.heap.size ≤ wr.heap.size) (fun _ i _ => l.length - (intOf i).toNat)
    case atStart => exact ⟨0, _, _, Nat.zero_le _, rfl, rfl, Ints.nil _ _, by (repeat (first | with_reducible assumption | with_reducible exact Below.refl _ _ | with_reducible refine Below.drew ?_ | with_reducible refine belowDrewN ?_ _ | ((with_reducible refine Below.setCell ?_ ?_ _); rotate_left; focus (first | omega | (simp; done) | (simp; omega))) | ((with_reducible refine Below.alloc ?_ ?_ _); rotate_left; focus (first | omega | (simp; done) | (simp; omega))) | ((with_reducible refine Below.trans ?_ (Below.mono hb1 ?_)); rotate_left; focus (first | omega | (simp; done) | (simp; omega))))), hz1⟩
    case round =>
      obtain ⟨k, a', cap', hk, rfl, rfl, hm', hb, hsz⟩ := hrel
      have hnt := noUse_take l k
      by_cases hlt : k < l.length
      · obtain ⟨b, off, x, rfl, hx, hc⟩ := Ints.elem (H.out.below hb) k hlt
        by_cases hq : kindS x = 3
        · have hfin := noUse_no hx hq
          have HX := Lib.hid hx; clear hx; have HM' := Lib.hid hm'; clear hm'; have HFIN := Lib.hid hfin; clear hfin
          go_wp2_with fail
          refine (iKindOfScope_ret _ _).mono ?_
          rintro e w1 ⟨rfl, hb1⟩
          obtain ⟨hc1, hf1⟩ := bcell hb1; have hz1 := hb1.size; (try simp only [World.size_alloc, World.size_setCell, World.size_drew, sizeDrewN] at hz1 hc1 hf1)
          go_wp2_with fail
          go_roundw
          case rel => exact ⟨k + 1, a', cap', by omega, by go_num, by simp [HFIN.out], by rw [HFIN.out]; exact HM'.out.below hb1, by (repeat (first | with_reducible assumption | with_reducible exact Below.refl _ _ | with_reducible refine Below.drew ?_ | with_reducible refine belowDrewN ?_ _ | ((with_reducible refine Below.setCell ?_ ?_ _); rotate_left; focus (first | omega | (simp; done) | (simp; omega))) | ((with_reducible refine Below.alloc ?_ ?_ _); rotate_left; focus (first | omega | (simp; done) | (simp; omega))) | ((with_reducible refine Below.trans ?_ (Below.mono hb1 ?_)); rotate_left; focus (first | omega | (simp; done) | (simp; omega))))), by omega⟩
          case measure => simp [intOf]; omega
        · have hfin := noUse_yes hx hq
          have HX := Lib.hid hx; clear hx; have HM' := Lib.hid hm'; clear hm'; have HFIN := Lib.hid hfin; clear hfin
          go_wp2_with fail
          refine (iKindOfScope_ret _ _).mono ?_
          rintro e w1 ⟨rfl, hb1⟩
          obtain ⟨hc1, hf1⟩ := bcell hb1; have hz1 := hb1.size; (try simp only [World.size_alloc, World.size_setCell, World.size_drew, sizeDrewN] at hz1 hc1 hf1)
          go_wp2_with (at_builtin; refine wpInts_push rfl _ _ 40 rfl 3 _ Try.underlying40 infoI rfl w.heap.size a' cap' (noUse (l.take k)) rfl HM'.out hsz (by (repeat (first | with_reducible assumption | with_reducible exact Below.refl _ _ | with_reducible refine Below.drew ?_ | with_reducible refine belowDrewN ?_ _ | ((with_reducible refine Below.setCell ?_ ?_ _); rotate_left; focus (first | omega | (simp; done) | (simp; omega))) | ((with_reducible refine Below.alloc ?_ ?_ _); rotate_left; focus (first | omega | (simp; done) | (simp; omega))) | ((with_reducible refine Below.trans ?_ (Below.mono hb1 ?_)); rotate_left; focus (first | omega | (simp; done) | (simp; omega)))))) x rfl (by omega) ?_)
          intro a3 cap3 w3 hm3 hb3 hz3
          have HM3 := Lib.hid hm3; clear hm3
          go_wp2_with fail
          go_roundw
          case rel => exact ⟨k + 1, a3, cap3, by omega, by go_num, by simp [HFIN.out], by rw [HFIN.out]; exact HM3.out, by (repeat (first | with_reducible assumption | with_reducible exact Below.refl _ _ | with_reducible refine Below.drew ?_ | with_reducible refine belowDrewN ?_ _ | ((with_reducible refine Below.setCell ?_ ?_ _); rotate_left; focus (first | omega | (simp; done) | (simp; omega))) | ((with_reducible refine Below.alloc ?_ ?_ _); rotate_left; focus (first | omega | (simp; done) | (simp; omega))) | ((with_reducible refine Below.trans ?_ (Below.mono hb1 ?_)); rotate_left; focus (first | omega | (simp; done) | (simp; omega))) | ((with_reducible refine Below.trans ?_ (Below.mono hb3 ?_)); rotate_left; focus (first | omega | (simp; done) | (simp; omega))))), by omega⟩
          case measure => simp [intOf]; omega
      · have hk2 : k = l.length := by omega
        subst hk2
        rw [List.take_length] at *
        have HM' := Lib.hid hm'; clear hm'
        go_wp2_with fail
        go_ret
        rw [show woUse l = noUse l by simp [woUse, hs]]
        exact ⟨_, _, rfl, HM'.out, hb⟩
end Go.Proofs.Ytoflfamfhpijcaa
