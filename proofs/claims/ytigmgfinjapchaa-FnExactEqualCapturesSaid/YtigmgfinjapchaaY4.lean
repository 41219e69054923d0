/-
  Walks: the law's comparison of syntax that is one. No condition.
-/
import Derived.Test.YtigmgfinjapchaaY3
import Derived.Test.YtigmgfinjapchaaMk
set_option linter.unusedVariables false
set_option linter.unusedSimpArgs false
set_option maxRecDepth 100000
namespace Go.Proofs.Ytigmgfinjapchaa
open Go.RowKit

/-- two slices of the same syntax: element k of both -/
theorem Syn.elem2 {w : World} {a : Option Addr} {cap : Nat} {e : TypeId} {ds : List Syn} {ms : List M} (h : (M.sl a cap 5 e ms).In w) (hi : Syn.IsL e ds ms)
    {a' : Option Addr} {cap' : Nat} {e' : TypeId} {ms' : List M} (h' : (M.sl a' cap' 5 e' ms').In w) (hi' : Syn.IsL e' ds ms') (k : Nat) (hk : k < ms.length) :
    ∃ b off b' off' k1 n1 s1 x1 ds1 xa1 xc1 a1 cap1 ms1 xa1' xc1' a1' cap1' ms1', a = some ⟨b, off, none⟩ ∧ a' = some ⟨b', off', none⟩ ∧ ds[k]? = some (.mk k1 n1 s1 x1 ds1) ∧ Syn.IsL e ds1 ms1 ∧ Syn.IsL e' ds1 ms1' ∧
      ((M.sl xa1 xc1 1 3 (intM x1)).In w ∧ (M.sl xa1' xc1' 1 3 (intM x1)).In w ∧ (M.sl a1 cap1 5 e ms1).In w ∧ (M.sl a1' cap1' 5 e' ms1').In w) ∧
      w.cell? ⟨b, off + k * 5, none⟩ = some (.int .i64 k1) ∧ w.cell? ⟨b, off + k * 5 + 1, none⟩ = some (.int .i64 n1) ∧
      w.cell? ⟨b, off + k * 5 + 2, none⟩ = some (.string s1) ∧ w.cell? ⟨b, off + k * 5 + 3, none⟩ = some (.slice xa1 x1.length xc1) ∧ w.cell? ⟨b, off + k * 5 + 4, none⟩ = some (.slice a1 ms1.length cap1) ∧
      w.cell? ⟨b', off' + k * 5, none⟩ = some (.int .i64 k1) ∧ w.cell? ⟨b', off' + k * 5 + 1, none⟩ = some (.int .i64 n1) ∧
      w.cell? ⟨b', off' + k * 5 + 2, none⟩ = some (.string s1) ∧ w.cell? ⟨b', off' + k * 5 + 3, none⟩ = some (.slice xa1' x1.length xc1') ∧ w.cell? ⟨b', off' + k * 5 + 4, none⟩ = some (.slice a1' ms1'.length cap1') := by
  obtain ⟨b, off, k1, n1, s1, x1, ds1, xa1, xc1, a1, cap1, ms1, ha, hd, hi1, hx1, hin1, c0, c1, c2, c3, c4⟩ := Syn.elem h hi k hk
  obtain ⟨b', off', k1', n1', s1', x1', ds1', xa1', xc1', a1', cap1', ms1', ha', hd', hi1', hx1', hin1', c0', c1', c2', c3', c4'⟩ := Syn.elem h' hi' k (by rw [hi'.length, ← hi.length]; exact hk)
  rw [hd] at hd'
  simp only [Option.some.injEq, Syn.mk.injEq] at hd'
  obtain ⟨rfl, rfl, rfl, rfl, rfl⟩ := hd'
  exact ⟨b, off, b', off', k1, n1, s1, x1, ds1, xa1, xc1, a1, cap1, ms1, xa1', xc1', a1', cap1', ms1', ha, ha', hd, hi1, hi1', ⟨hx1, hx1', hin1, hin1'⟩, c0, c1, c2, c3, c4, c0', c1', c2', c3', c4'⟩

def EqSs (ds : List Syn) : Prop := ∀ (a : Option Addr) (cap : Nat) (ms : List M) (a' : Option Addr) (cap' : Nat) (ms' : List M) (w : World), Syn.IsL 33 ds ms → (M.sl a cap 5 33 ms).In w → Syn.IsL 33 ds ms' → (M.sl a' cap' 5 33 ms').In w →
    Calls Try.prog 125 #[.slice a ms.length cap, .slice a' ms'.length cap'] w (Ret (.bool true) w)

theorem eqSyntax_of (ds : List Syn) (H : EqSs ds) (k n : Int) (s : ByteArray) (x : List Int) (xa : Option Addr) (xc : Nat) (a : Option Addr) (cap : Nat) (ms : List M) (xa' : Option Addr) (xc' : Nat) (a' : Option Addr) (cap' : Nat) (ms' : List M) (w : World)
    (hi : Syn.IsL 33 ds ms) (hx : (M.sl xa xc 1 3 (intM x)).In w) (hin : (M.sl a cap 5 33 ms).In w) (hi' : Syn.IsL 33 ds ms') (hx' : (M.sl xa' xc' 1 3 (intM x)).In w) (hin' : (M.sl a' cap' 5 33 ms').In w) :
    Calls Try.prog 88 #[.agg #[.int .i64 k, .int .i64 n, .string s, .slice xa x.length xc, .slice a ms.length cap], .agg #[.int .i64 k, .int .i64 n, .string s, .slice xa' x.length xc', .slice a' ms'.length cap']] w (Ret (.bool true) w) := by
  have HI := Lib.hid hi; clear hi; have HIN := Lib.hid hin; clear hin; have HI' := Lib.hid hi'; clear hi'; have HIN' := Lib.hid hin'; clear hin'; have H_ := Lib.hid H; clear H; have HX := Lib.hid hx; clear hx; have HX' := Lib.hid hx'; clear hx'
  go_enter Try.func88, Try.ntmps88
  go_wp2_with fail
  refine (eqIntS_same xa xc x xa' xc' _ (HX.out.below (by (repeat (first | with_reducible assumption | with_reducible exact Below.refl _ _ | with_reducible refine Below.drew ?_ | with_reducible refine belowDrewN ?_ _ | ((with_reducible refine Below.setCell ?_ ?_ _); rotate_left; focus (first | omega | (simp; done) | (simp; omega))) | ((with_reducible refine Below.alloc ?_ ?_ _); rotate_left; focus (first | omega | (simp; done) | (simp; omega))))))) (HX'.out.below (by (repeat (first | with_reducible assumption | with_reducible exact Below.refl _ _ | with_reducible refine Below.drew ?_ | with_reducible refine belowDrewN ?_ _ | ((with_reducible refine Below.setCell ?_ ?_ _); rotate_left; focus (first | omega | (simp; done) | (simp; omega))) | ((with_reducible refine Below.alloc ?_ ?_ _); rotate_left; focus (first | omega | (simp; done) | (simp; omega)))))))).mono ?_
  rintro e w1 ⟨rfl, hb1⟩
  obtain ⟨hc1, hf1⟩ := bcell hb1; have hz1 := hb1.size; (try simp only [World.size_alloc, World.size_setCell, World.size_drew, sizeDrewN] at hz1 hc1 hf1); have hp1_0 : w.heap.size < w1.heap.size := (by omega); have hp1_1 : w.heap.size + 1 < w1.heap.size := (by omega)
  go_wp2_with fail
  refine (H_.out a cap ms a' cap' ms' _ HI.out (HIN.out.below (by (repeat (first | with_reducible assumption | with_reducible exact Below.refl _ _ | with_reducible refine Below.drew ?_ | with_reducible refine belowDrewN ?_ _ | ((with_reducible refine Below.setCell ?_ ?_ _); rotate_left; focus (first | omega | (simp; done) | (simp; omega))) | ((with_reducible refine Below.alloc ?_ ?_ _); rotate_left; focus (first | omega | (simp; done) | (simp; omega))) | ((with_reducible refine Below.trans ?_ (Below.mono hb1 ?_)); rotate_left; focus (first | omega | (simp; done) | (simp; omega))))))) HI'.out (HIN'.out.below (by (repeat (first | with_reducible assumption | with_reducible exact Below.refl _ _ | with_reducible refine Below.drew ?_ | with_reducible refine belowDrewN ?_ _ | ((with_reducible refine Below.setCell ?_ ?_ _); rotate_left; focus (first | omega | (simp; done) | (simp; omega))) | ((with_reducible refine Below.alloc ?_ ?_ _); rotate_left; focus (first | omega | (simp; done) | (simp; omega))) | ((with_reducible refine Below.trans ?_ (Below.mono hb1 ?_)); rotate_left; focus (first | omega | (simp; done) | (simp; omega)))))))).mono ?_
  rintro e w2 ⟨rfl, hb2⟩
  go_wp2_with fail
  go_ret
  exact ⟨rfl, by (repeat (first | with_reducible assumption | with_reducible exact Below.refl _ _ | with_reducible refine Below.drew ?_ | with_reducible refine belowDrewN ?_ _ | ((with_reducible refine Below.setCell ?_ ?_ _); rotate_left; focus (first | omega | (simp; done) | (simp; omega))) | ((with_reducible refine Below.alloc ?_ ?_ _); rotate_left; focus (first | omega | (simp; done) | (simp; omega))) | ((with_reducible refine Below.trans ?_ (Below.mono hb1 ?_)); rotate_left; focus (first | omega | (simp; done) | (simp; omega))) | ((with_reducible refine Below.trans ?_ (Below.mono hb2 ?_)); rotate_left; focus (first | omega | (simp; done) | (simp; omega)))))⟩

theorem eqSyntaxS_calls : ∀ ds, EqSs ds := by
  refine Syn.inductL fun ds ih => ?_
  intro a cap ms a' cap' ms' w hi hin hi' hin'
  have hln := hi.length
  have hln' := hi'.length
  have hcapm := hin.len
  have hl2 : ms'.length = ms.length := by omega
  rw [hl2]
  have IH := Lib.hid ih; clear ih; have HIN := Lib.hid hin; clear hin; have HI := Lib.hid hi; clear hi; have HIN' := Lib.hid hin'; clear hin'; have HI' := Lib.hid hi'; clear hi'; have HLN := Lib.hid hln; clear hln; have HLN' := Lib.hid hln'; clear hln'; have HL2 := Lib.hid hl2; clear hl2
  go_enter Try.func125, Try.ntmps125
  go_wp2_with fail
  go_loopw [5] (fun i wr => ∃ k : Nat, k ≤ ms.length ∧ i = .int .i64 k ∧ Below w.heap.size w wr ∧ w.heap.size ≤ wr.heap.size) (fun i _ => ms.length - (intOf i).toNat)
  case atStart => exact ⟨0, Nat.zero_le _, rfl, Below.refl _ _, Nat.le_refl _⟩
  case round =>
    obtain ⟨k', hk, rfl, hb, hsz⟩ := hrel
    by_cases hlt : k' < ms.length
    · obtain ⟨b, off, b', off', k1, n1, s1, x1, ds1, xa1, xc1, a1, cap1, ms1, xa1', xc1', a1', cap1', ms1', rfl, rfl, hd, hi1, hi1', ⟨hx1, hx1', hin1, hin1'⟩, c0, c1, c2, c3, c4, c0', c1', c2', c3', c4'⟩ := Syn.elem2 (HIN.out.below hb) HI.out (HIN'.out.below hb) HI'.out k' hlt
      have hbl := World.block_lt_of_cell? wr _ c0
      have hbl' := World.block_lt_of_cell? wr _ c0'
      have HI1 := Lib.hid hi1; clear hi1; have HIN1 := Lib.hid hin1; clear hin1; have HI1' := Lib.hid hi1'; clear hi1'; have HIN1' := Lib.hid hin1'; clear hin1'; have HD := Lib.hid hd; clear hd; have HX1 := Lib.hid hx1; clear hx1; have HX1' := Lib.hid hx1'; clear hx1'
      go_wp2_with fail
      go_region_held3 (fun w' => w'.cell? ⟨b, off + k' * 5, none⟩ = some (.int .i64 k1) ∧ w'.cell? ⟨b, off + k' * 5 + 1, none⟩ = some (.int .i64 n1) ∧ w'.cell? ⟨b, off + k' * 5 + 2, none⟩ = some (.string s1) ∧ w'.cell? ⟨b, off + k' * 5 + 3, none⟩ = some (.slice xa1 x1.length xc1) ∧ w'.cell? ⟨b, off + k' * 5 + 4, none⟩ = some (.slice a1 ms1.length cap1) ∧ w'.cell? ⟨b', off' + k' * 5, none⟩ = some (.int .i64 k1) ∧ w'.cell? ⟨b', off' + k' * 5 + 1, none⟩ = some (.int .i64 n1) ∧ w'.cell? ⟨b', off' + k' * 5 + 2, none⟩ = some (.string s1) ∧ w'.cell? ⟨b', off' + k' * 5 + 3, none⟩ = some (.slice xa1' x1.length xc1') ∧ w'.cell? ⟨b', off' + k' * 5 + 4, none⟩ = some (.slice a1' ms1'.length cap1'))
        (first | exact ⟨c0, c1, c2, c3, c4, c0', c1', c2', c3', c4'⟩ | exact ⟨(hc1 _ _ hbl).trans c0, (hc1 _ _ hbl).trans c1, (hc1 _ _ hbl).trans c2, (hc1 _ _ hbl).trans c3, (hc1 _ _ hbl).trans c4, (hc1 _ _ hbl').trans c0', (hc1 _ _ hbl').trans c1', (hc1 _ _ hbl').trans c2', (hc1 _ _ hbl').trans c3', (hc1 _ _ hbl').trans c4'⟩)
        (first | (go_at_call 88; refine (eqSyntax_of ds1 (IH.out k1 n1 s1 x1 ds1 (List.mem_of_getElem? HD.out)) k1 n1 s1 x1 xa1 xc1 a1 cap1 ms1 xa1' xc1' a1' cap1' ms1' _ HI1.out (HX1.out.below (by (repeat (first | with_reducible assumption | with_reducible exact Below.refl _ _ | with_reducible refine Below.drew ?_ | with_reducible refine belowDrewN ?_ _ | ((with_reducible refine Below.setCell ?_ ?_ _); rotate_left; focus (first | omega | (simp; done) | (simp; omega))) | ((with_reducible refine Below.alloc ?_ ?_ _); rotate_left; focus (first | omega | (simp; done) | (simp; omega))))))) (HIN1.out.below (by (repeat (first | with_reducible assumption | with_reducible exact Below.refl _ _ | with_reducible refine Below.drew ?_ | with_reducible refine belowDrewN ?_ _ | ((with_reducible refine Below.setCell ?_ ?_ _); rotate_left; focus (first | omega | (simp; done) | (simp; omega))) | ((with_reducible refine Below.alloc ?_ ?_ _); rotate_left; focus (first | omega | (simp; done) | (simp; omega))))))) HI1'.out (HX1'.out.below (by (repeat (first | with_reducible assumption | with_reducible exact Below.refl _ _ | with_reducible refine Below.drew ?_ | with_reducible refine belowDrewN ?_ _ | ((with_reducible refine Below.setCell ?_ ?_ _); rotate_left; focus (first | omega | (simp; done) | (simp; omega))) | ((with_reducible refine Below.alloc ?_ ?_ _); rotate_left; focus (first | omega | (simp; done) | (simp; omega))))))) (HIN1'.out.below (by (repeat (first | with_reducible assumption | with_reducible exact Below.refl _ _ | with_reducible refine Below.drew ?_ | with_reducible refine belowDrewN ?_ _ | ((with_reducible refine Below.setCell ?_ ?_ _); rotate_left; focus (first | omega | (simp; done) | (simp; omega))) | ((with_reducible refine Below.alloc ?_ ?_ _); rotate_left; focus (first | omega | (simp; done) | (simp; omega)))))))).mono ?_; rintro e w1 ⟨rfl, hb1⟩; obtain ⟨hc1, hf1⟩ := bcell hb1))
      have hz1 := hb1.size
      simp only [World.size_drew] at hz1
      go_wp2_with fail
      go_roundw
      case rel => exact ⟨k' + 1, by omega, by go_num, by (repeat (first | with_reducible assumption | with_reducible exact Below.refl _ _ | with_reducible refine Below.drew ?_ | with_reducible refine belowDrewN ?_ _ | ((with_reducible refine Below.setCell ?_ ?_ _); rotate_left; focus (first | omega | (simp; done) | (simp; omega))) | ((with_reducible refine Below.alloc ?_ ?_ _); rotate_left; focus (first | omega | (simp; done) | (simp; omega))) | ((with_reducible refine Below.trans ?_ (Below.mono hb1 ?_)); rotate_left; focus (first | omega | (simp; done) | (simp; omega))))), by omega⟩
      case measure => simp [intOf]; omega
    · go_wp2
      go_ret
      exact ⟨rfl, hb⟩
theorem eqSyntax_w (ds : List Syn) (k n : Int) (s : ByteArray) (x : List Int) (xa : Option Addr) (xc : Nat) (a : Option Addr) (cap : Nat) (ms : List M) (xa' : Option Addr) (xc' : Nat) (a' : Option Addr) (cap' : Nat) (ms' : List M) (w : World)
    (hi : Syn.IsL 33 ds ms) (hin : (SynOwn 33 xa xc x a cap ms).In w) (hi' : Syn.IsL 33 ds ms') (hin' : (SynOwn 33 xa' xc' x a' cap' ms').In w) :
    Calls Try.prog 88 #[.agg #[.int .i64 k, .int .i64 n, .string s, .slice xa x.length xc, .slice a ms.length cap], .agg #[.int .i64 k, .int .i64 n, .string s, .slice xa' x.length xc', .slice a' ms'.length cap']] w (Ret (.bool true) w) :=
  eqSyntax_of ds (eqSyntaxS_calls ds) k n s x xa xc a cap ms xa' xc' a' cap' ms' w hi (SynIn_x hin) (SynIn_ms hin) hi' (SynIn_x hin') (SynIn_ms hin')
end Go.Proofs.Ytigmgfinjapchaa
