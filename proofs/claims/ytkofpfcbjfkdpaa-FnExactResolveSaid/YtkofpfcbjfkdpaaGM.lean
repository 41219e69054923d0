/-
  Walks: marking bindings. No condition.
-/
import Derived.Test.YtkofpfcbjfkdpaaG2
import Derived.Test.YtkofpfcbjfkdpaaW6
import Derived.Test.YtkofpfcbjfkdpaaSet
set_option linter.unusedVariables false
set_option linter.unusedSimpArgs false
set_option maxRecDepth 100000
namespace Go.Proofs.Ytkofpfcbjfkdpaa
open Go.RowKit

def Bnd.places : Bnd → Nat | .mk _ x _ _ => 3 + x.length
def Bnd.placesL : List Bnd → Nat
  | [] => 0
  | d :: r => d.places + Bnd.placesL r
theorem Bnd.placesL_append (xs ys : List Bnd) : Bnd.placesL (xs ++ ys) = Bnd.placesL xs + Bnd.placesL ys := by
  induction xs with
  | nil => simp [Bnd.placesL]
  | cons x r ih => simp only [List.cons_append, Bnd.placesL, ih]; omega
theorem Bnd.placesL_le (ds : List Bnd) (k : Nat) (d : Bnd) (h : ds[k]? = some d) : Bnd.placesL (ds.take (k+1)) = Bnd.placesL (ds.take k) + d.places ∧ Bnd.placesL (ds.take k) + d.places ≤ Bnd.placesL ds := by
  have h1 : Bnd.placesL (ds.take (k+1)) = Bnd.placesL (ds.take k) + d.places := by rw [take_snoc h, Bnd.placesL_append]; simp [Bnd.placesL]
  have h2 : Bnd.placesL ds = Bnd.placesL (ds.take (k+1)) + Bnd.placesL (ds.drop (k+1)) := by rw [← Bnd.placesL_append, List.take_append_drop]
  exact ⟨h1, by omega⟩
theorem Bnd.placesL_wt (ds : List Bnd) : Bnd.placesL ds ≤ 3 * ds.length + Bnd.wtX ds := by
  induction ds with
  | nil => simp [Bnd.placesL]
  | cons d r ih => obtain ⟨s, x, k, n⟩ := d; simp only [Bnd.placesL, Bnd.places, Bnd.wtX, Bnd.wt, List.length_cons]; omega
/-- A binding whose places have been numbered from k on. -/
def Bnd.mark (k : Int) : Bnd → Bnd
  | .mk _ x _ _ => .mk (mtx k) (cnt (k + 1) x.length) (k + 1 + (x.length : Int)) (k + 1 + (x.length : Int) + 1)
def Bnd.markL (k : Int) : List Bnd → List Bnd
  | [] => []
  | d :: r => d.mark k :: Bnd.markL (k + (d.places : Int)) r
theorem Bnd.markL_append (xs ys : List Bnd) : ∀ k, Bnd.markL k (xs ++ ys) = Bnd.markL k xs ++ Bnd.markL (k + (Bnd.placesL xs : Int)) ys := by
  induction xs with
  | nil => intro k; simp [Bnd.markL, Bnd.placesL]
  | cons x r ih =>
    intro k
    simp only [List.cons_append, Bnd.markL, Bnd.placesL, ih]
    congr 3
    push_cast; omega
theorem Bnd.markL_length (ds : List Bnd) : ∀ k, (Bnd.markL k ds).length = ds.length := by
  induction ds with
  | nil => intro k; rfl
  | cons x r ih => intro k; simp [Bnd.markL, ih]
theorem Bnd.markL_take {ds : List Bnd} {j : Nat} {d : Bnd} (h : ds[j]? = some d) (k : Int) : Bnd.markL k (ds.take (j + 1)) = Bnd.markL k (ds.take j) ++ [d.mark (k + (Bnd.placesL (ds.take j) : Int))] := by
  rw [take_snoc h, Bnd.markL_append]; rfl
theorem Bnd.mark_set {ds : List Bnd} {j : Nat} {d : Bnd} (h : ds[j]? = some d) (k : Int) :
    (Bnd.markL k (ds.take j) ++ ds.drop j).set j (d.mark (k + (Bnd.placesL (ds.take j) : Int))) = Bnd.markL k (ds.take (j + 1)) ++ ds.drop (j + 1) := by
  obtain ⟨hj, rfl⟩ := List.getElem?_eq_some_iff.1 h
  have hl : (Bnd.markL k (ds.take j)).length = j := by rw [Bnd.markL_length]; simp; omega
  rw [List.set_append, hl, if_neg (by omega), Nat.sub_self, List.drop_eq_getElem_cons hj, List.set_cons_zero, Bnd.markL_take h k]
  simp
theorem Bnd.mark_at {ds : List Bnd} {j : Nat} (k : Int) (hj : j < ds.length) : (Bnd.markL k (ds.take j) ++ ds.drop j)[j]? = ds[j]? := by
  have hl : (Bnd.markL k (ds.take j)).length = j := by rw [Bnd.markL_length]; simp; omega
  rw [List.getElem?_append_right (by omega), hl, Nat.sub_self, List.getElem?_drop]; simp
theorem Bnd.markL_get {ds : List Bnd} {j : Nat} {d : Bnd} (h : ds[j]? = some d) (k : Int) : (Bnd.markL k ds)[j]? = some (d.mark (k + (Bnd.placesL (ds.take j) : Int))) := by
  obtain ⟨hj, rfl⟩ := List.getElem?_eq_some_iff.1 h
  conv => lhs; rw [← List.take_append_drop j ds, List.drop_eq_getElem_cons hj, Bnd.markL_append]
  have hl : (Bnd.markL k (ds.take j)).length = j := by rw [Bnd.markL_length]; simp; omega
  rw [List.getElem?_append_right (by omega), hl, Nat.sub_self]; rfl

def MarkedBs (k : Int) (a : Option Addr) (cap : Nat) (ms : List M) (ds : List Bnd) (lo : Nat) (w : World) (e : Ending) (w' : World) : Prop :=
  e = .returned (.int .i64 (k + (Bnd.placesL ds : Int))) ∧ ∃ ms', ms'.length = ms.length ∧ Bnd.IsL (Bnd.markL k ds) ms' ∧ (M.sl a cap 4 49 ms').Mine w' lo ∧ M.blocksL ms' = M.blocksL ms ∧
    Only (M.sl a cap 4 49 ms).blocks w w'
theorem markBindingS_calls (ds : List Bnd) (a : Option Addr) (cap : Nat) (ms : List M) (k : Int) (lo : Nat) (w : World) (hi : Bnd.IsL ds ms) (hm : (M.sl a cap 4 49 ms).Mine w lo) (hk0 : 0 ≤ k) (hkb : k + (Bnd.placesL ds : Int) ≤ 1000000000000) :
    Calls Try.prog 60 #[.slice a ms.length cap, .int .i64 k] w (MarkedBs k a cap ms ds lo w) := by
  have hln := hi.length
  have hcapm := hm.in_.len
  have HI := Lib.hid hi; clear hi; have HM := Lib.hid hm; clear hm; have HKB := Lib.hid hkb; clear hkb; have HLN := Lib.hid hln; clear hln
  go_enter Try.func60, Try.ntmps60
  go_wp2_with fail
  go_loopw [1, 5] (fun t i wr => ∃ (j : Nat) (ms' : List M), j ≤ ms.length ∧ i = .int .i64 j ∧ t = .int .i64 (k + (Bnd.placesL (ds.take j) : Int)) ∧ ms'.length = ms.length ∧ Bnd.IsL (Bnd.markL k (ds.take j) ++ ds.drop j) ms' ∧ (M.sl a cap 4 49 ms').Mine wr lo ∧ M.blocksL ms' = M.blocksL ms ∧ Only (M.sl a cap 4 49 ms).blocks w wr) (fun _ i _ => ms.length - (intOf i).toNat)
  case atStart => exact ⟨0, ms, Nat.zero_le _, rfl, by simp [Bnd.placesL], rfl, by simpa [Bnd.markL] using HI.out, HM.out, rfl, Only.refl _ _⟩
  case round =>
    obtain ⟨j, ms', hj, rfl, rfl, hml, hi', hm', hbl, ho⟩ := hrel
    by_cases hlt : j < ms.length
    · have hjd : j < ds.length := by have := HLN.out; omega
      have hjm : j < ms'.length := by omega
      have hdj : ds[j]? = some ds[j] := List.getElem?_eq_getElem hjd
      have hat := Bnd.mark_at k hjd
      have hil := hi'.length
      have hg := hi'.get j (by omega) hjm
      have hge : (Bnd.markL k (ds.take j) ++ ds.drop j)[j]'(by omega) = ds[j] := by
        have := hat
        rw [List.getElem?_eq_getElem (by omega), hdj] at this
        exact Option.some.inj this
      rw [hge] at hg
      have hmset := Bnd.mark_set hdj k
      have hcl := (Bnd.placesL_le ds j _ hdj)
      generalize hd1 : ds[j] = d1 at *
      obtain ⟨s1, x1, k1, n1⟩ := d1
      obtain ⟨xa1, xc1, hmj⟩ := hg
      have hkk := HKB.out
      obtain ⟨hc1', hc2'⟩ := hcl
      simp only [Bnd.places] at hc1' hc2'
      obtain ⟨g, rfl, _, hgw⟩ := hm'.addr (by omega)
      obtain ⟨⟨u0, r0⟩, f0⟩ := hm'.row (j * 4) (by omega)
      obtain ⟨bb, oo, hg0, hel⟩ := hm'.in_.elem (by omega)
      obtain ⟨rfl, rfl⟩ : g = bb ∧ oo = 0 := by simp only [Option.some.injEq, Addr.mk.injEq, and_true] at hg0; exact ⟨hg0.1, hg0.2.symm⟩
      have r1 := hel j hjm 1 (.slice xa1 (intM x1).length xc1) (by rw [hmj]; rfl)
      rw [Nat.zero_add, intM_length] at r1
      clear hel hg0 hat
      generalize hKe : k + (Bnd.placesL (ds.take j) : Int) = K at *
      have hK0 : 0 ≤ K := by omega
      have hK9 : K + 3 + (x1.length : Int) ≤ 1000000000000 := by omega
      have hx : ms'[j]? = some (.ag [.c (.string s1), .sl xa1 xc1 1 3 (intM x1), .c (.int .i64 k1), .c (.int .i64 n1)]) := by rw [List.getElem?_eq_getElem hjm, hmj]; rfl
      have hxl : ∀ b ∈ (M.sl xa1 xc1 1 3 (intM x1)).blocks, b ∈ M.blocksL ms' := fun b hb => mem_blocksL.2 ⟨_, List.mem_of_getElem? hx, by simp only [M.blocks, M.blocksL]; simp only [M.blocks] at hb; simp [hb]⟩
      clear hge hd1 hil hmj hjd
      have HI' := Lib.hid hi'; clear hi'; have HM' := Lib.hid hm'; clear hm'; have HML := Lib.hid hml; clear hml; have HDJ := Lib.hid hdj; clear hdj; have HMSET := Lib.hid hmset; clear hmset; have HBL := Lib.hid hbl; clear hbl; have HO := Lib.hid ho; clear ho; have HX := Lib.hid hx; clear hx; have HC1' := Lib.hid hc1'; clear hc1'; have HKE := Lib.hid hKe; clear hKe; have HXL := Lib.hid hxl; clear hxl
      clear hkk hc2'
      have hK1 : K ≤ 1000000000000 := by omega
      have hK2 : K + 1 ≤ 1000000000000 := by omega
      go_wp2_with fail
      refine (markText_calls _ _ (by omega)).mono ?_
      rintro e w2 ⟨rfl, hb2⟩
      obtain ⟨hc2, hf2⟩ := bcell hb2; have hz2 := hb2.size; (try simp only [World.size_alloc, World.size_setCell, World.size_drew, sizeDrewN] at hz2 hc2 hf2)
      have one : ∀ (u v x : Value) (m : M), m.cells.length = 1 → ∀ y ∈ [M.c u, m, .c v, .c x], y.cells.length = 1 := by intro u v x m hm y hy; simp at hy; rcases hy with rfl | rfl | rfl | rfl <;> first | rfl | exact hm
      obtain ⟨h1, hx1⟩ := (HM'.out.below hb2).setC HX.out 0 rfl (one _ _ _ _ rfl) (.string (mtx K)) rfl
      have hbl1 := setC_blocks (j := 0) HX.out rfl (.string (mtx K))
      simp only [List.set_cons_zero, List.set_cons_succ, Nat.add_zero] at h1 hx1 hbl1
      have hsub := h1.piece hx1 (j := 1) rfl
      have H1 := Lib.hid h1; clear h1; have HX1 := Lib.hid hx1; clear hx1; have HBL1 := Lib.hid hbl1; clear hbl1; have HSUB := Lib.hid hsub; clear hsub
      go_wp2_with fail
      refine (markIntS_calls xa1 xc1 x1 (K + 1) lo _ HSUB.out (by omega) (by omega)).mono ?_
      rintro e w3 ⟨rfl, hm3, ho3⟩
      obtain ⟨h3, hx3, hbl3⟩ := H1.out.setP HX1.out 1 (m := .sl xa1 xc1 1 3 (intM x1)) rfl (.sl xa1 xc1 1 3 (intM (cnt (K + 1) x1.length))) (by simp [M.cells, intM_length, cnt_length]) (by simp [M.blocks, intM_blocks]) hm3 ho3 (fun b hb => by simp [M.blocks, hb])
      simp only [List.set_cons_zero, List.set_cons_succ, List.set_set] at h3 hx3 hbl3
      obtain ⟨⟨u2, t2⟩, g2⟩ := h3.row (j * 4 + 2) (by rw [List.length_set, HML.out]; omega)
      obtain ⟨⟨u3, t3⟩, g3⟩ := h3.row (j * 4 + 3) (by rw [List.length_set, HML.out]; omega)
      obtain ⟨h4, hx4⟩ := h3.setC hx3 2 rfl (one _ _ _ _ rfl) (.int .i64 (K + 1 + (x1.length : Int))) rfl
      have hbl4 := setC_blocks (j := 2) hx3 rfl (.int .i64 (K + 1 + (x1.length : Int)))
      simp only [List.set_cons_zero, List.set_cons_succ, List.set_set] at h4 hx4 hbl4
      obtain ⟨h5, hx5⟩ := h4.setC hx4 3 rfl (one _ _ _ _ rfl) (.int .i64 (K + 1 + (x1.length : Int) + 1)) rfl
      have hbl5 := setC_blocks (j := 3) hx4 rfl (.int .i64 (K + 1 + (x1.length : Int) + 1))
      simp only [List.set_cons_zero, List.set_cons_succ, List.set_set] at h5 hx5 hbl5
      rw [hbl4, hbl3, HBL1.out, HBL.out] at hbl5
      have his := HI'.out.set j (d := Bnd.mark K (.mk s1 x1 k1 n1)) (m := .ag [.c (.string (mtx K)), .sl xa1 xc1 1 3 (intM (cnt (K + 1) x1.length)), .c (.int .i64 (K + 1 + (x1.length : Int))), .c (.int .i64 (K + 1 + (x1.length : Int) + 1))]) ⟨xa1, xc1, rfl⟩
      rw [HMSET.out] at his
      have hcount : k + (Bnd.placesL (ds.take (j + 1)) : Int) = K + 1 + (x1.length : Int) + 1 + 1 := by
        have h1 := HC1'.out; have h2 := HKE.out; rw [h1]; push_cast; omega
      have hgm : ∀ u, (⟨g, u, none⟩ : Addr).block ∈ (M.sl (some ⟨g, 0, none⟩) cap 4 49 ms).blocks := fun u => by simp [M.blocks, addrBlocks]
      have hxs : ∀ b ∈ addrBlocks xa1, b ∈ (M.sl (some ⟨g, 0, none⟩) cap 4 49 ms).blocks := fun b hb => by
        have := HXL.out b (by simp [M.blocks, hb])
        rw [HBL.out] at this
        simp [M.blocks, this]
      have hof := (((((HO.out.trans (Only.of_below hb2)).setCell (hgm _) (.string (mtx K))).trans (ho3.mono hxs)).setCell (hgm (j * 4 + 2)) (.int .i64 (K + 1 + (x1.length : Int)))).setCell (hgm (j * 4 + 3)) (.int .i64 (K + 1 + (x1.length : Int) + 1)))
      clear hb2 hc2 hf2 hz2
      have HM3 := Lib.hid hm3; clear hm3; have HO3 := Lib.hid ho3; clear ho3; have H3 := Lib.hid h3; clear h3; have HX3 := Lib.hid hx3; clear hx3; have HBL3 := Lib.hid hbl3; clear hbl3; have H4 := Lib.hid h4; clear h4; have HX4 := Lib.hid hx4; clear hx4; have HBL4 := Lib.hid hbl4; clear hbl4; have H5 := Lib.hid h5; clear h5; have HX5 := Lib.hid hx5; clear hx5; have HBL5 := Lib.hid hbl5; clear hbl5; have HIS := Lib.hid his; clear his; have HCOUNT := Lib.hid hcount; clear hcount; have HGM := Lib.hid hgm; clear hgm; have HXS := Lib.hid hxs; clear hxs; have HOF := Lib.hid hof; clear hof; have ONE := Lib.hid one; clear one
      go_wp2_with fail
      go_roundw
      case rel => exact ⟨j + 1, _, by omega, by go_num, by rw [HCOUNT.out], by rw [List.length_set]; exact HML.out, HIS.out, H5.out, HBL5.out, HOF.out⟩
      case measure => simp [intOf]; omega
    · go_wp2_with fail
      go_ret
      obtain rfl : j = ms.length := by omega
      have hl := HLN.out
      exact ⟨ret_i (by rw [hl, List.take_length]), ms', hml, by rw [hl, List.take_length] at hi'; simpa using hi', hm', hbl, ho⟩
def MarkedAtBs (k : Int) (a : Option Addr) (cap : Nat) (ms : List M) (ds : List Bnd) (lo hi : Nat) (w : World) (e : Ending) (w' : World) : Prop :=
  ∃ ms', e = .returned (.int .i64 (k + (Bnd.placesL ds : Int))) ∧ ms'.length = ms.length ∧ Bnd.IsL (Bnd.markL k ds) ms' ∧ (M.sl a cap 4 49 ms').At lo hi w' ∧ OnlyIn lo hi w w'
theorem markBindingS_at (ds : List Bnd) (a : Option Addr) (cap : Nat) (ms : List M) (k : Int) (lo hi : Nat) (w : World) (hi' : Bnd.IsL ds ms) (h : (M.sl a cap 4 49 ms).At lo hi w) (hk0 : 0 ≤ k) (hkb : k + (Bnd.placesL ds : Int) ≤ 1000000000000) :
    Calls Try.prog 60 #[.slice a ms.length cap, .int .i64 k] w (MarkedAtBs k a cap ms ds lo hi w) :=
  (markBindingS_calls ds a cap ms k lo w hi' h.mine hk0 hkb).mono fun e w' ⟨he, ms', h1, h2, h3, h4, h5⟩ => by
    have hb : (M.sl a cap 4 49 ms').blocks = (M.sl a cap 4 49 ms).blocks := by simp [M.blocks, h4]
    obtain ⟨_, hA, hO⟩ := MarkedAt.of (v := .int .i64 (k + (Bnd.placesL ds : Int))) h he h3 h5 (fun b hb => hb) (fun b hb' => hb ▸ hb')
    exact ⟨ms', he, h1, h2, hA, hO⟩
theorem heldBindingS_of (ds : List Bnd) (a : Option Addr) (cap : Nat) (ms : List M) (nn : Nat) (k : Int) (w : World) (hnn : ms.length = nn) (hi : Bnd.IsL (Bnd.markL k ds) ms) (hin : (M.sl a cap 4 49 ms).In w) (hk0 : 0 ≤ k) (hkb : k + (Bnd.placesL ds : Int) ≤ 1000000000000) :
    Calls Try.prog 62 #[.slice a nn cap, .int .i64 k] w (Ret (.int .i64 (k + (Bnd.placesL ds : Int))) w) := by
  subst hnn
  have hln := hi.length
  rw [Bnd.markL_length] at hln
  have hcapm := hin.len
  have HI := Lib.hid hi; clear hi; have HIN := Lib.hid hin; clear hin; have HKB := Lib.hid hkb; clear hkb; have HLN := Lib.hid hln; clear hln
  go_enter Try.func62, Try.ntmps62
  go_wp2_with fail
  go_loopw [1, 5] (fun t i wr => ∃ (j : Nat), j ≤ ms.length ∧ i = .int .i64 j ∧ t = .int .i64 (k + (Bnd.placesL (ds.take j) : Int)) ∧ Below w.heap.size w wr ∧ w.heap.size ≤ wr.heap.size) (fun _ i _ => ms.length - (intOf i).toNat)
  case atStart => exact ⟨0, Nat.zero_le _, rfl, by simp [Bnd.placesL], Below.refl _ _, Nat.le_refl _⟩
  case round =>
    obtain ⟨j, hj, rfl, rfl, hb, hsz⟩ := hrel
    by_cases hlt : j < ms.length
    · have hjd : j < ds.length := by have := HLN.out; omega
      have hdj : ds[j]? = some ds[j] := List.getElem?_eq_getElem hjd
      have hget := Bnd.markL_get hdj k
      have hcl := (Bnd.placesL_le ds j _ hdj)
      generalize hd1 : ds[j] = d1 at *
      obtain ⟨s0, x0, k0, n0⟩ := d1
      have hkk := HKB.out
      obtain ⟨hc1', hc2'⟩ := hcl
      simp only [Bnd.places] at hc1' hc2'
      generalize hKe : k + (Bnd.placesL (ds.take j) : Int) = K at *
      have hK0 : 0 ≤ K := by omega
      have hK9 : K + 3 + (x0.length : Int) ≤ 1000000000000 := by omega
      obtain ⟨b, off, s1, x1, k1, n1, xa1, xc1, rfl, hd, hx1, c0, c1, c2, c3⟩ := Bnd.elem (HIN.out.below hb) HI.out j hlt
      rw [hget] at hd
      simp only [Bnd.mark, Option.some.injEq, Bnd.mk.injEq] at hd
      obtain ⟨rfl, rfl, rfl, rfl⟩ := hd
      rw [cnt_length] at c1
      have hbl := World.block_lt_of_cell? wr _ c0
      have hcount : k + (Bnd.placesL (ds.take (j + 1)) : Int) = K + 1 + (x0.length : Int) + 1 + 1 := by
        rw [hc1']; push_cast; omega
      clear hc1' hc2' hget hd1 hkk
      have HDJ := Lib.hid hdj; clear hdj; have HX1 := Lib.hid hx1; clear hx1; have HKE := Lib.hid hKe; clear hKe; have HCOUNT := Lib.hid hcount; clear hcount
      have hK1 : K ≤ 1000000000000 := by omega
      have hK2 : K + 1 ≤ 1000000000000 := by omega
      go_wp2_with fail
      go_region_held3 (fun w' => w'.cell? ⟨b, off + j * 4, none⟩ = some (.string (mtx K)) ∧ w'.cell? ⟨b, off + j * 4 + 1, none⟩ = some (.slice xa1 x0.length xc1) ∧ w'.cell? ⟨b, off + j * 4 + 2, none⟩ = some (.int .i64 (K + 1 + (x0.length : Int))) ∧ w'.cell? ⟨b, off + j * 4 + 3, none⟩ = some (.int .i64 (K + 1 + (x0.length : Int) + 1)))
        (first | exact ⟨c0, c1, c2, c3⟩ | exact ⟨(hc1 _ _ hbl).trans c0, (hc1 _ _ hbl).trans c1, (hc1 _ _ hbl).trans c2, (hc1 _ _ hbl).trans c3⟩)
        (first | (go_at_call 135; refine (markText_calls _ _ (by omega)).mono ?_; rintro e w1 ⟨rfl, hb1⟩; obtain ⟨hc1, hf1⟩ := bcell hb1; have hz1 := hb1.size; (try simp only [World.size_alloc, World.size_setCell, World.size_drew, sizeDrewN] at hz1 hc1 hf1)))
      have c1' : w1.cell? ⟨b, off + j * 4 + 1, none⟩ = some (.slice xa1 x0.length xc1) := (hc1 _ _ hbl).trans c1
      have c2' : w1.cell? ⟨b, off + j * 4 + 2, none⟩ = some (.int .i64 (K + 1 + (x0.length : Int))) := (hc1 _ _ hbl).trans c2
      have c3' : w1.cell? ⟨b, off + j * 4 + 3, none⟩ = some (.int .i64 (K + 1 + (x0.length : Int) + 1)) := (hc1 _ _ hbl).trans c3
      go_wp2_with fail
      refine (heldIntS_calls xa1 xc1 x0.length (K + 1) _ (HX1.out.below (by (repeat (first | with_reducible assumption | with_reducible exact Below.refl _ _ | with_reducible refine Below.drew ?_ | with_reducible refine belowDrewN ?_ _ | ((with_reducible refine Below.setCell ?_ ?_ _); rotate_left; focus (first | omega | (simp; done) | (simp; omega))) | ((with_reducible refine Below.alloc ?_ ?_ _); rotate_left; focus (first | omega | (simp; done) | (simp; omega))) | ((with_reducible refine Below.trans ?_ (Below.mono hb1 ?_)); rotate_left; focus (first | omega | (simp; done) | (simp; omega))))))) (by omega) (by omega)).mono ?_
      rintro e w2 ⟨rfl, hb2⟩
      obtain ⟨hc2, hf2⟩ := bcell hb2; have hz2 := hb2.size; (try simp only [World.size_alloc, World.size_setCell, World.size_drew, sizeDrewN] at hz2 hc2 hf2)
      have c2'' : w2.cell? ⟨b, off + j * 4 + 2, none⟩ = some (.int .i64 (K + 1 + (x0.length : Int))) := (hc2 _ _ (by omega)).trans c2'
      have c3'' : w2.cell? ⟨b, off + j * 4 + 3, none⟩ = some (.int .i64 (K + 1 + (x0.length : Int) + 1)) := (hc2 _ _ (by omega)).trans c3'
      have hpos : ¬ (K + 1 + (x0.length : Int) < 0) := by omega
      go_wp2_with fail
      go_roundw
      case rel => exact ⟨j + 1, by omega, by go_num, by rw [HCOUNT.out], by (repeat (first | with_reducible assumption | with_reducible exact Below.refl _ _ | with_reducible refine Below.drew ?_ | with_reducible refine belowDrewN ?_ _ | ((with_reducible refine Below.setCell ?_ ?_ _); rotate_left; focus (first | omega | (simp; done) | (simp; omega))) | ((with_reducible refine Below.alloc ?_ ?_ _); rotate_left; focus (first | omega | (simp; done) | (simp; omega))) | ((with_reducible refine Below.trans ?_ (Below.mono hb1 ?_)); rotate_left; focus (first | omega | (simp; done) | (simp; omega))) | ((with_reducible refine Below.trans ?_ (Below.mono hb2 ?_)); rotate_left; focus (first | omega | (simp; done) | (simp; omega))))), by omega⟩
      case measure => simp [intOf]; omega
    · go_wp2_with fail
      go_ret
      obtain rfl : j = ms.length := by omega
      have hl := HLN.out
      exact ⟨ret_i (by rw [hl, List.take_length]), hb⟩
end Go.Proofs.Ytkofpfcbjfkdpaa
