/-
  Walks: marking syntax. No condition.
-/
import Derived.Test.YtoflfamfhpijcaaY4
import Derived.Test.YtoflfamfhpijcaaW5
import Derived.Test.YtoflfamfhpijcaaSet
set_option linter.unusedVariables false
set_option linter.unusedSimpArgs false
set_option maxRecDepth 100000
namespace Go.Proofs.Ytoflfamfhpijcaa
open Go.RowKit

mutual
/-- how many places of a piece of syntax are numbered -/
def Syn.places : Syn → Nat
  | .mk _ _ _ x es => 3 + x.length + Syn.placesL es
def Syn.placesL : List Syn → Nat
  | [] => 0
  | d :: r => d.places + Syn.placesL r
end
theorem Syn.placesL_append (xs ys : List Syn) : Syn.placesL (xs ++ ys) = Syn.placesL xs + Syn.placesL ys := by
  induction xs with
  | nil => simp [Syn.placesL]
  | cons x r ih => simp only [List.cons_append, Syn.placesL, ih]; omega
theorem Syn.placesL_le (ds : List Syn) (k : Nat) (d : Syn) (h : ds[k]? = some d) : Syn.placesL (ds.take (k+1)) = Syn.placesL (ds.take k) + d.places ∧ Syn.placesL (ds.take k) + d.places ≤ Syn.placesL ds := by
  have h1 : Syn.placesL (ds.take (k+1)) = Syn.placesL (ds.take k) + d.places := by rw [take_snoc h, Syn.placesL_append]; simp [Syn.placesL]
  refine ⟨h1, ?_⟩
  rw [← h1]
  conv => rhs; rw [← List.take_append_drop (k+1) ds, Syn.placesL_append]
  omega
theorem Syn.placesL_wt (ds : List Syn) : Syn.placesL ds ≤ 3 * (ds.length + Syn.wtX ds) := by
  refine Syn.inductL (P := fun ds => Syn.placesL ds ≤ 3 * (ds.length + Syn.wtX ds)) (fun ds ih => ?_) ds
  induction ds with
  | nil => simp [Syn.placesL]
  | cons d r ihr =>
    obtain ⟨k, n, s, x, es⟩ := d
    have h1 := ih k n s x es (List.mem_cons_self ..)
    have h2 := ihr fun k n s x es hm => ih k n s x es (List.mem_cons_of_mem _ hm)
    simp only [Syn.placesL, Syn.places, Syn.wtX, Syn.wt, List.length_cons] at *
    omega
mutual
/-- A piece of syntax whose places have been numbered from k on. -/
def Syn.mark (k : Int) : Syn → Syn
  | .mk _ _ _ x es => .mk k (k + 1) (mtx (k + 2)) (cnt (k + 3) x.length) (Syn.markL (k + 3 + (x.length : Int)) es)
def Syn.markL (k : Int) : List Syn → List Syn
  | [] => []
  | d :: r => d.mark k :: Syn.markL (k + (d.places : Int)) r
end
theorem Syn.markL_append (xs ys : List Syn) : ∀ k, Syn.markL k (xs ++ ys) = Syn.markL k xs ++ Syn.markL (k + (Syn.placesL xs : Int)) ys := by
  induction xs with
  | nil => intro k; simp [Syn.markL, Syn.placesL]
  | cons x r ih =>
    intro k
    simp only [List.cons_append, Syn.markL, Syn.placesL, ih]
    congr 3
    push_cast; omega
theorem Syn.markL_length (ds : List Syn) : ∀ k, (Syn.markL k ds).length = ds.length := by
  induction ds with
  | nil => intro k; rfl
  | cons x r ih => intro k; simp [Syn.markL, ih]
theorem Syn.markL_take {ds : List Syn} {j : Nat} {d : Syn} (h : ds[j]? = some d) (k : Int) : Syn.markL k (ds.take (j + 1)) = Syn.markL k (ds.take j) ++ [d.mark (k + (Syn.placesL (ds.take j) : Int))] := by
  rw [take_snoc h, Syn.markL_append]; rfl
theorem Syn.mark_set {ds : List Syn} {j : Nat} {d : Syn} (h : ds[j]? = some d) (k : Int) :
    (Syn.markL k (ds.take j) ++ ds.drop j).set j (d.mark (k + (Syn.placesL (ds.take j) : Int))) = Syn.markL k (ds.take (j + 1)) ++ ds.drop (j + 1) := by
  obtain ⟨hj, rfl⟩ := List.getElem?_eq_some_iff.1 h
  have hl : (Syn.markL k (ds.take j)).length = j := by rw [Syn.markL_length]; simp; omega
  rw [List.set_append, hl, if_neg (by omega), Nat.sub_self, List.drop_eq_getElem_cons hj, List.set_cons_zero, Syn.markL_take h k]
  simp
theorem Syn.mark_at {ds : List Syn} {j : Nat} (k : Int) (hj : j < ds.length) : (Syn.markL k (ds.take j) ++ ds.drop j)[j]? = ds[j]? := by
  have hl : (Syn.markL k (ds.take j)).length = j := by rw [Syn.markL_length]; simp; omega
  rw [List.getElem?_append_right (by omega), hl, Nat.sub_self, List.getElem?_drop]; simp
theorem Syn.markL_get {ds : List Syn} {j : Nat} {d : Syn} (h : ds[j]? = some d) (k : Int) : (Syn.markL k ds)[j]? = some (d.mark (k + (Syn.placesL (ds.take j) : Int))) := by
  obtain ⟨hj, rfl⟩ := List.getElem?_eq_some_iff.1 h
  conv => lhs; rw [← List.take_append_drop j ds, List.drop_eq_getElem_cons hj, Syn.markL_append]
  have hl : (Syn.markL k (ds.take j)).length = j := by rw [Syn.markL_length]; simp; omega
  rw [List.getElem?_append_right (by omega), hl, Nat.sub_self]; rfl

def MarkedSs (k : Int) (a : Option Addr) (cap : Nat) (ms : List M) (ds : List Syn) (lo : Nat) (w : World) (e : Ending) (w' : World) : Prop :=
  e = .returned (.int .i64 (k + (Syn.placesL ds : Int))) ∧ ∃ ms', ms'.length = ms.length ∧ Syn.IsL 43 (Syn.markL k ds) ms' ∧ (M.sl a cap 5 43 ms').Mine w' lo ∧ M.blocksL ms' = M.blocksL ms ∧
    Only (M.sl a cap 5 43 ms).blocks w w'
def MkSs (ds : List Syn) : Prop := ∀ (a : Option Addr) (cap : Nat) (ms : List M) (k : Int) (lo : Nat) (w : World), Syn.IsL 43 ds ms → (M.sl a cap 5 43 ms).Mine w lo → 0 ≤ k → k + (Syn.placesL ds : Int) ≤ 1000000000000 →
    Calls Try.prog 39 #[.slice a ms.length cap, .int .i64 k] w (MarkedSs k a cap ms ds lo w)

set_option maxHeartbeats 1000000 in
theorem markSyntaxS_calls : ∀ ds, MkSs ds := by
  refine Syn.inductL fun ds ih => ?_
  intro a cap ms k lo w hi hm hk0 hkb
  have hln := hi.length
  have hcapm := hm.in_.len
  have IH := Lib.hid ih; clear ih; have HI := Lib.hid hi; clear hi; have HM := Lib.hid hm; clear hm; have HKB := Lib.hid hkb; clear hkb; have HLN := Lib.hid hln; clear hln
  go_enter Try.func39, Try.ntmps39
  go_wp2_with fail
  go_loopw [1, 5] (fun t i wr => ∃ (j : Nat) (ms' : List M), j ≤ ms.length ∧ i = .int .i64 j ∧ t = .int .i64 (k + (Syn.placesL (ds.take j) : Int)) ∧ ms'.length = ms.length ∧ Syn.IsL 43 (Syn.markL k (ds.take j) ++ ds.drop j) ms' ∧ (M.sl a cap 5 43 ms').Mine wr lo ∧ M.blocksL ms' = M.blocksL ms ∧ Only (M.sl a cap 5 43 ms).blocks w wr) (fun _ i _ => ms.length - (intOf i).toNat)
  case atStart => exact ⟨0, ms, Nat.zero_le _, rfl, by simp [Syn.placesL], rfl, by simpa [Syn.markL] using HI.out, HM.out, rfl, Only.refl _ _⟩
  case round =>
    obtain ⟨j, ms', hj, rfl, rfl, hml, hi', hm', hbl, ho⟩ := hrel
    by_cases hlt : j < ms.length
    · have hjd : j < ds.length := by have := HLN.out; omega
      have hjm : j < ms'.length := by omega
      have hdj : ds[j]? = some ds[j] := List.getElem?_eq_getElem hjd
      have hat := Syn.mark_at k hjd
      have hil := hi'.length
      have hg := hi'.get j (by omega) hjm
      have hge : (Syn.markL k (ds.take j) ++ ds.drop j)[j]'(by omega) = ds[j] := by
        have := hat
        rw [List.getElem?_eq_getElem (by omega), hdj] at this
        exact Option.some.inj this
      rw [hge] at hg
      have hmset := Syn.mark_set hdj k
      have hmem : ds[j] ∈ ds := List.getElem_mem hjd
      have hcl := (Syn.placesL_le ds j _ hdj)
      generalize hd1 : ds[j] = d1 at *
      obtain ⟨k1, n1, s1, x1, ds1⟩ := d1
      obtain ⟨xa1, xc1, a1, cap1, ms1, hmj, hi1⟩ := hg
      have hkk := HKB.out
      obtain ⟨hc1', hc2'⟩ := hcl
      simp only [Syn.places] at hc1' hc2'
      obtain ⟨g, rfl, _, hgw⟩ := hm'.addr (by omega)
      obtain ⟨⟨u0, r0⟩, f0⟩ := hm'.row (j * 5) (by omega)
      obtain ⟨⟨u1, r1⟩, f1⟩ := hm'.row (j * 5 + 1) (by omega)
      obtain ⟨⟨u2, r2⟩, f2⟩ := hm'.row (j * 5 + 2) (by omega)
      obtain ⟨bb, oo, hg0, hel⟩ := hm'.in_.elem (by omega)
      obtain ⟨rfl, rfl⟩ : g = bb ∧ oo = 0 := by simp only [Option.some.injEq, Addr.mk.injEq, and_true] at hg0; exact ⟨hg0.1, hg0.2.symm⟩
      have r3 := hel j hjm 3 (.slice xa1 (intM x1).length xc1) (by rw [hmj]; rfl)
      have r4 := hel j hjm 4 (.slice a1 ms1.length cap1) (by rw [hmj]; rfl)
      rw [Nat.zero_add, intM_length] at r3
      rw [Nat.zero_add] at r4
      clear hel hg0 hat
      generalize hKe : k + (Syn.placesL (ds.take j) : Int) = K at *
      have hK0 : 0 ≤ K := by omega
      have hK9 : K + 3 + (x1.length : Int) + (Syn.placesL ds1 : Int) ≤ 1000000000000 := by omega
      -- the three stores
      have hx : ms'[j]? = some (.ag [.c (.int .i64 k1), .c (.int .i64 n1), .c (.string s1), .sl xa1 xc1 1 3 (intM x1), .sl a1 cap1 5 43 ms1]) := by rw [List.getElem?_eq_getElem hjm, hmj]
      have one : ∀ (u v x : Value), ∀ y ∈ [M.c u, .c v, .c x, .sl xa1 xc1 1 3 (intM x1), .sl a1 cap1 5 43 ms1], y.cells.length = 1 := by intro u v x y hy; simp at hy; rcases hy with rfl | rfl | rfl | rfl | rfl <;> rfl
      obtain ⟨h0, hx0⟩ := hm'.setC hx 0 rfl (one _ _ _) (.int .i64 K) rfl
      have hb0 := setC_blocks (j := 0) hx rfl (.int .i64 K)
      simp only [List.set_cons_zero, List.set_cons_succ, Nat.add_zero] at h0 hx0 hb0
      obtain ⟨h1, hx1⟩ := h0.setC hx0 1 rfl (one _ _ _) (.int .i64 (K + 1)) rfl
      have hb1 := setC_blocks (j := 1) hx0 rfl (.int .i64 (K + 1))
      simp only [List.set_cons_zero, List.set_cons_succ, List.set_set] at h1 hx1 hb1
      rw [hb0, hbl] at hb1
      clear h0 hx0 hb0 hx one hge hd1 hil hmj hjm hjd
      have hlen1 : (ms'.set j (.ag [.c (.int .i64 K), .c (.int .i64 (K + 1)), .c (.string s1), .sl xa1 xc1 1 3 (intM x1), .sl a1 cap1 5 43 ms1])).length = ms.length := by simp [hml]
      generalize hms1 : ms'.set j (.ag [.c (.int .i64 K), .c (.int .i64 (K + 1)), .c (.string s1), .sl xa1 xc1 1 3 (intM x1), .sl a1 cap1 5 43 ms1]) = ms'' at *
      have HI' := Lib.hid hi'; clear hi'; have HM' := Lib.hid hm'; clear hm'; have HML := Lib.hid hml; clear hml; have HDJ := Lib.hid hdj; clear hdj; have HI1 := Lib.hid hi1; clear hi1; have HMSET := Lib.hid hmset; clear hmset; have HMEM := Lib.hid hmem; clear hmem; have HBL := Lib.hid hbl; clear hbl; have HO := Lib.hid ho; clear ho; have H1 := Lib.hid h1; clear h1; have HX1 := Lib.hid hx1; clear hx1; have HB1 := Lib.hid hb1; clear hb1; have HLEN1 := Lib.hid hlen1; clear hlen1; have HMS1 := Lib.hid hms1; clear hms1; have HC1' := Lib.hid hc1'; clear hc1'; have HKE := Lib.hid hKe; clear hKe
      clear hkk hc2'
      have hK1 : K ≤ 1000000000000 := by omega
      have hK2 : K + 1 ≤ 1000000000000 := by omega
      have hK3 : K + 1 + 1 ≤ 1000000000000 := by omega
      go_wp2_with fail
      refine (markText_calls _ _ (by omega)).mono ?_
      rintro e w2 ⟨rfl, hb2⟩
      obtain ⟨hc2, hf2⟩ := bcell hb2; have hz2 := hb2.size; (try simp only [World.size_alloc, World.size_setCell, World.size_drew, sizeDrewN] at hz2 hc2 hf2)
      go_wp2_with fail
      have h1b := H1.out.below hb2
      have one : ∀ (u v x : Value), ∀ y ∈ [M.c u, .c v, .c x, .sl xa1 xc1 1 3 (intM x1), .sl a1 cap1 5 43 ms1], y.cells.length = 1 := by intro u v x y hy; simp at hy; rcases hy with rfl | rfl | rfl | rfl | rfl <;> rfl
      obtain ⟨h2, hx2⟩ := h1b.setC HX1.out 2 rfl (one _ _ _) (.string (mtx (K + 1 + 1))) rfl
      have hbl2 := setC_blocks (j := 2) HX1.out rfl (.string (mtx (K + 1 + 1)))
      simp only [List.set_cons_zero, List.set_cons_succ] at h2 hx2 hbl2
      clear one h1b
      have hsub := h2.piece hx2 (j := 3) rfl
      have H2 := Lib.hid h2; clear h2; have HX2 := Lib.hid hx2; clear hx2; have HBL2 := Lib.hid hbl2; clear hbl2; have HSUB := Lib.hid hsub; clear hsub
      have e2 : K + 1 + 1 = K + 2 := by omega
      have e3 : K + 1 + 1 + 1 = K + 3 := by omega
      refine (markIntS_calls xa1 xc1 x1 (K + 1 + 1 + 1) lo _ HSUB.out (by omega) (by omega)).mono ?_
      rintro e w3 ⟨rfl, hm3, ho3⟩
      obtain ⟨h3, hx3, hbl3⟩ := H2.out.setP HX2.out 3 (m := .sl xa1 xc1 1 3 (intM x1)) rfl (.sl xa1 xc1 1 3 (intM (cnt (K + 1 + 1 + 1) x1.length))) (by simp [M.cells, intM_length, cnt_length]) (by simp [M.blocks, intM_blocks]) hm3 ho3 (fun b hb => by simp [M.blocks, hb])
      simp only [List.set_cons_zero, List.set_cons_succ, List.set_set] at h3 hx3 hbl3
      have hsub4 := h3.piece hx3 (j := 4) rfl
      obtain ⟨bb, oo, hg0, hel⟩ := h3.in_.elem (by simp; have := HML.out; have := HLEN1.out; omega)
      obtain ⟨rfl, rfl⟩ : g = bb ∧ oo = 0 := by simp only [Option.some.injEq, Addr.mk.injEq, and_true] at hg0; exact ⟨hg0.1, hg0.2.symm⟩
      obtain ⟨hj3, hej3⟩ := List.getElem?_eq_some_iff.1 hx3
      have t4 := hel j hj3 4 (.slice a1 ms1.length cap1) (by rw [hej3]; rfl)
      rw [Nat.zero_add] at t4
      clear hel hg0 hej3 hj3
      have H3 := Lib.hid h3; clear h3; have HX3 := Lib.hid hx3; clear hx3; have HBL3 := Lib.hid hbl3; clear hbl3; have HSUB4 := Lib.hid hsub4; clear hsub4; have HM3 := Lib.hid hm3; clear hm3; have HO3 := Lib.hid ho3; clear ho3
      have e4 : K + 1 + 1 + 1 + (x1.length : Int) = K + 3 + (x1.length : Int) := by omega
      have E2 := Lib.hid e2; have E3 := Lib.hid e3; have E4 := Lib.hid e4
      clear e2 e3 e4
      go_wp2_with fail
      refine (IH.out k1 n1 s1 x1 ds1 HMEM.out a1 cap1 ms1 (K + 1 + 1 + 1 + (x1.length : Int)) lo _ HI1.out HSUB4.out (by omega) (by omega)).mono ?_
      rintro e w4 ⟨rfl, ms1', hml1, hi1', hm1', hbl1, ho1⟩
      obtain ⟨h4, _, hbl4⟩ := H3.out.setP HX3.out 4 (m := .sl a1 cap1 5 43 ms1) rfl (.sl a1 cap1 5 43 ms1') (by simp [M.cells, hml1]) (by simp [M.blocks, hbl1]) hm1' ho1 (fun b hb => hb)
      simp only [List.set_cons_zero, List.set_cons_succ, List.set_set] at h4 hbl4
      have his := HI'.out.set j (d := Syn.mark K (.mk k1 n1 s1 x1 ds1)) (m := .ag [.c (.int .i64 K), .c (.int .i64 (K + 1)), .c (.string (mtx (K + 1 + 1))), .sl xa1 xc1 1 3 (intM (cnt (K + 1 + 1 + 1) x1.length)), .sl a1 cap1 5 43 ms1']) ⟨xa1, xc1, a1, cap1, ms1', by rw [E3.out, E2.out], by rw [E4.out] at hi1'; exact hi1'⟩
      rw [HMSET.out] at his
      have hms := HMS1.out
      have hfin : ms''.set j (.ag [.c (.int .i64 K), .c (.int .i64 (K + 1)), .c (.string (mtx (K + 1 + 1))), .sl xa1 xc1 1 3 (intM (cnt (K + 1 + 1 + 1) x1.length)), .sl a1 cap1 5 43 ms1']) = ms'.set j (.ag [.c (.int .i64 K), .c (.int .i64 (K + 1)), .c (.string (mtx (K + 1 + 1))), .sl xa1 xc1 1 3 (intM (cnt (K + 1 + 1 + 1) x1.length)), .sl a1 cap1 5 43 ms1']) := by rw [← hms, List.set_set]
      rw [hfin] at h4 hbl4
      have hsubs : ∀ x ∈ (M.sl a1 cap1 5 43 ms1).blocks, x ∈ M.blocksL ms := by
        intro x hx
        rw [← HB1.out]
        exact mem_blocksL.2 ⟨_, List.mem_of_getElem? HX1.out, by simp only [M.blocks] at hx; simp only [M.blocks, M.blocksL, intM_blocks]; simp [List.mem_append.1 hx]⟩
      have hsubx : ∀ x ∈ addrBlocks xa1, x ∈ M.blocksL ms := by
        intro x hx
        rw [← HB1.out]
        exact mem_blocksL.2 ⟨_, List.mem_of_getElem? HX1.out, by simp only [M.blocks, M.blocksL, intM_blocks]; simp [hx]⟩
      have hbf : M.blocksL (ms'.set j (.ag [.c (.int .i64 K), .c (.int .i64 (K + 1)), .c (.string (mtx (K + 1 + 1))), .sl xa1 xc1 1 3 (intM (cnt (K + 1 + 1 + 1) x1.length)), .sl a1 cap1 5 43 ms1'])) = M.blocksL ms := by
        rw [hbl4, HBL3.out, HBL2.out, HB1.out]
      have hcount : k + (Syn.placesL (ds.take (j + 1)) : Int) = K + 1 + 1 + 1 + (x1.length : Int) + (Syn.placesL ds1 : Int) := by
        have h1 := HC1'.out; have h2 := HKE.out; rw [h1]; push_cast; omega
      have hgm : ∀ u, (⟨g, u, none⟩ : Addr).block ∈ (M.sl (some ⟨g, 0, none⟩) cap 5 43 ms).blocks := fun u => by simp [M.blocks, addrBlocks]
      have hof := (((((HO.out.setCell (hgm _) (.int .i64 K)).setCell (hgm _) (.int .i64 (K + 1))).trans (Only.of_below hb2)).setCell (hgm _) (.string (mtx (K + 1 + 1)))).trans (HO3.out.mono fun x hx => by simp [M.blocks, hsubx x hx])).trans (ho1.mono fun x hx => by simp [M.blocks, hsubs x hx])
      have HI1' := Lib.hid hi1'; clear hi1'; have HM1' := Lib.hid hm1'; clear hm1'; have HBL1 := Lib.hid hbl1; clear hbl1; have HO1 := Lib.hid ho1; clear ho1; have H4 := Lib.hid h4; clear h4; have HBL4 := Lib.hid hbl4; clear hbl4; have HIS := Lib.hid his; clear his; have HBF := Lib.hid hbf; clear hbf; have HOF := Lib.hid hof; clear hof; have HCOUNT := Lib.hid hcount; clear hcount; have HML1 := Lib.hid hml1; clear hml1; have HFIN := Lib.hid hfin; clear hfin; have HMS := Lib.hid hms; clear hms; have HSUBS := Lib.hid hsubs; clear hsubs; have HSUBX := Lib.hid hsubx; clear hsubx; have HGM := Lib.hid hgm; clear hgm
      clear hb2 hc2 hf2 hz2
      go_wp2_with fail
      go_roundw
      case rel => exact ⟨j + 1, _, by omega, by go_num, by rw [HCOUNT.out], by rw [List.length_set]; exact HML.out, HIS.out, H4.out, HBF.out, HOF.out⟩
      case measure => simp [intOf]; omega
    · go_wp2_with fail
      go_ret
      obtain rfl : j = ms.length := by omega
      have hl := HLN.out
      exact ⟨ret_i (by rw [hl, List.take_length]), ms', hml, by rw [hl, List.take_length] at hi'; simpa using hi', hm', hbl, ho⟩
end Go.Proofs.Ytoflfamfhpijcaa
