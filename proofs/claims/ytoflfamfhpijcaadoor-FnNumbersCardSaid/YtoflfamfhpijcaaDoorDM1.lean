/-
  Walks: marking data. No condition.
-/
import Derived.Test.YtoflfamfhpijcaaDoorD4
import Derived.Test.YtoflfamfhpijcaaDoorW5
import Derived.Test.YtoflfamfhpijcaaDoorSet
set_option linter.unusedVariables false
set_option linter.unusedSimpArgs false
set_option maxRecDepth 100000
namespace Go.Proofs.YtoflfamfhpijcaaDoor
open Go.RowKit

mutual
/-- A datum whose places have been numbered from k on. -/
def Dat.mark (k : Int) : Dat → Dat
  | .mk _ _ _ es => .mk k (k + 1) (mtx (k + 2)) (Dat.markL (k + 3) es)
def Dat.markL (k : Int) : List Dat → List Dat
  | [] => []
  | d :: r => d.mark k :: Dat.markL (k + 3 * (d.count : Int)) r
end
theorem Dat.markL_append (xs ys : List Dat) : ∀ k, Dat.markL k (xs ++ ys) = Dat.markL k xs ++ Dat.markL (k + 3 * (Dat.countL xs : Int)) ys := by
  induction xs with
  | nil => intro k; simp [Dat.markL, Dat.countL]
  | cons x r ih =>
    intro k
    simp only [List.cons_append, Dat.markL, Dat.countL, ih]
    congr 3
    push_cast; omega
theorem Dat.markL_length (ds : List Dat) : ∀ k, (Dat.markL k ds).length = ds.length := by
  induction ds with
  | nil => intro k; rfl
  | cons x r ih => intro k; simp [Dat.markL, ih]
mutual
theorem Dat.count_mark : ∀ (d : Dat) (k : Int), (d.mark k).count = d.count
  | .mk _ _ _ es, k => by simp only [Dat.mark, Dat.count, Dat.countL_markL es]
theorem Dat.countL_markL : ∀ (ds : List Dat) (k : Int), Dat.countL (Dat.markL k ds) = Dat.countL ds
  | [], k => rfl
  | d :: r, k => by simp only [Dat.markL, Dat.countL, Dat.count_mark d, Dat.countL_markL r]
end
theorem Dat.markL_take {ds : List Dat} {j : Nat} {d : Dat} (h : ds[j]? = some d) (k : Int) : Dat.markL k (ds.take (j + 1)) = Dat.markL k (ds.take j) ++ [d.mark (k + 3 * (Dat.countL (ds.take j) : Int))] := by
  rw [take_snoc h, Dat.markL_append]; rfl
theorem Dat.mark_set {ds : List Dat} {j : Nat} {d : Dat} (h : ds[j]? = some d) (k : Int) :
    (Dat.markL k (ds.take j) ++ ds.drop j).set j (d.mark (k + 3 * (Dat.countL (ds.take j) : Int))) = Dat.markL k (ds.take (j + 1)) ++ ds.drop (j + 1) := by
  obtain ⟨hj, rfl⟩ := List.getElem?_eq_some_iff.1 h
  have hl : (Dat.markL k (ds.take j)).length = j := by rw [Dat.markL_length]; simp; omega
  rw [List.set_append, hl, if_neg (by omega), Nat.sub_self, List.drop_eq_getElem_cons hj, List.set_cons_zero, Dat.markL_take h k]
  simp
theorem Dat.mark_at {ds : List Dat} {j : Nat} (k : Int) (hj : j < ds.length) : (Dat.markL k (ds.take j) ++ ds.drop j)[j]? = ds[j]? := by
  have hl : (Dat.markL k (ds.take j)).length = j := by rw [Dat.markL_length]; simp; omega
  rw [List.getElem?_append_right (by omega), hl, Nat.sub_self, List.getElem?_drop]; simp

def MarkedDs (k : Int) (a : Option Addr) (cap : Nat) (ms : List M) (ds : List Dat) (lo : Nat) (w : World) (e : Ending) (w' : World) : Prop :=
  e = .returned (.int .i64 (k + 3 * (Dat.countL ds : Int))) ∧ ∃ ms', ms'.length = ms.length ∧ Dat.IsL 31 (Dat.markL k ds) ms' ∧ (M.sl a cap 4 31 ms').Mine w' lo ∧ M.blocksL ms' = M.blocksL ms ∧
    Only (M.sl a cap 4 31 ms).blocks w w'
def MkDs (ds : List Dat) : Prop := ∀ (a : Option Addr) (cap : Nat) (ms : List M) (k : Int) (lo : Nat) (w : World), Dat.IsL 31 ds ms → (M.sl a cap 4 31 ms).Mine w lo → 0 ≤ k → k + 3 * (Dat.countL ds : Int) ≤ 1000000000000 →
    Calls Tryd.prog 20 #[.slice a ms.length cap, .int .i64 k] w (MarkedDs k a cap ms ds lo w)

theorem markDatumS_calls : ∀ ds, MkDs ds := by
  refine Dat.inductL fun ds ih => ?_
  intro a cap ms k lo w hi hm hk0 hkb
  have hln := hi.length
  have hcapm := hm.in_.len
  have IH := Lib.hid ih; clear ih; have HI := Lib.hid hi; clear hi; have HM := Lib.hid hm; clear hm; have HKB := Lib.hid hkb; clear hkb; have HLN := Lib.hid hln; clear hln
  go_enter Tryd.func20, Tryd.ntmps20
  go_wp2_with fail
  go_loopw [1, 5] (fun t i wr => ∃ (j : Nat) (ms' : List M), j ≤ ms.length ∧ i = .int .i64 j ∧ t = .int .i64 (k + 3 * (Dat.countL (ds.take j) : Int)) ∧ ms'.length = ms.length ∧ Dat.IsL 31 (Dat.markL k (ds.take j) ++ ds.drop j) ms' ∧ (M.sl a cap 4 31 ms').Mine wr lo ∧ M.blocksL ms' = M.blocksL ms ∧ Only (M.sl a cap 4 31 ms).blocks w wr) (fun _ i _ => ms.length - (intOf i).toNat)
  case atStart => exact ⟨0, ms, Nat.zero_le _, rfl, by simp [Dat.countL], rfl, by simpa [Dat.markL] using HI.out, HM.out, rfl, Only.refl _ _⟩
  case round =>
    obtain ⟨j, ms', hj, rfl, rfl, hml, hi', hm', hbl, ho⟩ := hrel
    by_cases hlt : j < ms.length
    · have hjd : j < ds.length := by have := HLN.out; omega
      have hjm : j < ms'.length := by omega
      have hdj : ds[j]? = some ds[j] := List.getElem?_eq_getElem hjd
      have hat := Dat.mark_at k hjd
      have hil := hi'.length
      have hg := hi'.get j (by omega) hjm
      have hge : (Dat.markL k (ds.take j) ++ ds.drop j)[j]'(by omega) = ds[j] := by
        have := hat
        rw [List.getElem?_eq_getElem (by omega), hdj] at this
        exact Option.some.inj this
      rw [hge] at hg
      have hmset := Dat.mark_set hdj k
      have hmem : ds[j] ∈ ds := List.getElem_mem hjd
      have hcl := (Dat.countL_le ds j _ hdj)
      generalize hd1 : ds[j] = d1 at *
      obtain ⟨k1, n1, s1, ds1⟩ := d1
      obtain ⟨a1, cap1, ms1, hmj, hi1⟩ := hg
      have hkk := HKB.out
      obtain ⟨hc1', hc2'⟩ := hcl
      simp only [Dat.count] at hc1' hc2'
      obtain ⟨g, rfl, _, hgw⟩ := hm'.addr (by omega)
      obtain ⟨⟨u0, r0⟩, f0⟩ := hm'.row (j * 4) (by omega)
      obtain ⟨⟨u1, r1⟩, f1⟩ := hm'.row (j * 4 + 1) (by omega)
      obtain ⟨⟨u2, r2⟩, f2⟩ := hm'.row (j * 4 + 2) (by omega)
      obtain ⟨bb, oo, hg0, hel⟩ := hm'.in_.elem (by omega)
      obtain ⟨rfl, rfl⟩ : g = bb ∧ oo = 0 := by simp only [Option.some.injEq, Addr.mk.injEq, and_true] at hg0; exact ⟨hg0.1, hg0.2.symm⟩
      have r3 := hel j hjm 3 (.slice a1 ms1.length cap1) (by rw [hmj]; rfl)
      rw [Nat.zero_add] at r3
      clear hel hg0 hat
      generalize hKe : k + 3 * (Dat.countL (ds.take j) : Int) = K at *
      have hK0 : 0 ≤ K := by omega
      have hK9 : K + 3 + 3 * (Dat.countL ds1 : Int) ≤ 1000000000000 := by omega
      -- the three stores
      have hx : ms'[j]? = some (.ag [.c (.int .i64 k1), .c (.int .i64 n1), .c (.string s1), .sl a1 cap1 4 31 ms1]) := by rw [List.getElem?_eq_getElem hjm, hmj]
      have one : ∀ (u v x : Value), ∀ y ∈ [M.c u, .c v, .c x, .sl a1 cap1 4 31 ms1], y.cells.length = 1 := by intro u v x y hy; simp at hy; rcases hy with rfl | rfl | rfl | rfl <;> rfl
      obtain ⟨h0, hx0⟩ := hm'.setC hx 0 rfl (one _ _ _) (.int .i64 K) rfl
      have hb0 := setC_blocks (j := 0) hx rfl (.int .i64 K)
      simp only [List.set_cons_zero, List.set_cons_succ, Nat.add_zero] at h0 hx0 hb0
      obtain ⟨h1, hx1⟩ := h0.setC hx0 1 rfl (one _ _ _) (.int .i64 (K + 1)) rfl
      have hb1 := setC_blocks (j := 1) hx0 rfl (.int .i64 (K + 1))
      simp only [List.set_cons_zero, List.set_cons_succ, List.set_set] at h1 hx1 hb1
      rw [hb0, hbl] at hb1
      clear h0 hx0 hb0 hx one hge hd1 hil hmj hjm hjd
      have hlen1 : (ms'.set j (.ag [.c (.int .i64 K), .c (.int .i64 (K + 1)), .c (.string s1), .sl a1 cap1 4 31 ms1])).length = ms.length := by simp [hml]
      generalize hms1 : ms'.set j (.ag [.c (.int .i64 K), .c (.int .i64 (K + 1)), .c (.string s1), .sl a1 cap1 4 31 ms1]) = ms'' at *
      have HI' := Lib.hid hi'; clear hi'; have HM' := Lib.hid hm'; clear hm'; have HML := Lib.hid hml; clear hml; have HDJ := Lib.hid hdj; clear hdj; have HI1 := Lib.hid hi1; clear hi1; have HMSET := Lib.hid hmset; clear hmset; have HMEM := Lib.hid hmem; clear hmem; have HBL := Lib.hid hbl; clear hbl; have HO := Lib.hid ho; clear ho; have H1 := Lib.hid h1; clear h1; have HX1 := Lib.hid hx1; clear hx1; have HB1 := Lib.hid hb1; clear hb1; have HLEN1 := Lib.hid hlen1; clear hlen1; have HMS1 := Lib.hid hms1; clear hms1; have HC1' := Lib.hid hc1'; clear hc1'; have HKE := Lib.hid hKe; clear hKe
      clear hkk
      have hK1 : K ≤ 1000000000000 := by omega
      have hK2 : K + 1 ≤ 1000000000000 := by omega
      have hK3 : K + 1 + 1 ≤ 1000000000000 := by omega
      go_wp2_with fail
      refine (markText_calls _ _ (by omega)).mono ?_
      rintro e w2 ⟨rfl, hb2⟩
      obtain ⟨hc2, hf2⟩ := bcell hb2; have hz2 := hb2.size; (try simp only [World.size_alloc, World.size_setCell, World.size_drew, sizeDrewN] at hz2 hc2 hf2)
      go_wp2_with fail
      have h1b := H1.out.below hb2
      have one : ∀ (u v x : Value), ∀ y ∈ [M.c u, .c v, .c x, .sl a1 cap1 4 31 ms1], y.cells.length = 1 := by intro u v x y hy; simp at hy; rcases hy with rfl | rfl | rfl | rfl <;> rfl
      obtain ⟨h2, hx2⟩ := h1b.setC HX1.out 2 rfl (one _ _ _) (.string (mtx (K + 1 + 1))) rfl
      have hbl2 := setC_blocks (j := 2) HX1.out rfl (.string (mtx (K + 1 + 1)))
      simp only [List.set_cons_zero, List.set_cons_succ] at h2 hx2 hbl2
      clear one h1b
      have hsub := h2.piece hx2 (j := 3) rfl
      have H2 := Lib.hid h2; clear h2; have HX2 := Lib.hid hx2; clear hx2; have HBL2 := Lib.hid hbl2; clear hbl2; have HSUB := Lib.hid hsub; clear hsub
      have e2 : K + 1 + 1 = K + 2 := by omega
      have e3 : K + 1 + 1 + 1 = K + 3 := by omega
      refine (IH.out k1 n1 s1 ds1 HMEM.out a1 cap1 ms1 (K + 1 + 1 + 1) lo _ HI1.out HSUB.out (by omega) (by omega)).mono ?_
      rintro e w3 ⟨rfl, ms1', hml1, hi1', hm1', hbl1, ho1⟩
      obtain ⟨h3, _, hbl3⟩ := H2.out.setP HX2.out 3 (m := .sl a1 cap1 4 31 ms1) rfl (.sl a1 cap1 4 31 ms1') (by simp [M.cells, hml1]) (by simp [M.blocks, hbl1]) hm1' ho1 (fun b hb => hb)
      simp only [List.set_cons_zero, List.set_cons_succ, List.set_set] at h3 hbl3
      have his := HI'.out.set j (d := Dat.mark K (.mk k1 n1 s1 ds1)) (m := .ag [.c (.int .i64 K), .c (.int .i64 (K + 1)), .c (.string (mtx (K + 1 + 1))), .sl a1 cap1 4 31 ms1']) ⟨a1, cap1, ms1', by rw [e2], by rw [e3] at hi1'; exact hi1'⟩
      rw [HMSET.out] at his
      have hms := HMS1.out
      have hfin : ms''.set j (.ag [.c (.int .i64 K), .c (.int .i64 (K + 1)), .c (.string (mtx (K + 1 + 1))), .sl a1 cap1 4 31 ms1']) = ms'.set j (.ag [.c (.int .i64 K), .c (.int .i64 (K + 1)), .c (.string (mtx (K + 1 + 1))), .sl a1 cap1 4 31 ms1']) := by rw [← hms, List.set_set]
      rw [hfin] at h3 hbl3
      have hsubs : ∀ x ∈ (M.sl a1 cap1 4 31 ms1).blocks, x ∈ M.blocksL ms := by
        intro x hx
        rw [← HB1.out]
        exact mem_blocksL.2 ⟨_, List.mem_of_getElem? HX1.out, by simpa [M.blocks, M.blocksL] using hx⟩
      have hbf : M.blocksL (ms'.set j (.ag [.c (.int .i64 K), .c (.int .i64 (K + 1)), .c (.string (mtx (K + 1 + 1))), .sl a1 cap1 4 31 ms1'])) = M.blocksL ms := by
        rw [hbl3, HBL2.out, HB1.out]
      have hcount : k + 3 * (Dat.countL (ds.take (j + 1)) : Int) = K + 1 + 1 + 1 + 3 * (Dat.countL ds1 : Int) := by
        have h1 := HC1'.out; have h2 := HKE.out; rw [h1]; push_cast; omega
      have hgm : ∀ u, (⟨g, u, none⟩ : Addr).block ∈ (M.sl (some ⟨g, 0, none⟩) cap 4 31 ms).blocks := fun u => by simp [M.blocks, addrBlocks]
      have hof := ((((HO.out.setCell (hgm _) (.int .i64 K)).setCell (hgm _) (.int .i64 (K + 1))).trans (Only.of_below hb2)).setCell (hgm _) (.string (mtx (K + 1 + 1)))).trans (ho1.mono fun x hx => by simp [M.blocks, hsubs x hx])
      have HI1' := Lib.hid hi1'; clear hi1'; have HM1' := Lib.hid hm1'; clear hm1'; have HBL1 := Lib.hid hbl1; clear hbl1; have HO1 := Lib.hid ho1; clear ho1; have H3 := Lib.hid h3; clear h3; have HBL3 := Lib.hid hbl3; clear hbl3; have HIS := Lib.hid his; clear his; have HBF := Lib.hid hbf; clear hbf; have HOF := Lib.hid hof; clear hof; have HCOUNT := Lib.hid hcount; clear hcount; have HML1 := Lib.hid hml1; clear hml1; have HFIN := Lib.hid hfin; clear hfin; have HMS := Lib.hid hms; clear hms; have HSUBS := Lib.hid hsubs; clear hsubs; have HGM := Lib.hid hgm; clear hgm
      go_wp2_with fail
      go_roundw
      case rel => exact ⟨j + 1, _, by omega, by go_num, by rw [HCOUNT.out]; exact congrArg _ (by omega), by rw [List.length_set]; exact HML.out, HIS.out, H3.out, HBF.out, HOF.out⟩
      case measure => simp [intOf]; omega
    · go_wp2_with fail
      go_ret
      obtain rfl : j = ms.length := by omega
      have hl := HLN.out
      exact ⟨ret_i (by rw [hl, List.take_length]), ms', hml, by rw [hl, List.take_length] at hi'; simpa using hi', hm', hbl, ho⟩
end Go.Proofs.YtoflfamfhpijcaaDoor
