/-
  Texts set together by wip/tools/merge.py: PN3, Q2, I1, I2, I3, I4, Q3, Q5, N7, D2, D3, D4, Set, DM1, Mk, DM2, B1, Q6, PD5, Step, Step3, Push, PD6, PD7, C1, C2. No condition beyond those told with each.
-/
import Derived.Test.YtghbnehocggnnaaDoorGb
import Derived.Lib.AtoiBound
import Derived.Deep.RegionLaw
/-
  Walks: the number that a text is, the program's side. Conditions: the library's table of powers of ten reads as laid, strconv.ErrSyntax holds an error.
-/
set_option linter.unusedVariables false
set_option linter.unusedSimpArgs false
set_option maxRecDepth 100000
namespace Go.Proofs.YtghbnehocggnnaaDoor
open Go.RowKit

/-- the variable strconv.ErrSyntax holds an error, in every world that keeps what lies below B -/
def Sent (B : Nat) (w : World) : Prop := ∀ w', Below B w w' → ∃ tp p, w'.var? Tryd.prog "strconv.ErrSyntax" = some #[.iface tp p]
theorem Sent.on {B : Nat} {w w' : World} (h : Sent B w) (hb : Below B w w') : Sent B w' := fun w2 h2 => h w2 (hb.trans h2)
theorem Sent.mono {B C : Nat} {w : World} (h : Sent B w) (hc : B ≤ C) : Sent C w := fun w2 h2 => h w2 (h2.mono hc)
theorem gErr_ : Tryd.prog.globalNamed "strconv.ErrSyntax" = some 1 := by kernel_rfl
theorem Sent.of {w : World} {tp : TypeId} {p : Value} (h : w.var? Tryd.prog "strconv.ErrSyntax" = some #[.iface tp p]) : Sent w.heap.size w := by
  intro w' hb
  refine ⟨tp, p, ?_⟩
  unfold World.var? at h ⊢
  rw [gErr_] at h ⊢
  simp only [Option.bind_eq_bind, Option.bind_some] at h ⊢
  cases hg : w.heap[1]? with
  | none => rw [hg] at h; simp at h
  | some o => rw [hb.block _ (Array.getElem?_eq_some_iff.1 hg).1]; exact h
set_option maxHeartbeats 2000000 in
theorem iParseNumber_calls (s : ByteArray) (w : World) (hs : s.size ≤ 9223372036854775807) (B : Nat) (hT : Tab B w) (hE : Sent B w) (hBw : B ≤ w.heap.size) :
    Calls Tryd.prog 74 #[.string s] w (Ret (numV (numOf s.data.toList)) w) := by
  have hsl : s.data.toList.length = s.size := rfl
  by_cases h0 : s.size = 0
  · have hno := num_none_size (s := s.data.toList) (.inl h0)
    have hz : ((s.size : Int) == 0) = true := by simp [h0]
    have HNO := Lib.hid hno; clear hno; have HT := Lib.hid hT; clear hT; have HE := Lib.hid hE; clear hE; have HSL := Lib.hid hsl; clear hsl
    go_enter Tryd.func74, Tryd.ntmps74
    go_wp2_with fail
    go_ret2
    exact ⟨by rw [HNO.out]; rfl, by (repeat (first | with_reducible assumption | with_reducible exact Below.refl _ _ | with_reducible refine Below.drew ?_ | with_reducible refine belowDrewN ?_ _ | ((with_reducible refine Below.setCell ?_ ?_ _); rotate_left; focus (first | omega | (simp; done) | (simp; omega))) | ((with_reducible refine Below.alloc ?_ ?_ _); rotate_left; focus (first | omega | (simp; done) | (simp; omega)))))⟩
  have hz : ((s.size : Int) == 0) = false := beq_eq_false_iff_ne.2 (by omega)
  by_cases h10 : 10 < s.size
  · have hno := num_none_size (s := s.data.toList) (.inr h10)
    have h10i : 10 < (s.size : Int) := by omega
    have HNO := Lib.hid hno; clear hno; have HT := Lib.hid hT; clear hT; have HE := Lib.hid hE; clear hE; have HSL := Lib.hid hsl; clear hsl
    go_enter Tryd.func74, Tryd.ntmps74
    go_wp2_with fail
    go_ret2
    exact ⟨by rw [HNO.out]; rfl, by (repeat (first | with_reducible assumption | with_reducible exact Below.refl _ _ | with_reducible refine Below.drew ?_ | with_reducible refine belowDrewN ?_ _ | ((with_reducible refine Below.setCell ?_ ?_ _); rotate_left; focus (first | omega | (simp; done) | (simp; omega))) | ((with_reducible refine Below.alloc ?_ ?_ _); rotate_left; focus (first | omega | (simp; done) | (simp; omega)))))⟩
  have h10i : ¬ 10 < (s.size : Int) := by omega
  cases ha : Lib.atoi s.data.toList with
  | none =>
    have hno := numOf_none_atoi ha
    obtain ⟨tp, p, hv⟩ := hE w (Below.refl _ _)
    have HNO := Lib.hid hno; clear hno; have HT := Lib.hid hT; clear hT; have HE := Lib.hid hE; clear hE; have HSL := Lib.hid hsl; clear hsl; have HA := Lib.hid ha; clear ha; have HV := Lib.hid hv; clear hv
    go_enter Tryd.func74, Tryd.ntmps74
    go_wp2_with fail
    refine (Tryd.strconv_Atoi_err_var s (by omega) HA.out tp p _ HV.out).mono ?_
    rintro e w1 ⟨N, rfl, h1, h2, hb1⟩
    have H2 := Lib.hid h2; clear h2
    go_wp2_with fail
    go_ret2
    exact ⟨by rw [HNO.out]; rfl, hb1⟩
  | some n =>
    have hbd := Lib.atoi_bound ha (by omega)
    have hI : I64 n := by unfold I64; omega
    by_cases hlo : n < -999999999
    · have hno := numOf_none_bad ha (by omega)
      have HNO := Lib.hid hno; clear hno; have HT := Lib.hid hT; clear hT; have HE := Lib.hid hE; clear hE; have HSL := Lib.hid hsl; clear hsl; have HA := Lib.hid ha; clear ha
      go_enter Tryd.func74, Tryd.ntmps74
      go_wp2_with fail
      refine (Tryd.strconv_Atoi s n (by omega) HA.out _).mono ?_
      rintro e w1 ⟨rfl, t, hw1⟩
      have hb1 : Below w.heap.size w w1 := by rw [hw1]; exact Lib.bytesWorld_below _ _ _
      have HW1 := Lib.hid hw1; clear hw1
      go_wp2_with fail
      go_ret2
      exact ⟨by rw [HNO.out]; rfl, hb1⟩
    by_cases hhi : 999999999 < n
    · have hno := numOf_none_bad ha (by omega)
      have HNO := Lib.hid hno; clear hno; have HT := Lib.hid hT; clear hT; have HE := Lib.hid hE; clear hE; have HSL := Lib.hid hsl; clear hsl; have HA := Lib.hid ha; clear ha
      go_enter Tryd.func74, Tryd.ntmps74
      go_wp2_with fail
      refine (Tryd.strconv_Atoi s n (by omega) HA.out _).mono ?_
      rintro e w1 ⟨rfl, t, hw1⟩
      have hb1 : Below w.heap.size w w1 := by rw [hw1]; exact Lib.bytesWorld_below _ _ _
      have HW1 := Lib.hid hw1; clear hw1
      go_wp2_with fail
      go_ret2
      exact ⟨by rw [HNO.out]; rfl, hb1⟩
    by_cases he : Lib.itoa n = s.data.toList
    · have hno := numOf_yes he (by omega) (by omega)
      have hba := baOf he.symm
      have HNO := Lib.hid hno; clear hno; have HT := Lib.hid hT; clear hT; have HE := Lib.hid hE; clear hE; have HSL := Lib.hid hsl; clear hsl; have HA := Lib.hid ha; clear ha; have HE := Lib.hid he; clear he; have HBA := Lib.hid hba; clear hba
      go_enter Tryd.func74, Tryd.ntmps74
      go_wp2_with fail
      refine (Tryd.strconv_Atoi s n (by omega) HA.out _).mono ?_
      rintro e w1 ⟨rfl, t, hw1⟩
      have hb1 : Below w.heap.size w w1 := by rw [hw1]; exact Lib.bytesWorld_below _ _ _
      have hz1 := hb1.size
      have HW1 := Lib.hid hw1; clear hw1
      go_wp2_with fail
      refine (iFormatNumber_calls n _ hI B (HT.out.on (hb1.mono hBw)) (by omega)).mono ?_
      rintro e w2 ⟨rfl, hb2⟩
      rw [← HBA.out]
      go_wp2_with fail
      go_ret2
      exact ⟨by rw [HNO.out]; rfl, by (repeat (first | with_reducible assumption | with_reducible exact Below.refl _ _ | with_reducible refine Below.drew ?_ | with_reducible refine belowDrewN ?_ _ | ((with_reducible refine Below.setCell ?_ ?_ _); rotate_left; focus (first | omega | (simp; done) | (simp; omega))) | ((with_reducible refine Below.alloc ?_ ?_ _); rotate_left; focus (first | omega | (simp; done) | (simp; omega))) | ((with_reducible refine Below.trans ?_ (Below.mono hb1 ?_)); rotate_left; focus (first | omega | (simp; done) | (simp; omega))) | ((with_reducible refine Below.trans ?_ (Below.mono hb2 ?_)); rotate_left; focus (first | omega | (simp; done) | (simp; omega)))))⟩
    · have hno := numOf_none_bad ha (by intro h; exact he h.2.2)
      obtain ⟨X, hBB⟩ : ∃ X : ByteArray, X = ⟨(Lib.itoa n).toArray⟩ := ⟨_, rfl⟩
      have hbn : ¬ X = s := fun h => he (by rw [← h, hBB])
      have hbb := ba_ne hbn
      have HNO := Lib.hid hno; clear hno; have HT := Lib.hid hT; clear hT; have HE := Lib.hid hE; clear hE; have HSL := Lib.hid hsl; clear hsl; have HA := Lib.hid ha; clear ha; have HE := Lib.hid he; clear he; have HBN := Lib.hid hbn; clear hbn; have HBB_ := Lib.hid hBB; clear hBB
      go_enter Tryd.func74, Tryd.ntmps74
      go_wp2_with fail
      refine (Tryd.strconv_Atoi s n (by omega) HA.out _).mono ?_
      rintro e w1 ⟨rfl, t, hw1⟩
      have hb1 : Below w.heap.size w w1 := by rw [hw1]; exact Lib.bytesWorld_below _ _ _
      have hz1 := hb1.size
      have HW1 := Lib.hid hw1; clear hw1
      go_wp2_with fail
      refine (iFormatNumber_calls n _ hI B (HT.out.on (hb1.mono hBw)) (by omega)).mono ?_
      rintro e w2 ⟨rfl, hb2⟩
      rw [← HBB_.out]
      go_wp2_with fail
      go_ret2
      exact ⟨by rw [HNO.out]; rfl, by (repeat (first | with_reducible assumption | with_reducible exact Below.refl _ _ | with_reducible refine Below.drew ?_ | with_reducible refine belowDrewN ?_ _ | ((with_reducible refine Below.setCell ?_ ?_ _); rotate_left; focus (first | omega | (simp; done) | (simp; omega))) | ((with_reducible refine Below.alloc ?_ ?_ _); rotate_left; focus (first | omega | (simp; done) | (simp; omega))) | ((with_reducible refine Below.trans ?_ (Below.mono hb1 ?_)); rotate_left; focus (first | omega | (simp; done) | (simp; omega))) | ((with_reducible refine Below.trans ?_ (Below.mono hb2 ?_)); rotate_left; focus (first | omega | (simp; done) | (simp; omega)))))⟩
end Go.Proofs.YtghbnehocggnnaaDoor

/-
  Walks: numbers drawn. No condition.
-/
set_option linter.unusedVariables false
set_option linter.unusedSimpArgs false
set_option maxRecDepth 100000
namespace Go.Proofs.YtghbnehocggnnaaDoor
open Go.RowKit

theorem l01Below_calls (n : Int) (pb : Nat) (a : Option Addr) (cap : Nat) (l : List Int) (w : World) (hc : Cur pb a cap l w) (h1 : 1 ≤ n) (h9 : n ≤ 9223372036854775807) :
    Calls Tryd.prog 37 #[.pointer (some ⟨pb, 0, none⟩), .int .i64 n] w (Drawn 0 (n - 1) pb a cap l w) := by
  have hne : ¬ n = 0 := by omega
  by_cases h256 : n ≤ 256
  · go_enter Tryd.func37, Tryd.ntmps37
    go_wp2_with fail
    refine (l01Byte_calls pb a cap l _ hc).mono ?_
    rintro e w1 ⟨x, rfl, hx0, hx1, hc1, ho1⟩
    have hm1 := Int.tmod_nonneg n hx0
    have hm2 := Int.tmod_lt_of_pos x (show 0 < n by omega)
    have HC1 := Lib.hid hc1; clear hc1; have HO1 := Lib.hid ho1; clear ho1
    go_wp2_with fail
    go_ret
    exact ⟨_, rfl, by first | exact hm1 | (rw [← Int.tmod_eq_emod_of_nonneg hx0]; exact hm1), by first | (have := hm2; omega) | (rw [← Int.tmod_eq_emod_of_nonneg hx0]; omega), HC1.out, HO1.out⟩
  · go_enter Tryd.func37, Tryd.ntmps37
    go_wp2_with fail
    refine (l01Byte_calls pb a cap l _ hc).mono ?_
    rintro e w1 ⟨x, rfl, hx0, hx1, hc1, ho1⟩
    have HO1 := Lib.hid ho1; clear ho1
    go_wp2_with fail
    refine (l01Byte_calls pb a cap l _ hc1).mono ?_
    rintro e w2 ⟨y, rfl, hy0, hy1, hc2, ho2⟩
    have HO2 := Lib.hid ho2; clear ho2; have HC1 := Lib.hid hc1; clear hc1
    go_wp2_with fail
    refine (l01Byte_calls pb a cap l _ hc2).mono ?_
    rintro e w3 ⟨z, rfl, hz0, hz1, hc3, ho3⟩
    have HO3 := Lib.hid ho3; clear ho3; have HC2 := Lib.hid hc2; clear hc2
    go_wp2_with fail
    refine (l01Byte_calls pb a cap l _ hc3).mono ?_
    rintro e w4 ⟨v, rfl, hv0, hv1, hc4, ho4⟩
    have hs0 : 0 ≤ x * 16777216 + y * 65536 + z * 256 + v := by omega
    have hm1 := Int.tmod_nonneg n hs0
    have hm2 := Int.tmod_lt_of_pos (x * 16777216 + y * 65536 + z * 256 + v) (show 0 < n by omega)
    have HO4 := Lib.hid ho4; clear ho4; have HC3 := Lib.hid hc3; clear hc3; have HC4 := Lib.hid hc4; clear hc4
    go_wp2_with fail
    go_ret
    exact ⟨_, rfl, by first | exact hm1 | (rw [← Int.tmod_eq_emod_of_nonneg hs0]; exact hm1), by first | (have := hm2; omega) | (rw [← Int.tmod_eq_emod_of_nonneg hs0]; omega), HC4.out, ((HO1.out.trans HO2.out).trans HO3.out).trans HO4.out⟩
def DrawnB (pb : Nat) (a : Option Addr) (cap : Nat) (l : List Int) (w : World) (e : Ending) (w' : World) : Prop :=
  ∃ b : Bool, e = .returned (.bool b) ∧ Cur pb a cap l w' ∧ OnlyIn pb (pb + 1) w w'
theorem l01Once_calls (n : Int) (pb : Nat) (a : Option Addr) (cap : Nat) (l : List Int) (w : World) (hc : Cur pb a cap l w) (h1 : 1 ≤ n) (h9 : n ≤ 9223372036854775807) :
    Calls Tryd.prog 33 #[.pointer (some ⟨pb, 0, none⟩), .int .i64 n] w (DrawnB pb a cap l w) := by
  have HC := Lib.hid hc; clear hc
  go_enter Tryd.func33, Tryd.ntmps33
  go_wp2_with fail
  refine (l01Below_calls n pb a cap l _ HC.out h1 h9).mono ?_
  rintro e w1 ⟨x, rfl, hx0, hx1, hc1, ho1⟩
  have HC1 := Lib.hid hc1; clear hc1; have HO1 := Lib.hid ho1; clear ho1
  go_wp2_with fail
  go_ret
  exact ⟨_, rfl, HC1.out, HO1.out⟩
theorem Ints.onlyIn {lo hi : Nat} {w w' : World} {a : Option Addr} {cap : Nat} {e : TypeId} {l : List Int} (h : (M.sl a cap 1 e (intM l)).In w) (k : OnlyIn lo hi w w') (hl : ∀ b ∈ addrBlocks a, b < lo ∨ hi ≤ b) : (M.sl a cap 1 e (intM l)).In w' := by
  obtain ⟨⟨hh, hu⟩, hx⟩ := h
  refine ⟨⟨⟨hh.len, hh.pos, hh.le, hh.max, hh.nil, fun ad had j u hj => ?_⟩, hu⟩, M.InL_of fun x hx => by simp [intM] at hx; obtain ⟨n, _, rfl⟩ := hx; trivial⟩
  have hc := hh.cell ad had j u hj
  have hb : (ad.add j).block = ad.block := by unfold Addr.add; split <;> rfl
  refine (World.cell?_of_block (k.block _ (World.block_lt_of_cell? w _ hc) ?_)).trans hc
  rw [hb]
  exact hl _ (by rw [had]; simp [addrBlocks])
/-- one of a list's numbers -/
def DrawnI (L : List Int) (pb : Nat) (a : Option Addr) (cap : Nat) (l : List Int) (w : World) (e : Ending) (w' : World) : Prop :=
  ∃ x : Int, e = .returned (.int .i64 x) ∧ x ∈ L ∧ Cur pb a cap l w' ∧ OnlyIn pb (pb + 1) w w'
theorem l01Int_calls (la : Option Addr) (lc : Nat) (L : List Int) (pb : Nat) (a : Option Addr) (cap : Nat) (l : List Int) (w : World) (hL : 0 < L.length) (hin : (M.sl la lc 1 3 (intM L)).In w) (hla : ∀ b ∈ addrBlocks la, b < pb ∨ pb + 1 ≤ b) (hc : Cur pb a cap l w) :
    Calls Tryd.prog 61 #[.pointer (some ⟨pb, 0, none⟩), .slice la L.length lc] w (DrawnI L pb a cap l w) := by
  have hl := Ints.len hin
  have HC := Lib.hid hc; clear hc; have HIN := Lib.hid hin; clear hin
  go_enter Tryd.func61, Tryd.ntmps61
  go_wp2_with fail
  refine (l01Below_calls L.length pb a cap l _ HC.out (by omega) (by omega)).mono ?_
  rintro e w1 ⟨x, rfl, hx0, hx1, hc1, ho1⟩
  obtain ⟨k, rfl⟩ := Int.eq_ofNat_of_zero_le hx0
  have hin1 := Ints.onlyIn HIN.out ho1 hla
  obtain ⟨b, off, z, rfl, hz, hcz⟩ := Ints.elem hin1 k (by omega)
  have hkl : k < L.length := by omega
  have hzm := List.mem_of_getElem? hz
  have HC1 := Lib.hid hc1; clear hc1; have HO1 := Lib.hid ho1; clear ho1; have HIN1 := Lib.hid hin1; clear hin1; have HZ := Lib.hid hz; clear hz; have HZM := Lib.hid hzm; clear hzm; have HLA := Lib.hid hla; clear hla
  go_wp2_with fail
  go_ret
  exact ⟨_, rfl, HZM.out, HC1.out, HO1.out⟩
end Go.Proofs.YtghbnehocggnnaaDoor

/-
  Lists of numbers that a call builds: append laws, copies. No condition.
-/
set_option linter.unusedVariables false
set_option linter.unusedSimpArgs false
set_option maxRecDepth 100000
namespace Go.Proofs.YtghbnehocggnnaaDoor
open Go.RowKit

/-- append(own, s...): a row of one's own, grown by all of a slice of simple cells. -/
theorem wpList_all {P : Program} {W : World} {ops : Array Oper} {rest : List Oper} {o : Oper} {act : Act} {Q : Exit → Act → World → Prop} (hgd : o.guard = none) (s x : Operand) (t : TypeId)
    (ho : o.op = .call { callee := .builtin .append, args := #[s, x], argTypes := #[t, t] })
    (e e' : TypeId) (z : Value) (bytes : Nat) (ht : P.underlying t = some (.slice e)) (hinfo : (P.info? e).map (fun i => (i.zero, i.size, i.bytes)) = some (some z, 1, bytes))
    (hzs : z.cells.size = 1) (lo : Nat) (a : Option Addr) (cap : Nat) (xs ys : List M) (hs : act.eval s = .slice a xs.length cap) (hrow : (M.sl a cap 1 e xs).Mine W lo) (hlo : lo ≤ W.heap.size)
    (ao : Option Addr) (c : Nat) (hx : act.eval x = .slice ao ys.length c) (h : (M.sl ao c 1 e' ys).In W) (h1 : ∀ y ∈ ys, ∃ v : Value, y = .c v ∧ v.oneCell' = true)
    (h63 : xs.length + ys.length ≤ maxLen) (hbytes : (xs.length + ys.length) * bytes ≤ 140737488355328)
    (k : ∀ a' cap' w', (M.sl a' cap' 1 e (xs ++ ys)).Mine w' lo → Below lo W w' → W.heap.size ≤ w'.heap.size →
      wpList P ops Q rest (act.put o.dst (.slice a' (xs.length + ys.length) cap')) w') : wpList P ops Q (o :: rest) act W := by
  have hob : M.blocksL ys = [] := by
    clear h hx h63 hbytes k
    induction ys with
    | nil => rfl
    | cons y r ih => obtain ⟨v, rfl, _⟩ := h1 y (List.mem_cons_self ..); simpa [M.blocksL, M.blocks] using ih fun z hz => h1 z (List.mem_cons_of_mem _ hz)
  have hown : M.MineL W lo ys := ⟨OwnL_iff.2 fun y hy => by obtain ⟨v, rfl, hv⟩ := h1 y hy; exact hv, by rw [hob]; exact List.nodup_nil⟩
  refine wpList_row _ hgd s x t ho e z 1 bytes ht hinfo hzs (by decide) lo a xs.length cap (M.cellsL xs) hs hrow.own.1.1 ao ys.length c (M.cellsL ys) hx (by simpa using h.1.1.len) h.1.1.nil h.1.1.cell ?_ h63 hbytes hlo ?_
  · exact M.OwnL.one ys hown.own
  · intro a' cap' w' hr hg ha
    refine k a' cap' w' (M.Mine.push hrow hr hg ha hown h.1.2 (by rw [hob]; simp)) ?_ hg.size
    exact grownBy_below (lo := lo) hg hlo fun b hb => (Mine.addr_lo hrow b hb).1

theorem intM_one (l : List Int) : ∀ y ∈ intM l, ∃ v : Value, y = .c v ∧ v.oneCell' = true := by
  intro y hy; simp only [intM, List.mem_map] at hy; obtain ⟨n, _, rfl⟩ := hy; exact ⟨_, rfl, rfl⟩
theorem Ints.nil (w : World) (lo : Nat) : (M.sl none 0 1 3 (intM [])).Mine w lo := M.Mine.nil _ _ _ _ (by decide)
/-- the empty literal '[]int{}' -/
theorem Ints.lit (w : World) (lo : Nat) (h : lo ≤ w.heap.size) : (M.sl (some ⟨w.heap.size, 0, none⟩) 0 1 3 (intM [])).Mine (w.alloc (.cells #[] 3)) lo :=
  M.Mine.new rfl h rfl (by decide) (by simp [intM]) (by simp [maxLen]) ⟨trivial, by simp [intM, M.blocksL]⟩

end Go.Proofs.YtghbnehocggnnaaDoor

/-
  Walks: WithoutUses. No condition.
-/
set_option linter.unusedVariables false
set_option linter.unusedSimpArgs false
set_option maxRecDepth 100000
namespace Go.Proofs.YtghbnehocggnnaaDoor
open Go.RowKit

theorem intM_snoc (l : List Int) (n : Int) : intM l ++ [.c (.int .i64 n)] = intM (l ++ [n]) := by simp [intM]
/-- 'out = append(out, n)' -/
theorem wpInts_push {P : Program} {wr w1 : World} {ops : Array Oper} {rest : List Oper} {o : Oper} {act : Act} {Q : Exit → Act → World → Prop} (hgd : o.guard = none) (s x : Operand) (t : TypeId)
    (ho : o.op = .call { callee := .builtin .append, args := #[s, x], argTypes := #[t, t] })
    (e : TypeId) (z : Value) (ht : P.underlying t = some (.slice e)) (hinfo : (P.info? e).map (fun i => (i.zero, i.size, i.bytes)) = some (some z, 1, 8)) (hzs : z.cells.size = 1)
    (lo : Nat) (a : Option Addr) (cap : Nat) (xs : List Int) (hs : act.eval s = .slice a xs.length cap) (hrow : (M.sl a cap 1 e (intM xs)).Mine wr lo) (hlo : lo ≤ wr.heap.size) (hb : Below wr.heap.size wr w1)
    (n : Int) (hx : act.eval x = .slice (some ⟨w1.heap.size, 0, none⟩) 1 1) (hB : xs.length ≤ 1000000000)
    (k : ∀ a' cap' w', (M.sl a' cap' 1 e (intM (xs ++ [n]))).Mine w' lo → Below lo w1 w' → w1.heap.size ≤ w'.heap.size →
      wpList P ops Q rest (act.put o.dst (.slice a' (xs ++ [n]).length cap')) w') : wpList P ops Q (o :: rest) act (w1.alloc (.cells #[.int .i64 n] e)) := by
  refine wpList_push hgd s x t ho e z 1 8 ht hinfo hzs (by decide) lo a cap (intM xs) (by rw [intM_length]; exact hs) hrow hlo hb #[.int .i64 n] (.c (.int .i64 n)) rfl rfl wr.heap.size (M.Mine.c rfl) (Nat.le_refl _) hx (by rw [intM_length]; unfold maxLen; omega) (by rw [intM_length]; omega) ?_
  intro a' cap' w' h1 h2 h3 _
  rw [intM_snoc] at h1
  rw [intM_length]
  have := k a' cap' w' h1 h2 h3
  simpa using this

def noUse (l : List Int) : List Int := l.filter fun x => decide (¬ kindS x = 3)
theorem noUse_length (l : List Int) : (noUse l).length ≤ l.length := List.length_filter_le ..
theorem noUse_take (l : List Int) (k : Nat) : (noUse (l.take k)).length ≤ k := Nat.le_trans (noUse_length _) (by simp; omega)
theorem noUse_yes {l : List Int} {k : Nat} {x : Int} (hx : l[k]? = some x) (h : ¬ kindS x = 3) : noUse (l.take (k + 1)) = noUse (l.take k) ++ [x] := by
  rw [take_snoc hx, noUse, noUse, List.filter_append]; simp [h]
theorem noUse_no {l : List Int} {k : Nat} {x : Int} (hx : l[k]? = some x) (h : kindS x = 3) : noUse (l.take (k + 1)) = noUse (l.take k) := by
  rw [take_snoc hx, noUse, noUse, List.filter_append]; simp [h]
def woUse (l : List Int) : List Int := if ssB l = true then noUse l else l
theorem woUse_length (l : List Int) : (woUse l).length ≤ l.length := by unfold woUse; split; exact noUse_length l; exact Nat.le_refl _


end Go.Proofs.YtghbnehocggnnaaDoor

/-
  Walks: WithScope. No condition.
-/
set_option linter.unusedVariables false
set_option linter.unusedSimpArgs false
set_option maxRecDepth 100000
namespace Go.Proofs.YtghbnehocggnnaaDoor
open Go.RowKit

def putStep (n : Int) (st : List Int × Bool) (x : Int) : List Int × Bool :=
  if st.2 = false ∧ n ≤ x then ((if n < x then st.1 ++ [n] else st.1) ++ [x], true) else (st.1 ++ [x], st.2)
def putSt (n : Int) (l : List Int) : List Int × Bool := l.foldl (putStep n) ([], false)
theorem putSt_succ {n : Int} {l : List Int} {k : Nat} {x : Int} (hx : l[k]? = some x) : putSt n (l.take (k + 1)) = putStep n (putSt n (l.take k)) x := by
  rw [take_snoc hx, putSt, List.foldl_append]; rfl
theorem putStep_length (n : Int) (st : List Int × Bool) (x : Int) : (putStep n st x).1.length ≤ st.1.length + 2 := by
  unfold putStep; split
  · simp only [List.length_append]; split <;> simp <;> omega
  · simp
theorem putSt_take (n : Int) (l : List Int) (k : Nat) (hk : k ≤ l.length) : (putSt n (l.take k)).1.length ≤ 2 * k := by
  induction k with
  | zero => simp [putSt]
  | succ k ih => rw [putSt_succ (List.getElem?_eq_getElem (by omega : k < l.length))]; have := putStep_length n (putSt n (l.take k)) (l[k]'(by omega)); have := ih (by omega); omega
def put (n : Int) (l : List Int) : List Int := if (putSt n l).2 = true then (putSt n l).1 else (putSt n l).1 ++ [n]
theorem put_length (n : Int) (l : List Int) : (put n l).length ≤ 2 * l.length + 1 := by
  have := putSt_take n l l.length (Nat.le_refl _)
  rw [List.take_length] at this
  unfold put; split
  · omega
  · simp; omega
def withS (l : List Int) (n : Int) : List Int := if ssB l = true ∧ ¬ kindS n = 0 then put n l else l
theorem withS_length (l : List Int) (n : Int) : (withS l n).length ≤ 2 * l.length + 1 := by
  unfold withS; split
  · exact put_length n l
  · omega

end Go.Proofs.YtghbnehocggnnaaDoor

/-
  Walks: WithScope, FlippedScope. No condition.
-/
set_option linter.unusedVariables false
set_option linter.unusedSimpArgs false
set_option maxRecDepth 100000
namespace Go.Proofs.YtghbnehocggnnaaDoor
open Go.RowKit

theorem RetInts.mono {l : List Int} {w w1 : World} {e : Ending} {w' : World} (h : RetInts l w1 e w') (hb : Below w.heap.size w w1) : RetInts l w e w' := by
  obtain ⟨a, c, rfl, hm, hb1⟩ := h
  exact ⟨a, c, rfl, hm.mono hb.size, hb.trans (hb1.mono hb.size)⟩

def dropN (n : Int) (l : List Int) : List Int := l.filter fun x => decide (¬ x = n)
theorem dropN_length (n : Int) (l : List Int) : (dropN n l).length ≤ l.length := List.length_filter_le ..
theorem dropN_take (n : Int) (l : List Int) (k : Nat) : (dropN n (l.take k)).length ≤ k := Nat.le_trans (dropN_length _ _) (by simp; omega)
theorem dropN_yes {n : Int} {l : List Int} {k : Nat} {x : Int} (hx : l[k]? = some x) (h : ¬ x = n) : dropN n (l.take (k + 1)) = dropN n (l.take k) ++ [x] := by
  rw [take_snoc hx, dropN, dropN, List.filter_append]; simp [h]
theorem dropN_no {n : Int} {l : List Int} {k : Nat} {x : Int} (hx : l[k]? = some x) (h : x = n) : dropN n (l.take (k + 1)) = dropN n (l.take k) := by
  rw [take_snoc hx, dropN, dropN, List.filter_append]; simp [h]
def flipL (l : List Int) (n : Int) : List Int := if hasB l n = true then dropN n l else put n l
def flipS (l : List Int) (n : Int) : List Int := if ssB l = true ∧ ¬ kindS n = 0 then flipL l n else l
theorem flipL_length (l : List Int) (n : Int) : (flipL l n).length ≤ 2 * l.length + 1 := by
  unfold flipL; split
  · have := dropN_length n l; omega
  · exact put_length n l
theorem flipS_length (l : List Int) (n : Int) : (flipS l n).length ≤ 2 * l.length + 1 := by
  unfold flipS; split
  · exact flipL_length l n
  · omega

end Go.Proofs.YtghbnehocggnnaaDoor

/-
  Walks: the cursor made; sets of scopes drawn. No condition.
-/
set_option linter.unusedVariables false
set_option linter.unusedSimpArgs false
set_option maxRecDepth 100000
namespace Go.Proofs.YtghbnehocggnnaaDoor
open Go.RowKit

def RetCur (a : Option Addr) (cap : Nat) (l : List Int) (w : World) (e : Ending) (w' : World) : Prop :=
  ∃ pb, e = .returned (.pointer (some ⟨pb, 0, none⟩)) ∧ w.heap.size ≤ pb ∧ Cur pb a cap l w' ∧ Below w.heap.size w w'
theorem l01New_calls (a : Option Addr) (cap : Nat) (l : List Int) (w : World) (hin : (M.sl a cap 1 5 (u8M l)).In w) (hu : ∀ z ∈ l, 0 ≤ z ∧ z ≤ 255) (hlen : l.length ≤ 1048576) :
    Calls Tryd.prog 32 #[.slice a l.length cap] w (RetCur a cap l w) := by
  have hl := U8s.len hin
  have HIN := Lib.hid hin; clear hin; have HU := Lib.hid hu; clear hu
  go_enter Tryd.func32, Tryd.ntmps32
  go_wp2_with fail
  go_loop [3, 4] (fun t i => ∃ (k : Nat) (h : Int), k ≤ l.length ∧ i = .int .i64 k ∧ t = .int .i64 h ∧ 0 ≤ h ∧ h ≤ 1073741823) (fun _ i => l.length - (intOf i).toNat)
  case atStart => exact ⟨0, 3220 + l.length, Nat.zero_le _, rfl, rfl, by omega, by omega⟩
  case round =>
    obtain ⟨k, h, hk, rfl, rfl, h0, h1⟩ := hrel
    by_cases hlt : k < l.length
    · by_cases h4 : (k : Int) < 4000
      · obtain ⟨b, off, z, rfl, hz, hc⟩ := U8s.elem HIN.out k hlt
        have hzr := HU.out z (List.mem_of_getElem? hz)
        have hzw : wrap64 z = z := by unfold wrap64; omega
        have HZ := Lib.hid hz; clear hz
        go_wp2_with fail
        go_round
        case rel => exact ⟨k + 1, _, by omega, by go_num, rfl, (and30 _).1, (and30 _).2⟩
        case measure => simp [intOf]; omega
      · have hlt' : (k : Int) < (l.length : Int) := by omega
        go_wp2_with fail
        go_ret
        refine ⟨w.heap.size, rfl, Nat.le_refl _, ⟨0, h, ?_, ?_, ?_, ?_, ?_, Nat.zero_le _, HIN.out.below (by (repeat (first | with_reducible assumption | with_reducible exact Below.refl _ _ | with_reducible refine Below.drew ?_ | with_reducible refine belowDrewN ?_ _ | ((with_reducible refine Below.setCell ?_ ?_ _); rotate_left; focus (first | omega | (simp; done) | (simp; omega))) | ((with_reducible refine Below.alloc ?_ ?_ _); rotate_left; focus (first | omega | (simp; done) | (simp; omega)))))), ?_, HU.out⟩, by (repeat (first | with_reducible assumption | with_reducible exact Below.refl _ _ | with_reducible refine Below.drew ?_ | with_reducible refine belowDrewN ?_ _ | ((with_reducible refine Below.setCell ?_ ?_ _); rotate_left; focus (first | omega | (simp; done) | (simp; omega))) | ((with_reducible refine Below.alloc ?_ ?_ _); rotate_left; focus (first | omega | (simp; done) | (simp; omega)))))⟩
        · simp [go_sem]
        · simp [go_sem]
        · simp [go_sem]
        · simp [go_sem]
        · simp [go_sem]
        · intro hpos b hb
          obtain ⟨b', off', z, rfl, _, hc⟩ := U8s.elem HIN.out 0 hpos
          simp [addrBlocks] at hb
          subst hb
          exact World.block_lt_of_cell? w _ hc
    · have hlt' : ¬ (k : Int) < (l.length : Int) := by omega
      go_wp2_with fail
      go_ret
      refine ⟨w.heap.size, rfl, Nat.le_refl _, ⟨0, h, ?_, ?_, ?_, ?_, ?_, Nat.zero_le _, HIN.out.below (by (repeat (first | with_reducible assumption | with_reducible exact Below.refl _ _ | with_reducible refine Below.drew ?_ | with_reducible refine belowDrewN ?_ _ | ((with_reducible refine Below.setCell ?_ ?_ _); rotate_left; focus (first | omega | (simp; done) | (simp; omega))) | ((with_reducible refine Below.alloc ?_ ?_ _); rotate_left; focus (first | omega | (simp; done) | (simp; omega)))))), ?_, HU.out⟩, by (repeat (first | with_reducible assumption | with_reducible exact Below.refl _ _ | with_reducible refine Below.drew ?_ | with_reducible refine belowDrewN ?_ _ | ((with_reducible refine Below.setCell ?_ ?_ _); rotate_left; focus (first | omega | (simp; done) | (simp; omega))) | ((with_reducible refine Below.alloc ?_ ?_ _); rotate_left; focus (first | omega | (simp; done) | (simp; omega)))))⟩
      · simp [go_sem]
      · simp [go_sem]
      · simp [go_sem]
      · simp [go_sem]
      · simp [go_sem]
      · intro hpos b hb
        obtain ⟨b', off', z, rfl, _, hc⟩ := U8s.elem HIN.out 0 hpos
        simp [addrBlocks] at hb
        subst hb
        exact World.block_lt_of_cell? w _ hc
theorem putSt_mem (n : Int) : ∀ (l : List Int) (st : List Int × Bool), ∀ z ∈ (l.foldl (putStep n) st).1, z = n ∨ z ∈ l ∨ z ∈ st.1
  | [], st => fun z hz => .inr (.inr hz)
  | y :: r, st => fun z hz => by
    rcases putSt_mem n r (putStep n st y) z hz with h | h | h
    · exact .inl h
    · exact .inr (.inl (List.mem_cons_of_mem _ h))
    · unfold putStep at h
      split at h
      · simp only [List.mem_append, List.mem_singleton] at h
        rcases h with h | h
        · split at h
          · rcases List.mem_append.1 h with h | h
            · exact .inr (.inr h)
            · simp at h; exact .inl h
          · exact .inr (.inr h)
        · subst h; exact .inr (.inl (List.mem_cons_self ..))
      · rcases List.mem_append.1 h with h | h
        · exact .inr (.inr h)
        · simp at h; subst h; exact .inr (.inl (List.mem_cons_self ..))
theorem put_mem {n : Int} {l : List Int} {z : Int} (h : z ∈ put n l) : z = n ∨ z ∈ l := by
  unfold put at h
  split at h
  · rcases putSt_mem n l ([], false) z h with h | h | h
    · exact .inl h
    · exact .inr h
    · cases h
  · rcases List.mem_append.1 h with h | h
    · rcases putSt_mem n l ([], false) z h with h | h | h
      · exact .inl h
      · exact .inr h
      · cases h
    · simp at h; exact .inl h
def Small (L : List Int) : Prop := ∀ z ∈ L, -1 ≤ z ∧ z ≤ 100000
theorem Small.nil : Small [] := fun z h => by cases h
theorem Small.put {L : List Int} (h : Small L) {x : Int} (h0 : 0 ≤ x) (h1 : x ≤ 8) : Small (put (1 + x) L) := fun z hz => by
  rcases put_mem hz with rfl | hz
  · omega
  · exact h z hz
/-- a list of numbers drawn -/
def RetSet (m : Nat) (pb : Nat) (a : Option Addr) (cap : Nat) (l : List Int) (w : World) (e : Ending) (w' : World) : Prop :=
  ∃ (L : List Int) (a' : Option Addr) (cap' : Nat), e = .returned (.slice a' L.length cap') ∧ L.length ≤ m ∧ Small L ∧ (M.sl a' cap' 1 3 (intM L)).Mine w' w.heap.size ∧ Cur pb a cap l w' ∧ OnlyIn pb (pb + 1) w w'
/-- a list of numbers and a number drawn -/
def RetSetN (w : World) (e : Ending) (w' : World) : Prop :=
  ∃ (L : List Int) (a' : Option Addr) (cap' : Nat) (n : Int), e = .returned (.tuple #[.slice a' L.length cap', .int .i64 n]) ∧ L.length ≤ 8 ∧ 0 ≤ n ∧ n ≤ 9 ∧ (M.sl a' cap' 1 3 (intM L)).Mine w' w.heap.size ∧ Below w.heap.size w w'
end Go.Proofs.YtghbnehocggnnaaDoor

/-
  Walks: texts drawn. No condition.
-/
set_option linter.unusedVariables false
set_option linter.unusedSimpArgs false
set_option maxRecDepth 100000
namespace Go.Proofs.YtghbnehocggnnaaDoor
open Go.RowKit

/-- a short text drawn -/
def DrawnT (pb : Nat) (a : Option Addr) (cap : Nat) (l : List Int) (w : World) (e : Ending) (w' : World) : Prop :=
  ∃ x : ByteArray, e = .returned (.string x) ∧ x.size ≤ 100 ∧ Cur pb a cap l w' ∧ OnlyIn pb (pb + 1) w w'
def Texts (cs : Array Value) : Prop := ∀ v ∈ cs.toList, ∃ s : ByteArray, v = .string s ∧ s.size ≤ 100
theorem l01Pick_lit (cs : Array Value) (n : Nat) (pb : Nat) (a : Option Addr) (cap : Nat) (l : List Int) (w : World) (hc : Cur pb a cap l w) (hn : cs.size = n) (h0 : 0 < n) (h1 : n ≤ 1000) (ht : Texts cs) :
    Calls Tryd.prog 34 #[.pointer (some ⟨pb, 0, none⟩), .slice (some ⟨w.heap.size, 0, none⟩) n n] (w.alloc (.cells cs 9)) (DrawnT pb a cap l w) := by
  have hp := hc.lt
  have hcell : ∀ k, k < n → ∃ s : ByteArray, (w.alloc (.cells cs 9)).cell? ⟨w.heap.size, k, none⟩ = some (.string s) ∧ s.size ≤ 100 := by
    intro k hk
    obtain ⟨s, hs, hz⟩ := ht cs[k] (by simp)
    refine ⟨s, ?_, hz⟩
    rw [World.cell?_alloc_new]
    rw [← hs]
    simp
  have HC := Lib.hid hc; clear hc; have HCELL := Lib.hid hcell; clear hcell; have HT := Lib.hid ht; clear ht
  go_enter Tryd.func34, Tryd.ntmps34
  go_wp2_with fail
  refine (l01Below_calls n pb a cap l _ (HC.out.below (by (repeat (first | with_reducible assumption | with_reducible exact Below.refl _ _ | with_reducible refine Below.drew ?_ | with_reducible refine belowDrewN ?_ _ | ((with_reducible refine Below.setCell ?_ ?_ _); rotate_left; focus (first | omega | (simp; done) | (simp; omega))) | ((with_reducible refine Below.alloc ?_ ?_ _); rotate_left; focus (first | omega | (simp; done) | (simp; omega))))))) (by omega) (by omega)).mono ?_
  rintro e w1 ⟨x, rfl, hx0, hx1, hc1, ho1⟩
  obtain ⟨k, rfl⟩ := Int.eq_ofNat_of_zero_le hx0
  obtain ⟨s, hs, hz⟩ := HCELL.out k (by omega)
  have hkl : k < n := by omega
  have hs1 : w1.cell? ⟨w.heap.size, k, none⟩ = some (.string s) := (World.cell?_of_block (ho1.block w.heap.size (by simp) (.inr (by omega)))).trans hs
  have hoo : OnlyIn pb (pb + 1) w w1 := ((OnlyIn.refl _ _ _).new _).trans ho1
  have HC1 := Lib.hid hc1; clear hc1; have HO1 := Lib.hid ho1; clear ho1; have HOO := Lib.hid hoo; clear hoo; have HS := Lib.hid hs; clear hs
  go_wp2_with fail
  go_ret
  exact ⟨s, rfl, hz, HC1.out, HOO.out⟩
/-- a number of the machine drawn -/
def DrawnN (m : Int) (pb : Nat) (a : Option Addr) (cap : Nat) (l : List Int) (w : World) (e : Ending) (w' : World) : Prop :=
  ∃ x : Int, e = .returned (.int .i64 x) ∧ I64 x ∧ Cur pb a cap l w' ∧ OnlyIn pb (pb + 1) w w'
def Nums (cs : Array Value) : Prop := ∀ v ∈ cs.toList, ∃ s : Int, v = .int .i64 s ∧ I64 s
theorem l01Int_lit (cs : Array Value) (n : Nat) (pb : Nat) (a : Option Addr) (cap : Nat) (l : List Int) (w : World) (hc : Cur pb a cap l w) (hn : cs.size = n) (h0 : 0 < n) (h1 : n ≤ 1000) (ht : Nums cs) :
    Calls Tryd.prog 61 #[.pointer (some ⟨pb, 0, none⟩), .slice (some ⟨w.heap.size, 0, none⟩) n n] (w.alloc (.cells cs 3)) (DrawnN 0 pb a cap l w) := by
  have hp := hc.lt
  have hcell : ∀ k, k < n → ∃ s : Int, (w.alloc (.cells cs 3)).cell? ⟨w.heap.size, k, none⟩ = some (.int .i64 s) ∧ I64 s := by
    intro k hk
    obtain ⟨s, hs, hz⟩ := ht cs[k] (by simp)
    refine ⟨s, ?_, hz⟩
    rw [World.cell?_alloc_new]
    rw [← hs]
    simp
  have HC := Lib.hid hc; clear hc; have HCELL := Lib.hid hcell; clear hcell; have HT := Lib.hid ht; clear ht
  go_enter Tryd.func61, Tryd.ntmps61
  go_wp2_with fail
  refine (l01Below_calls n pb a cap l _ (HC.out.below (by (repeat (first | with_reducible assumption | with_reducible exact Below.refl _ _ | with_reducible refine Below.drew ?_ | with_reducible refine belowDrewN ?_ _ | ((with_reducible refine Below.setCell ?_ ?_ _); rotate_left; focus (first | omega | (simp; done) | (simp; omega))) | ((with_reducible refine Below.alloc ?_ ?_ _); rotate_left; focus (first | omega | (simp; done) | (simp; omega))))))) (by omega) (by omega)).mono ?_
  rintro e w1 ⟨x, rfl, hx0, hx1, hc1, ho1⟩
  obtain ⟨k, rfl⟩ := Int.eq_ofNat_of_zero_le hx0
  obtain ⟨s, hs, hz⟩ := HCELL.out k (by omega)
  have hkl : k < n := by omega
  have hs1 : w1.cell? ⟨w.heap.size, k, none⟩ = some (.int .i64 s) := (World.cell?_of_block (ho1.block w.heap.size (by simp) (.inr (by omega)))).trans hs
  have hoo : OnlyIn pb (pb + 1) w w1 := ((OnlyIn.refl _ _ _).new _).trans ho1
  have HC1 := Lib.hid hc1; clear hc1; have HO1 := Lib.hid ho1; clear ho1; have HOO := Lib.hid hoo; clear hoo; have HS := Lib.hid hs; clear hs; have HZ := Lib.hid hz; clear hz
  go_wp2_with fail
  go_ret
  exact ⟨s, rfl, HZ.out, HC1.out, HOO.out⟩
end Go.Proofs.YtghbnehocggnnaaDoor

/-
  Walks: NumberDatum, StringDatum, SymbolDatum. No condition.
-/
set_option linter.unusedVariables false
set_option linter.unusedSimpArgs false
set_option maxRecDepth 100000
namespace Go.Proofs.YtghbnehocggnnaaDoor
open Go.RowKit

theorem isDatB_leaf (k n : Int) (s : ByteArray) : isDatB k n s [] = nodeB k n s 0 := by
  cases hq : nodeB k n s 0 with
  | true => exact isDatB_yes ⟨by simp [Dat.countL], by simp [Dat.depthL], by rw [Dat.ok_mk]; simpa using hq⟩
  | false => exact isDatB_no fun h => by have := (Dat.ok_mk.1 h.2.2).1; simp [hq] at this
def onlyN (b : Bool) (n : Int) : Int := if b = true then n else 0
def onlyS (b : Bool) (s : ByteArray) : ByteArray := if b = true then s else ⟨#[]⟩
@[simp] theorem onlyN_t (n : Int) : onlyN true n = n := rfl
@[simp] theorem onlyN_f (n : Int) : onlyN false n = 0 := rfl
@[simp] theorem onlyS_t (s : ByteArray) : onlyS true s = s := rfl
@[simp] theorem onlyS_f (s : ByteArray) : onlyS false s = ⟨#[]⟩ := rfl

def numB (n : Int) : Bool := inB n (-999999999) 999999999
theorem nodeB_num (n : Int) : nodeB 2 n ⟨#[]⟩ 0 = numB n := by unfold nodeB numB; simp
theorem nodeB_str (s : ByteArray) : nodeB 4 0 s 0 = strB s := by unfold nodeB; simp
theorem nodeB_sym (s : ByteArray) : nodeB 1 0 s 0 = isSymB s := by unfold nodeB; simp
theorem sStringDatum_calls (s : ByteArray) (w : World) (hs : s.size ≤ 9223372036854775807) : Calls Tryd.prog 63 #[.string s] w (RetDat 40 (.mk (onlyN (strB s) 4) 0 (onlyS (strB s) s) []) w) := by
  go_enter Tryd.func63, Tryd.ntmps63
  go_wp2_with fail
  refine (l1String_calls s _ hs).mono ?_
  rintro e w1 ⟨rfl, rfl⟩
  cases hq : strB s with
  | true =>
    go_wp2_with fail
    refine bodyPost_ret (v := .agg #[.int .i64 4, .int .i64 0, .string s, .slice none 0 0]) (by simp [results, Tryd.results63, go_sem]) rfl ?_
    exact ⟨none, 0, [], by simp [hq], rfl, M.Mine.nil _ _ _ _ (by decide), by (repeat (first | with_reducible assumption | with_reducible exact Below.refl _ _ | with_reducible refine Below.drew ?_ | with_reducible refine belowDrewN ?_ _ | ((with_reducible refine Below.setCell ?_ ?_ _); rotate_left; focus (first | omega | (simp; done) | (simp; omega))) | ((with_reducible refine Below.alloc ?_ ?_ _); rotate_left; focus (first | omega | (simp; done) | (simp; omega)))))⟩
  | false =>
    go_wp2_with fail
    refine bodyPost_ret (v := .agg #[.int .i64 0, .int .i64 0, .string ⟨#[]⟩, .slice none 0 0]) (by simp [results, Tryd.results63, go_sem]) rfl ?_
    exact ⟨none, 0, [], by simp [hq], rfl, M.Mine.nil _ _ _ _ (by decide), by (repeat (first | with_reducible assumption | with_reducible exact Below.refl _ _ | with_reducible refine Below.drew ?_ | with_reducible refine belowDrewN ?_ _ | ((with_reducible refine Below.setCell ?_ ?_ _); rotate_left; focus (first | omega | (simp; done) | (simp; omega))) | ((with_reducible refine Below.alloc ?_ ?_ _); rotate_left; focus (first | omega | (simp; done) | (simp; omega)))))⟩
theorem sSymbolDatum_calls (s : ByteArray) (w : World) (hs : s.size ≤ 9223372036854775807) : Calls Tryd.prog 59 #[.string s] w (RetDat 40 (.mk (onlyN (isSymB s) 1) 0 (onlyS (isSymB s) s) []) w) := by
  go_enter Tryd.func59, Tryd.ntmps59
  go_wp2_with fail
  refine (sIsSymbol_calls s _ hs).mono ?_
  rintro e w1 ⟨rfl, rfl⟩
  cases hq : isSymB s with
  | true =>
    go_wp2_with fail
    refine bodyPost_ret (v := .agg #[.int .i64 1, .int .i64 0, .string s, .slice none 0 0]) (by simp [results, Tryd.results59, go_sem]) rfl ?_
    exact ⟨none, 0, [], by simp [hq], rfl, M.Mine.nil _ _ _ _ (by decide), by (repeat (first | with_reducible assumption | with_reducible exact Below.refl _ _ | with_reducible refine Below.drew ?_ | with_reducible refine belowDrewN ?_ _ | ((with_reducible refine Below.setCell ?_ ?_ _); rotate_left; focus (first | omega | (simp; done) | (simp; omega))) | ((with_reducible refine Below.alloc ?_ ?_ _); rotate_left; focus (first | omega | (simp; done) | (simp; omega)))))⟩
  | false =>
    go_wp2_with fail
    refine bodyPost_ret (v := .agg #[.int .i64 0, .int .i64 0, .string ⟨#[]⟩, .slice none 0 0]) (by simp [results, Tryd.results59, go_sem]) rfl ?_
    exact ⟨none, 0, [], by simp [hq], rfl, M.Mine.nil _ _ _ _ (by decide), by (repeat (first | with_reducible assumption | with_reducible exact Below.refl _ _ | with_reducible refine Below.drew ?_ | with_reducible refine belowDrewN ?_ _ | ((with_reducible refine Below.setCell ?_ ?_ _); rotate_left; focus (first | omega | (simp; done) | (simp; omega))) | ((with_reducible refine Below.alloc ?_ ?_ _); rotate_left; focus (first | omega | (simp; done) | (simp; omega)))))⟩
theorem sNumberDatum_calls (n : Int) (w : World) : Calls Tryd.prog 60 #[.int .i64 n] w (RetDat 40 (.mk (onlyN (numB n) 2) (onlyN (numB n) n) ⟨#[]⟩ []) w) := by
  have hnb : numB n = inB n (-999999999) 999999999 := rfl
  go_enter Tryd.func60, Tryd.ntmps60
  go_wp2_with fail
  refine (l1In_calls n (-999999999) 999999999 _).mono ?_
  rintro e w1 ⟨rfl, rfl⟩
  rw [← hnb]
  clear hnb
  cases hq : numB n with
  | true =>
    go_wp2_with fail
    refine bodyPost_ret (v := .agg #[.int .i64 2, .int .i64 n, .string ⟨#[]⟩, .slice none 0 0]) (by simp [results, Tryd.results60, go_sem]) rfl ?_
    exact ⟨none, 0, [], by simp [hq], rfl, M.Mine.nil _ _ _ _ (by decide), by (repeat (first | with_reducible assumption | with_reducible exact Below.refl _ _ | with_reducible refine Below.drew ?_ | with_reducible refine belowDrewN ?_ _ | ((with_reducible refine Below.setCell ?_ ?_ _); rotate_left; focus (first | omega | (simp; done) | (simp; omega))) | ((with_reducible refine Below.alloc ?_ ?_ _); rotate_left; focus (first | omega | (simp; done) | (simp; omega)))))⟩
  | false =>
    go_wp2_with fail
    refine bodyPost_ret (v := .agg #[.int .i64 0, .int .i64 0, .string ⟨#[]⟩, .slice none 0 0]) (by simp [results, Tryd.results60, go_sem]) rfl ?_
    exact ⟨none, 0, [], by simp [hq], rfl, M.Mine.nil _ _ _ _ (by decide), by (repeat (first | with_reducible assumption | with_reducible exact Below.refl _ _ | with_reducible refine Below.drew ?_ | with_reducible refine belowDrewN ?_ _ | ((with_reducible refine Below.setCell ?_ ?_ _); rotate_left; focus (first | omega | (simp; done) | (simp; omega))) | ((with_reducible refine Below.alloc ?_ ?_ _); rotate_left; focus (first | omega | (simp; done) | (simp; omega)))))⟩
end Go.Proofs.YtghbnehocggnnaaDoor

/-
  Walks: the law's own measure of data; data compared. No condition.
-/
set_option linter.unusedVariables false
set_option linter.unusedSimpArgs false
set_option maxRecDepth 100000
namespace Go.Proofs.YtghbnehocggnnaaDoor
open Go.RowKit

/-- A measure that counts down: what it hands back is below what it was handed by at least the weight, or it is -1. -/
def SzPost (wt : Nat) (left : Int) (w : World) (e : Ending) (w' : World) : Prop :=
  ∃ r : Int, e = .returned (.int .i64 r) ∧ -1 ≤ r ∧ r ≤ left ∧ (0 ≤ r → (wt : Int) + r ≤ left) ∧ Below w.heap.size w w'

end Go.Proofs.YtghbnehocggnnaaDoor

/-
  Walks: the law's own copies of data, and their comparison. No condition.
-/
set_option linter.unusedVariables false
set_option linter.unusedSimpArgs false
set_option maxRecDepth 100000
namespace Go.Proofs.YtghbnehocggnnaaDoor
open Go.RowKit

theorem infoDat : (Tryd.prog.info? 40).map (fun i => (i.zero, i.size, i.bytes)) = some (some (.agg #[.int .i64 0, .int .i64 0, .string ⟨#[]⟩, .slice none 0 0]), 4, 56) := by kernel_rfl
/-- the zero datum -/
def zeroM (e : TypeId) : M := .ag [.c (.int .i64 0), .c (.int .i64 0), .c (.string ⟨#[]⟩), .sl none 0 4 e []]
theorem zeroM_own (e : TypeId) (w : World) (lo : Nat) : (zeroM e).Own w lo := ⟨rfl, rfl, rfl, (M.Mine.nil w lo 4 e (by decide)).own, trivial⟩
def zeroD : Dat := .mk 0 0 ⟨#[]⟩ []
theorem zero_is (e : TypeId) : zeroD.Is e (zeroM e) := ⟨none, 0, [], rfl, rfl⟩
theorem Dat.IsL.append {e : TypeId} : ∀ {xs ys : List Dat} {ms ns : List M}, Dat.IsL e xs ms → Dat.IsL e ys ns → Dat.IsL e (xs ++ ys) (ms ++ ns)
  | [], _, ms, _, h, h2 => by simp [Dat.IsL] at h; subst h; simpa using h2
  | x :: xs, ys, ms, ns, h, h2 => by
    obtain ⟨m, r, rfl, h1, h3⟩ := h
    exact ⟨m, r ++ ns, rfl, h1, Dat.IsL.append h3 h2⟩
theorem Dat.IsL.set {e : TypeId} : ∀ {xs : List Dat} {ms : List M} {d : Dat} {m : M} (k : Nat), Dat.IsL e xs ms → d.Is e m → Dat.IsL e (xs.set k d) (ms.set k m)
  | [], ms, d, m, k, h, _ => by simp [Dat.IsL] at h; subst h; simp [Dat.IsL]
  | x :: xs, ms, d, m, 0, h, hd => by obtain ⟨y, r, rfl, h1, h3⟩ := h; exact ⟨m, r, rfl, hd, h3⟩
  | x :: xs, ms, d, m, k + 1, h, hd => by obtain ⟨y, r, rfl, h1, h3⟩ := h; exact ⟨y, r.set k m, rfl, h1, Dat.IsL.set k h3 hd⟩
theorem Dat.IsL.replicate {e : TypeId} {d : Dat} {m : M} (h : d.Is e m) : ∀ n, Dat.IsL e (List.replicate n d) (List.replicate n m)
  | 0 => rfl
  | n + 1 => ⟨m, List.replicate n m, rfl, h, Dat.IsL.replicate h n⟩

end Go.Proofs.YtghbnehocggnnaaDoor

/-
  Walks: the law's comparison of data that are one. No condition.
-/
set_option linter.unusedVariables false
set_option linter.unusedSimpArgs false
set_option maxRecDepth 100000
namespace Go.Proofs.YtghbnehocggnnaaDoor
open Go.RowKit

/-- two slices of the same data: element k of both -/
theorem Dat.elem2 {w : World} {a : Option Addr} {cap : Nat} {e : TypeId} {ds : List Dat} {ms : List M} (h : (M.sl a cap 4 e ms).In w) (hi : Dat.IsL e ds ms)
    {a' : Option Addr} {cap' : Nat} {e' : TypeId} {ms' : List M} (h' : (M.sl a' cap' 4 e' ms').In w) (hi' : Dat.IsL e' ds ms') (k : Nat) (hk : k < ms.length) :
    ∃ b off b' off' k1 n1 s1 ds1 a1 cap1 ms1 a1' cap1' ms1', a = some ⟨b, off, none⟩ ∧ a' = some ⟨b', off', none⟩ ∧ ds[k]? = some (.mk k1 n1 s1 ds1) ∧ Dat.IsL e ds1 ms1 ∧ Dat.IsL e' ds1 ms1' ∧ (M.sl a1 cap1 4 e ms1).In w ∧ (M.sl a1' cap1' 4 e' ms1').In w ∧
      w.cell? ⟨b, off + k * 4, none⟩ = some (.int .i64 k1) ∧ w.cell? ⟨b, off + k * 4 + 1, none⟩ = some (.int .i64 n1) ∧
      w.cell? ⟨b, off + k * 4 + 2, none⟩ = some (.string s1) ∧ w.cell? ⟨b, off + k * 4 + 3, none⟩ = some (.slice a1 ms1.length cap1) ∧
      w.cell? ⟨b', off' + k * 4, none⟩ = some (.int .i64 k1) ∧ w.cell? ⟨b', off' + k * 4 + 1, none⟩ = some (.int .i64 n1) ∧
      w.cell? ⟨b', off' + k * 4 + 2, none⟩ = some (.string s1) ∧ w.cell? ⟨b', off' + k * 4 + 3, none⟩ = some (.slice a1' ms1'.length cap1') := by
  obtain ⟨b, off, k1, n1, s1, ds1, a1, cap1, ms1, ha, hd, hi1, hin1, c0, c1, c2, c3⟩ := Dat.elem h hi k hk
  obtain ⟨b', off', k1', n1', s1', ds1', a1', cap1', ms1', ha', hd', hi1', hin1', c0', c1', c2', c3'⟩ := Dat.elem h' hi' k (by rw [hi'.length, ← hi.length]; exact hk)
  rw [hd] at hd'
  simp only [Option.some.injEq, Dat.mk.injEq] at hd'
  obtain ⟨rfl, rfl, rfl, rfl⟩ := hd'
  exact ⟨b, off, b', off', k1, n1, s1, ds1, a1, cap1, ms1, a1', cap1', ms1', ha, ha', hd, hi1, hi1', hin1, hin1', c0, c1, c2, c3, c0', c1', c2', c3'⟩

end Go.Proofs.YtghbnehocggnnaaDoor

/-
  Single stores into elements of one's own rows; elements whose inner rows have changed. No condition.
-/
set_option linter.unusedVariables false
namespace Go.Proofs.YtghbnehocggnnaaDoor
open Go.RowKit

theorem set_mid {α : Type} (A E B : List α) (j : Nat) (v : α) (hj : j < E.length) : (A ++ E ++ B).set (A.length + j) v = A ++ E.set j v ++ B := by
  rw [List.append_assoc, List.set_append, if_neg (by omega), show A.length + j - A.length = j by omega, List.set_append, if_pos hj, List.append_assoc]

/-- One cell of element k is written. -/
theorem M.Mine.setOne {w : World} {lo g cap sz : Nat} {e : TypeId} {xs : List M} (h : (M.sl (some ⟨g, 0, none⟩) cap sz e xs).Mine w lo) (k : Nat) (hk : k < xs.length) (j : Nat) (hj : j < sz) (m : M) (v : Value)
    (hmc : m.cells = (xs[k]).cells.set j v) (hm : m.Mine w lo) (hbl : m.blocks = (xs[k]).blocks) : (M.sl (some ⟨g, 0, none⟩) cap sz e (xs.set k m)).Mine (w.setCell ⟨g, k * sz + j, none⟩ v) lo := by
  have hd := h.dup
  simp only [M.blocks] at hd
  rw [List.nodup_append] at hd
  obtain ⟨hd1, hd2, hd3⟩ := hd
  have hng : ∀ b ∈ M.blocksL xs, b ≠ g := fun b hb he => hd3 g (by simp [addrBlocks]) b hb he.symm
  have hu := h.own.1.2.2
  have hxk := hu (xs[k]) (List.getElem_mem hk)
  have hset := h.setElem k hk m (by rw [hmc, List.length_set]; exact hxk) hm fun b hb => by
    rw [hbl] at hb
    exact ⟨hng b (mem_blocksL.2 ⟨_, List.getElem_mem hk, hb⟩), .inl hb⟩
  refine M.Mine.keep hset fun b _ _ => ?_
  by_cases hbg : b = g
  · subst hbg
    rcases h.own.1.1.2 with ⟨hv, _⟩ | ⟨g', cap', cur, hv, hb, hg, h1, h2, h3, h4⟩
    · simp at hv
    · simp only [Value.slice.injEq, Option.some.injEq, Addr.mk.injEq, true_and, and_true] at hv
      obtain ⟨rfl, rfl⟩ := hv
      have hkb : k * sz + sz ≤ xs.length * sz := by rw [← Nat.succ_mul]; exact Nat.mul_le_mul_right _ hk
      have hcur : xs.length * sz ≤ cur.size := by rw [h3]; exact Nat.mul_le_mul_right _ h1
      have hml : m.cells.length = sz := by rw [hmc, List.length_set]; exact hxk
      rw [setCells_heap b e m.cells w (k * sz) cur hg (by rw [hml]; omega), heap_setCell_same w b _ cur e v hg]
      congr 2
      apply Array.ext'
      simp only [Array.toList_setIfInBounds]
      rw [hml, hmc]
      have hx := cellsL_set xs k (xs[k]) hu hk hxk
      rw [List.set_getElem_self] at hx
      have hlen := M.cellsL_length hu
      have hcl : cur.toList = cur.toList.take (k * sz) ++ (xs[k]).cells ++ cur.toList.drop (k * sz + sz) := by
        have h5 : cur.toList = M.cellsL xs ++ cur.toList.drop (xs.length * sz) := by rw [← h4, List.take_append_drop]
        have h6 : cur.toList.take (k * sz) = (M.cellsL xs).take (k * sz) := by rw [← h4, List.take_take, Nat.min_eq_left (by omega)]
        have h7 : cur.toList.drop (k * sz + sz) = (M.cellsL xs).drop (k * sz + sz) ++ cur.toList.drop (xs.length * sz) := by
          conv => lhs; rw [h5]
          rw [List.drop_append, hlen, show k * sz + sz - xs.length * sz = 0 by omega, List.drop_zero]
        rw [h6, h7, ← List.append_assoc, ← hx]
        exact h5
      have hl0 : (cur.toList.take (k * sz)).length = k * sz := by simp; omega
      conv => lhs; rw [hcl]
      rw [show k * sz + j = (cur.toList.take (k * sz)).length + j by rw [hl0], set_mid _ _ _ _ _ (by rw [hxk]; exact hj)]
  · rw [heapSet _ _ _ _ hbg, setCells_other g b hbg]

theorem blocksL_split (xs : List M) (k : Nat) (hk : k < xs.length) : M.blocksL xs = M.blocksL (xs.take k) ++ ((xs[k]).blocks ++ M.blocksL (xs.drop (k + 1))) := by
  conv => lhs; rw [← List.take_append_drop k xs, List.drop_eq_getElem_cons hk]
  rw [M.blocksL_append]; rfl
theorem blocksL_set_same (xs : List M) (k : Nat) (m : M) (hk : k < xs.length) (h : m.blocks = (xs[k]).blocks) : M.blocksL (xs.set k m) = M.blocksL xs := by
  rw [blocksL_split xs k hk, List.set_eq_take_append_cons_drop, if_pos hk, M.blocksL_append, ← h]; rfl
theorem cellsL_set_same (xs : List M) (k : Nat) (m : M) (hk : k < xs.length) (h : m.cells = (xs[k]).cells) : M.cellsL (xs.set k m) = M.cellsL xs := by
  conv => rhs; rw [← List.take_append_drop k xs, List.drop_eq_getElem_cons hk]
  rw [List.set_eq_take_append_cons_drop, if_pos hk, M.cellsL_append, M.cellsL_append]
  simp only [M.cellsL, h]

theorem OwnL_setSub {w w' : World} {lo : Nat} {xs : List M} (hx : M.OwnL w lo xs) (hd2 : (M.blocksL xs).Nodup) (k : Nat) (hk : k < xs.length) (m : M) (hm : m.Own w' lo) {bs : List Nat} (ho : Only bs w w') (hbs : ∀ b ∈ bs, b ∈ (xs[k]).blocks) : M.OwnL w' lo (xs.set k m) := by
  have hxlt := M.OwnL.lt xs hx
  rw [blocksL_split xs k hk, List.nodup_append] at hd2
  obtain ⟨hp1, hp2, hp3⟩ := hd2
  rw [List.nodup_append] at hp2
  obtain ⟨hq1, hq2, hq3⟩ := hp2
  rw [List.set_eq_take_append_cons_drop, if_pos hk, M.OwnL_append]
  have hx' := hx
  rw [← List.take_append_drop k xs, List.drop_eq_getElem_cons hk, M.OwnL_append] at hx'
  obtain ⟨ha, _, hc⟩ := hx'
  refine ⟨M.OwnL.frame _ ha fun b hb => ?_, hm, M.OwnL.frame _ hc fun b hb => ?_⟩
  · exact ho.block b (hxlt b (by rw [blocksL_split xs k hk]; simp [hb])).2 fun hn => hp3 b hb b (by simp [hbs b hn]) rfl
  · exact ho.block b (hxlt b (by rw [blocksL_split xs k hk]; simp [hb])).2 fun hn => hq3 b (hbs b hn) b hb rfl

/-- The inner rows of element k have changed, its own cells have not. -/
theorem M.Mine.setSub {w w' : World} {lo g cap sz : Nat} {e : TypeId} {xs : List M} (h : (M.sl (some ⟨g, 0, none⟩) cap sz e xs).Mine w lo) (k : Nat) (hk : k < xs.length) (m : M)
    (hmc : m.cells = (xs[k]).cells) (hm : m.Mine w' lo) (hbl : m.blocks = (xs[k]).blocks) {bs : List Nat} (ho : Only bs w w') (hbs : ∀ b ∈ bs, b ∈ (xs[k]).blocks) :
    (M.sl (some ⟨g, 0, none⟩) cap sz e (xs.set k m)).Mine w' lo := by
  obtain ⟨⟨⟨hrow, hs, hu⟩, hx⟩, hd⟩ := h
  simp only [M.blocks] at hd
  have hd0 := hd
  rw [List.nodup_append] at hd
  obtain ⟨hd1, hd2, hd3⟩ := hd
  have hng : ∀ b ∈ M.blocksL xs, b ≠ g := fun b hb he => hd3 g (by simp [addrBlocks]) b hb he.symm
  have hmem : ∀ b ∈ (xs[k]).blocks, b ∈ M.blocksL xs := fun b hb => mem_blocksL.2 ⟨_, List.getElem_mem hk, hb⟩
  have hxlt := M.OwnL.lt xs hx
  rw [blocksL_split xs k hk, List.nodup_append] at hd2
  obtain ⟨hp1, hp2, hp3⟩ := hd2
  rw [List.nodup_append] at hp2
  obtain ⟨hq1, hq2, hq3⟩ := hp2
  refine ⟨⟨⟨?_, hs, ?_⟩, ?_⟩, ?_⟩
  · rw [cellsL_set_same xs k m hk hmc, List.length_set]
    refine ownsRow_frame hrow fun b hb => ?_
    simp [addrBlocks] at hb
    subst hb
    rcases hrow.2 with ⟨hv, _⟩ | ⟨g', cap', cur, hv, hb', hg, _⟩
    · simp at hv
    · simp only [Value.slice.injEq, Option.some.injEq, Addr.mk.injEq, true_and, and_true] at hv
      obtain ⟨rfl, rfl⟩ := hv
      exact ho.block _ (Array.getElem?_eq_some_iff.1 hg).1 fun hb => hng _ (hmem _ (hbs _ hb)) rfl
  · intro x hx2
    rcases List.mem_or_eq_of_mem_set hx2 with h1 | rfl
    · exact hu x h1
    · rw [hmc]; exact hu _ (List.getElem_mem hk)
  · rw [List.set_eq_take_append_cons_drop, if_pos hk]
    rw [M.OwnL_append]
    have hx' := hx
    rw [← List.take_append_drop k xs, List.drop_eq_getElem_cons hk, M.OwnL_append] at hx'
    obtain ⟨ha, _, hc⟩ := hx'
    refine ⟨M.OwnL.frame _ ha fun b hb => ?_, hm.own, M.OwnL.frame _ hc fun b hb => ?_⟩
    · exact ho.block b (hxlt b (by rw [blocksL_split xs k hk]; simp [hb])).2 fun hn => hp3 b hb b (by simp [hbs b hn]) rfl
    · exact ho.block b (hxlt b (by rw [blocksL_split xs k hk]; simp [hb])).2 fun hn => hq3 b (hbs b hn) b hb rfl
  · simp only [M.blocks]
    rw [blocksL_set_same xs k m hk hbl]; exact hd0

theorem M.Mine.inner {w : World} {lo g cap sz : Nat} {e : TypeId} {xs : List M} (h : (M.sl (some ⟨g, 0, none⟩) cap sz e xs).Mine w lo) (k : Nat) (hk : k < xs.length) : (xs[k]).Mine w lo := by
  have hd := h.dup
  simp only [M.blocks] at hd
  rw [List.nodup_append] at hd
  have hd2 := hd.2.1
  rw [blocksL_split xs k hk, List.nodup_append] at hd2
  have h3 := hd2.2.1
  rw [List.nodup_append] at h3
  exact ⟨OwnL_iff.1 h.own.2 _ (List.getElem_mem hk), h3.1⟩
theorem M.Mine.part {w : World} {lo : Nat} {ys : List M} (h : (M.ag ys).Mine w lo) {j : Nat} {m : M} (hj : ys[j]? = some m) : m.Mine w lo := by
  obtain ⟨hjj, rfl⟩ := List.getElem?_eq_some_iff.1 hj
  have hd2 : (M.blocksL ys).Nodup := h.dup
  rw [blocksL_split ys j hjj, List.nodup_append] at hd2
  have h3 := hd2.2.1
  rw [List.nodup_append] at h3
  exact ⟨OwnL_iff.1 h.own _ (List.getElem_mem hjj), h3.1⟩
/-- Part j of element k of a row of one's own. -/
theorem M.Mine.piece {w : World} {lo g cap sz : Nat} {e : TypeId} {xs : List M} (h : (M.sl (some ⟨g, 0, none⟩) cap sz e xs).Mine w lo) {k : Nat} {ys : List M} (hx : xs[k]? = some (.ag ys)) {j : Nat} {m : M} (hj : ys[j]? = some m) : m.Mine w lo := by
  obtain ⟨hk, he⟩ := List.getElem?_eq_some_iff.1 hx
  exact (he ▸ h.inner k hk : (M.ag ys).Mine w lo).part hj

theorem cellsL_one : ∀ (ys : List M) (j : Nat) (m : M), (∀ y ∈ ys, y.cells.length = 1) → j < ys.length → ∀ v, m.cells = [v] → M.cellsL (ys.set j m) = (M.cellsL ys).set j v
  | [], j, _, _, hj, _, _ => by simp at hj
  | y :: r, 0, m, h, _, v, hm => by
    have h1 := h y (List.mem_cons_self ..)
    obtain ⟨u, hu⟩ := List.length_eq_one_iff.1 h1
    simp [M.cellsL, hm, hu]
  | y :: r, j + 1, m, h, hj, v, hm => by
    have h1 := h y (List.mem_cons_self ..)
    obtain ⟨u, hu⟩ := List.length_eq_one_iff.1 h1
    simp only [List.set_cons_succ, M.cellsL, cellsL_one r j m (fun z hz => h z (List.mem_cons_of_mem _ hz)) (by simpa using hj) v hm, hu]
    simp
theorem cellsL_ones : ∀ (ys : List M), (∀ y ∈ ys, y.cells.length = 1) → (M.cellsL ys).length = ys.length
  | [], _ => rfl
  | y :: r, h => by simp only [M.cellsL, List.length_append, List.length_cons, cellsL_ones r (fun z hz => h z (List.mem_cons_of_mem _ hz)), h y (List.mem_cons_self ..)]; omega

/-- Part j of element k, a simple cell, is written. -/
theorem M.Mine.setC {w : World} {lo g cap sz : Nat} {e : TypeId} {xs : List M} (h : (M.sl (some ⟨g, 0, none⟩) cap sz e xs).Mine w lo) {k : Nat} {ys : List M} (hx : xs[k]? = some (.ag ys)) (j : Nat) {u : Value} (hy : ys[j]? = some (.c u))
    (h1 : ∀ y ∈ ys, y.cells.length = 1) (v : Value) (hv : v.oneCell' = true) :
    (M.sl (some ⟨g, 0, none⟩) cap sz e (xs.set k (.ag (ys.set j (.c v))))).Mine (w.setCell ⟨g, k * sz + j, none⟩ v) lo ∧ (xs.set k (.ag (ys.set j (.c v))))[k]? = some (.ag (ys.set j (.c v))) := by
  obtain ⟨hk, he⟩ := List.getElem?_eq_some_iff.1 hx
  obtain ⟨hj, hej⟩ := List.getElem?_eq_some_iff.1 hy
  have hsz := h.own.1.2.2 _ (List.getElem_mem hk)
  rw [he] at hsz
  have hsz' : ys.length = sz := by rw [← hsz]; exact (cellsL_ones ys h1).symm
  have hel := h.inner k hk
  rw [he] at hel
  have hbl : M.blocksL (ys.set j (.c v)) = M.blocksL ys := blocksL_set_same ys j _ hj (by rw [hej]; rfl)
  refine ⟨h.setOne k hk j (by omega) (.ag (ys.set j (.c v))) v ?_ ⟨?_, ?_⟩ ?_, by simp [hk]⟩
  · rw [he]; exact cellsL_one ys j _ h1 hj v rfl
  · refine OwnL_iff.2 fun y hy => ?_
    rcases List.mem_or_eq_of_mem_set hy with h2 | rfl
    · exact OwnL_iff.1 hel.own y h2
    · exact hv
  · show (M.blocksL (ys.set j (.c v))).Nodup
    rw [hbl]; exact hel.dup
  · rw [he]; exact hbl

/-- Part j of element k, an inner row, has changed inside. -/
theorem M.Mine.setP {w w' : World} {lo g cap sz : Nat} {e : TypeId} {xs : List M} (h : (M.sl (some ⟨g, 0, none⟩) cap sz e xs).Mine w lo) {k : Nat} {ys : List M} (hx : xs[k]? = some (.ag ys)) (j : Nat) {m : M} (hy : ys[j]? = some m)
    (m' : M) (hc : m'.cells = m.cells) (hb : m'.blocks = m.blocks) (hm : m'.Mine w' lo) {bs : List Nat} (ho : Only bs w w') (hbs : ∀ b ∈ bs, b ∈ m.blocks) :
    (M.sl (some ⟨g, 0, none⟩) cap sz e (xs.set k (.ag (ys.set j m')))).Mine w' lo ∧ (xs.set k (.ag (ys.set j m')))[k]? = some (.ag (ys.set j m')) ∧ M.blocksL (xs.set k (.ag (ys.set j m'))) = M.blocksL xs := by
  obtain ⟨hk, he⟩ := List.getElem?_eq_some_iff.1 hx
  obtain ⟨hj, hej⟩ := List.getElem?_eq_some_iff.1 hy
  have hel := h.inner k hk
  rw [he] at hel
  have hbl : M.blocksL (ys.set j m') = M.blocksL ys := blocksL_set_same ys j _ hj (by rw [hej]; exact hb)
  have hcl : M.cellsL (ys.set j m') = M.cellsL ys := cellsL_set_same ys j _ hj (by rw [hej]; exact hc)
  have hbs' : ∀ b ∈ bs, b ∈ M.blocksL ys := fun b hb => mem_blocksL.2 ⟨m, hej ▸ List.getElem_mem hj, hbs b hb⟩
  refine ⟨h.setSub k hk (.ag (ys.set j m')) (by rw [he]; exact hcl) ⟨OwnL_setSub hel.own hel.dup j hj m' hm.own ho (by rw [hej]; exact hbs), ?_⟩ (by rw [he]; exact hbl) ho (by rw [he]; exact hbs'), by simp [hk], ?_⟩
  · show (M.blocksL (ys.set j m')).Nodup
    rw [hbl]; exact hel.dup
  · exact blocksL_set_same xs k _ hk (by rw [he]; exact hbl)
theorem setC_blocks {xs : List M} {k : Nat} {ys : List M} (hx : xs[k]? = some (.ag ys)) {j : Nat} {u : Value} (hy : ys[j]? = some (.c u)) (v : Value) : M.blocksL (xs.set k (.ag (ys.set j (.c v)))) = M.blocksL xs := by
  obtain ⟨hk, he⟩ := List.getElem?_eq_some_iff.1 hx
  obtain ⟨hj, hej⟩ := List.getElem?_eq_some_iff.1 hy
  exact blocksL_set_same xs k _ hk (by rw [he]; exact blocksL_set_same ys j _ hj (by rw [hej]; rfl))
end Go.Proofs.YtghbnehocggnnaaDoor

/-
  Walks: marking data. No condition.
-/
set_option linter.unusedVariables false
set_option linter.unusedSimpArgs false
set_option maxRecDepth 100000
namespace Go.Proofs.YtghbnehocggnnaaDoor
open Go.RowKit

mutual
/-- A datum whose places have been numbered from k on. -/
def Dat.mark (k : Int) : Dat → Dat
  | .mk _ _ _ es => .mk k (k + 1) (mtx (k + 2)) (Dat.markL (k + 3) es)
def Dat.markL (k : Int) : List Dat → List Dat
  | [] => []
  | d :: r => d.mark k :: Dat.markL (k + 3 * (d.count : Int)) r
end
theorem Dat.markL_append (xs ys : List Dat) : ∀ k, Dat.markL k (xs ++ ys) = Dat.markL k xs ++ Dat.markL (k + 3 * (Dat.countL xs : Int)) ys := by
  induction xs with
  | nil => intro k; simp [Dat.markL, Dat.countL]
  | cons x r ih =>
    intro k
    simp only [List.cons_append, Dat.markL, Dat.countL, ih]
    congr 3
    push_cast; omega
theorem Dat.markL_length (ds : List Dat) : ∀ k, (Dat.markL k ds).length = ds.length := by
  induction ds with
  | nil => intro k; rfl
  | cons x r ih => intro k; simp [Dat.markL, ih]
mutual
theorem Dat.count_mark : ∀ (d : Dat) (k : Int), (d.mark k).count = d.count
  | .mk _ _ _ es, k => by simp only [Dat.mark, Dat.count, Dat.countL_markL es]
theorem Dat.countL_markL : ∀ (ds : List Dat) (k : Int), Dat.countL (Dat.markL k ds) = Dat.countL ds
  | [], k => rfl
  | d :: r, k => by simp only [Dat.markL, Dat.countL, Dat.count_mark d, Dat.countL_markL r]
end
theorem Dat.markL_take {ds : List Dat} {j : Nat} {d : Dat} (h : ds[j]? = some d) (k : Int) : Dat.markL k (ds.take (j + 1)) = Dat.markL k (ds.take j) ++ [d.mark (k + 3 * (Dat.countL (ds.take j) : Int))] := by
  rw [take_snoc h, Dat.markL_append]; rfl
theorem Dat.mark_set {ds : List Dat} {j : Nat} {d : Dat} (h : ds[j]? = some d) (k : Int) :
    (Dat.markL k (ds.take j) ++ ds.drop j).set j (d.mark (k + 3 * (Dat.countL (ds.take j) : Int))) = Dat.markL k (ds.take (j + 1)) ++ ds.drop (j + 1) := by
  obtain ⟨hj, rfl⟩ := List.getElem?_eq_some_iff.1 h
  have hl : (Dat.markL k (ds.take j)).length = j := by rw [Dat.markL_length]; simp; omega
  rw [List.set_append, hl, if_neg (by omega), Nat.sub_self, List.drop_eq_getElem_cons hj, List.set_cons_zero, Dat.markL_take h k]
  simp
theorem Dat.mark_at {ds : List Dat} {j : Nat} (k : Int) (hj : j < ds.length) : (Dat.markL k (ds.take j) ++ ds.drop j)[j]? = ds[j]? := by
  have hl : (Dat.markL k (ds.take j)).length = j := by rw [Dat.markL_length]; simp; omega
  rw [List.getElem?_append_right (by omega), hl, Nat.sub_self, List.getElem?_drop]; simp

end Go.Proofs.YtghbnehocggnnaaDoor

/-
  Marking numbers and texts, in ranges. No condition.
-/
set_option linter.unusedVariables false
namespace Go.Proofs.YtghbnehocggnnaaDoor
open Go.RowKit
theorem eqIntS_same (a : Option Addr) (cap : Nat) (l : List Int) (a2 : Option Addr) (cap2 : Nat) (w : World) (h : (M.sl a cap 1 3 (intM l)).In w) (h2 : (M.sl a2 cap2 1 3 (intM l)).In w) :
    Calls Tryd.prog 24 #[.slice a l.length cap, .slice a2 l.length cap2] w (Ret (.bool true) w) := by
  have := eqIntS_calls a cap l a2 cap2 l w h h2
  rwa [(eqL_iff l l).2 rfl] at this
end Go.Proofs.YtghbnehocggnnaaDoor

/-
  Walks: marked data are held; marking and holding of a datum. No condition.
-/
set_option linter.unusedVariables false
set_option linter.unusedSimpArgs false
set_option maxRecDepth 100000
namespace Go.Proofs.YtghbnehocggnnaaDoor
open Go.RowKit

theorem Dat.markL_get {ds : List Dat} {j : Nat} {d : Dat} (h : ds[j]? = some d) (k : Int) : (Dat.markL k ds)[j]? = some (d.mark (k + 3 * (Dat.countL (ds.take j) : Int))) := by
  obtain ⟨hj, rfl⟩ := List.getElem?_eq_some_iff.1 h
  conv => lhs; rw [← List.take_append_drop j ds, List.drop_eq_getElem_cons hj, Dat.markL_append]
  have hl : (Dat.markL k (ds.take j)).length = j := by rw [Dat.markL_length]; simp; omega
  rw [List.getElem?_append_right (by omega), hl, Nat.sub_self]; rfl

end Go.Proofs.YtghbnehocggnnaaDoor

/-
  Walks: BooleanDatum. No condition.
-/
set_option linter.unusedVariables false
set_option linter.unusedSimpArgs false
set_option maxRecDepth 100000
namespace Go.Proofs.YtghbnehocggnnaaDoor
open Go.RowKit
def bnum (b : Bool) : Int := if b = true then 1 else 0
theorem sBooleanDatum_calls (b : Bool) (w : World) : Calls Tryd.prog 62 #[.bool b] w (RetDat 40 (.mk 3 (bnum b) ⟨#[]⟩ []) w) := by
  cases b with
  | true =>
    go_enter Tryd.func62, Tryd.ntmps62
    go_wp2_with fail
    refine bodyPost_ret (v := .agg #[.int .i64 3, .int .i64 1, .string ⟨#[]⟩, .slice none 0 0]) (by simp [results, Tryd.results62, go_sem]) rfl ?_
    exact ⟨none, 0, [], rfl, rfl, M.Mine.nil _ _ _ _ (by decide), by (repeat (first | with_reducible assumption | with_reducible exact Below.refl _ _ | with_reducible refine Below.drew ?_ | with_reducible refine belowDrewN ?_ _ | ((with_reducible refine Below.setCell ?_ ?_ _); rotate_left; focus (first | omega | (simp; done) | (simp; omega))) | ((with_reducible refine Below.alloc ?_ ?_ _); rotate_left; focus (first | omega | (simp; done) | (simp; omega)))))⟩
  | false =>
    go_enter Tryd.func62, Tryd.ntmps62
    go_wp2_with fail
    refine bodyPost_ret (v := .agg #[.int .i64 3, .int .i64 0, .string ⟨#[]⟩, .slice none 0 0]) (by simp [results, Tryd.results62, go_sem]) rfl ?_
    exact ⟨none, 0, [], rfl, rfl, M.Mine.nil _ _ _ _ (by decide), by (repeat (first | with_reducible assumption | with_reducible exact Below.refl _ _ | with_reducible refine Below.drew ?_ | with_reducible refine belowDrewN ?_ _ | ((with_reducible refine Below.setCell ?_ ?_ _); rotate_left; focus (first | omega | (simp; done) | (simp; omega))) | ((with_reducible refine Below.alloc ?_ ?_ _); rotate_left; focus (first | omega | (simp; done) | (simp; omega)))))⟩
end Go.Proofs.YtghbnehocggnnaaDoor

/-
  Walks: data drawn. No condition.
-/
set_option linter.unusedVariables false
set_option linter.unusedSimpArgs false
set_option maxRecDepth 100000
namespace Go.Proofs.YtghbnehocggnnaaDoor
open Go.RowKit

/-- a new datum's cells at block b -/
structure Zero (b : Nat) (w : World) : Prop where
  c0 : w.cell? ⟨b, 0, none⟩ = some (.int .i64 0)
  c1 : w.cell? ⟨b, 1, none⟩ = some (.int .i64 0)
  c2 : w.cell? ⟨b, 2, none⟩ = some (.string ⟨#[]⟩)
  c3 : w.cell? ⟨b, 3, none⟩ = some (.slice none 0 0)
  f0 : w.frozen? ⟨b, 0, none⟩ = false
  f1 : w.frozen? ⟨b, 1, none⟩ = false
  f2 : w.frozen? ⟨b, 2, none⟩ = false
  f3 : w.frozen? ⟨b, 3, none⟩ = false
theorem Zero.lt {b : Nat} {w : World} (h : Zero b w) : b < w.heap.size := World.block_lt_of_cell? w _ h.c0
theorem Zero.of {b : Nat} {w w' : World} (h : Zero b w) (hk : w'.heap[b]? = w.heap[b]?) : Zero b w' :=
  ⟨(World.cell?_of_block hk).trans h.c0, (World.cell?_of_block hk).trans h.c1, (World.cell?_of_block hk).trans h.c2, (World.cell?_of_block hk).trans h.c3,
   (World.frozen?_of_block hk).trans h.f0, (World.frozen?_of_block hk).trans h.f1, (World.frozen?_of_block hk).trans h.f2, (World.frozen?_of_block hk).trans h.f3⟩
theorem Zero.only {b lo hi : Nat} {w w' : World} (h : Zero b w) (k : OnlyIn lo hi w w') (hb : b < lo ∨ hi ≤ b) : Zero b w' := h.of (k.block b h.lt hb)
theorem Zero.below {b B : Nat} {w w' : World} (h : Zero b w) (k : Below B w w') (hb : b < B) : Zero b w' := h.of (k.block b hb)
theorem Zero.new (w : World) : Zero w.heap.size (w.alloc (.cells #[.int .i64 0, .int .i64 0, .string ⟨#[]⟩, .slice none 0 0] 40)) := by
  constructor <;> simp [go_sem]

def textsB : List Value → Bool
  | [] => true
  | .string s :: r => decide (s.size ≤ 100) && textsB r
  | _ => false
theorem Texts.of {cs : Array Value} (h : textsB cs.toList = true) : Texts cs := by
  unfold Texts
  generalize cs.toList = l at *
  induction l with
  | nil => simp
  | cons x r ih =>
    cases x with
    | string s =>
      simp only [textsB, Bool.and_eq_true, decide_eq_true_eq] at h
      intro v hv
      rcases List.mem_cons.1 hv with rfl | hv
      · exact ⟨s, rfl, h.1⟩
      · exact ih h.2 v hv
    | _ => simp [textsB] at h
def numsB : List Value → Bool
  | [] => true
  | .int .i64 s :: r => decide (-9223372036854775808 ≤ s ∧ s ≤ 9223372036854775807) && numsB r
  | _ => false
theorem Nums.of {cs : Array Value} (h : numsB cs.toList = true) : Nums cs := by
  unfold Nums
  generalize cs.toList = l at *
  induction l with
  | nil => simp
  | cons x r ih =>
    cases x with
    | int k s =>
      cases k with
      | i64 =>
        simp only [numsB, Bool.and_eq_true, decide_eq_true_eq] at h
        intro v hv
        rcases List.mem_cons.1 hv with rfl | hv
        · exact ⟨s, rfl, h.1⟩
        · exact ih h.2 v hv
      | _ => simp [numsB] at h
    | _ => simp [numsB] at h

/-- a datum without items made -/
def RetLeaf (w : World) (e : Ending) (w' : World) : Prop :=
  ∃ (k n : Int) (s : ByteArray) (a : Option Addr) (cap : Nat) (ms : List M), e = .returned (.agg #[.int .i64 k, .int .i64 n, .string s, .slice a ms.length cap]) ∧ Dat.IsL 40 [] ms ∧ (M.sl a cap 4 40 ms).Mine w' w.heap.size ∧ (Dat.mk k n s []).wf ∧ Below w.heap.size w w'
theorem onlyS_size (b : Bool) (s : ByteArray) : (onlyS b s).size ≤ s.size := by unfold onlyS; split; exact Nat.le_refl _; exact Nat.zero_le _
theorem onlyN_I64 (b : Bool) {n : Int} (h : I64 n) : I64 (onlyN b n) := by unfold onlyN; split; exact h; (unfold I64; omega)
theorem leafSym (s : ByteArray) (w : World) (hs : s.size ≤ 100) : Calls Tryd.prog 59 #[.string s] w (RetLeaf w) := by
  refine (sSymbolDatum_calls s _ (by omega)).mono ?_
  rintro e w' ⟨a, cap, ms, rfl, hi, hm, hb⟩
  exact ⟨_, _, _, a, cap, ms, rfl, hi, hm, ⟨onlyN_I64 _ (by unfold I64; omega), by show I64 0; unfold I64; omega, Nat.le_trans (onlyS_size _ _) (by omega), trivial⟩, hb⟩
theorem leafStr (s : ByteArray) (w : World) (hs : s.size ≤ 100) : Calls Tryd.prog 63 #[.string s] w (RetLeaf w) := by
  refine (sStringDatum_calls s _ (by omega)).mono ?_
  rintro e w' ⟨a, cap, ms, rfl, hi, hm, hb⟩
  exact ⟨_, _, _, a, cap, ms, rfl, hi, hm, ⟨onlyN_I64 _ (by unfold I64; omega), by show I64 0; unfold I64; omega, Nat.le_trans (onlyS_size _ _) (by omega), trivial⟩, hb⟩
theorem leafNum (n : Int) (w : World) (hn : I64 n) : Calls Tryd.prog 60 #[.int .i64 n] w (RetLeaf w) := by
  refine (sNumberDatum_calls n _).mono ?_
  rintro e w' ⟨a, cap, ms, rfl, hi, hm, hb⟩
  exact ⟨_, _, _, a, cap, ms, rfl, hi, hm, ⟨onlyN_I64 _ (by unfold I64; omega), onlyN_I64 _ hn, by show (ByteArray.mk #[]).size ≤ _; decide, trivial⟩, hb⟩
theorem leafBool (b : Bool) (w : World) : Calls Tryd.prog 62 #[.bool b] w (RetLeaf w) := by
  refine (sBooleanDatum_calls b _).mono ?_
  rintro e w' ⟨a, cap, ms, rfl, hi, hm, hb⟩
  exact ⟨_, _, _, a, cap, ms, rfl, hi, hm, ⟨by show I64 3; unfold I64; omega, by show I64 (bnum b); unfold bnum I64; split <;> omega, by show (ByteArray.mk #[]).size ≤ _; decide, trivial⟩, hb⟩
/-- a datum drawn, of at most B nodes -/
def DrawnD (B : Nat) (pb : Nat) (a : Option Addr) (cap : Nat) (l : List Int) (w : World) (e : Ending) (w' : World) : Prop :=
  ∃ (k n : Int) (s : ByteArray) (ds : List Dat) (a' : Option Addr) (cap' : Nat) (ms : List M), e = .returned (.agg #[.int .i64 k, .int .i64 n, .string s, .slice a' ms.length cap']) ∧ Dat.IsL 40 ds ms ∧ (M.sl a' cap' 4 40 ms).Mine w' w.heap.size ∧ (Dat.mk k n s ds).wf ∧ 1 + Dat.countL ds ≤ B ∧ Cur pb a cap l w' ∧ OnlyIn pb (pb + 1) w w'
def nB : Nat → Nat
  | 0 => 1
  | d + 1 => 1 + 4 * nB d
theorem nB_pos (d : Nat) : 1 ≤ nB d := by cases d <;> simp [nB]
end Go.Proofs.YtghbnehocggnnaaDoor

/-
  Walks: the datum of a run of bytes, both sides. Conditions: the library's table of powers of ten reads as laid, strconv.ErrSyntax holds an error (the program's side).
-/
set_option linter.unusedVariables false
set_option linter.unusedSimpArgs false
set_option maxRecDepth 100000
namespace Go.Proofs.YtghbnehocggnnaaDoor
open Go.RowKit

def atomV : Option Dat → Value
  | some d => .tuple #[.agg #[.int .i64 d.k, .int .i64 d.n, .string d.s, .slice none 0 0], .bool true]
  | none => .tuple #[.agg #[.int .i64 0, .int .i64 0, .string ⟨#[]⟩, .slice none 0 0], .bool false]
theorem atomD_some {s : ByteArray} {n : Int} (h : numOf s.data.toList = some n) : atomD s = some (.mk 2 n ⟨#[]⟩ []) := by unfold atomD; rw [h]
theorem atomD_isSym {s : ByteArray} (h : isSymB s = true) : atomD s = some (.mk 1 0 s []) := atomD_sym h
theorem atomD_none {s : ByteArray} (h : numOf s.data.toList = none) (h1 : ¬ s = ⟨#[35, 116]⟩) (h2 : ¬ s = ⟨#[35, 102]⟩) (h3 : isSymB s = false) : atomD s = none := by
  unfold atomD; rw [h]
  have e1 : ¬ s.data.toList = [35, 116] := fun e => h1 (by apply ByteArray.ext; exact Array.toList_inj.mp e)
  have e2 : ¬ s.data.toList = [35, 102] := fun e => h2 (by apply ByteArray.ext; exact Array.toList_inj.mp e)
  simp only [if_neg e1, if_neg e2, h3]
  rfl
theorem num_tr : numOf (⟨#[35, 116]⟩ : ByteArray).data.toList = none := num_nohash [116]
theorem num_fa : numOf (⟨#[35, 102]⟩ : ByteArray).data.toList = none := num_nohash [102]
theorem ba_tr {s : ByteArray} (h : ¬ s = ⟨#[35, 116]⟩) : (s.toList == [35, 116]) = false := by
  have := ba_ne h
  rwa [show (⟨#[35, 116]⟩ : ByteArray).toList = [35, 116] by rw [ByteArray.toList_eq]] at this
theorem ba_fa {s : ByteArray} (h : ¬ s = ⟨#[35, 102]⟩) : (s.toList == [35, 102]) = false := by
  have := ba_ne h
  rwa [show (⟨#[35, 102]⟩ : ByteArray).toList = [35, 102] by rw [ByteArray.toList_eq]] at this
set_option maxHeartbeats 1000000 in
theorem iAtomOf_calls (s : ByteArray) (w : World) (hs : s.size ≤ 9223372036854775807) (B : Nat) (hT : Tab B w) (hE : Sent B w) (hBw : B ≤ w.heap.size) :
    Calls Tryd.prog 54 #[.string s] w (Ret (atomV (atomD s)) w) := by
  have hzb := Zero.new w
  have hT1 := hT.on (w' := w.alloc (.cells #[.int .i64 0, .int .i64 0, .string ⟨#[]⟩, .slice none 0 0] 40)) (by (repeat (first | with_reducible assumption | with_reducible exact Below.refl _ _ | with_reducible refine Below.drew ?_ | with_reducible refine belowDrewN ?_ _ | ((with_reducible refine Below.setCell ?_ ?_ _); rotate_left; focus (first | omega | (simp; done) | (simp; omega))) | ((with_reducible refine Below.alloc ?_ ?_ _); rotate_left; focus (first | omega | (simp; done) | (simp; omega))))))
  have hE1 := hE.on (w' := w.alloc (.cells #[.int .i64 0, .int .i64 0, .string ⟨#[]⟩, .slice none 0 0] 40)) (by (repeat (first | with_reducible assumption | with_reducible exact Below.refl _ _ | with_reducible refine Below.drew ?_ | with_reducible refine belowDrewN ?_ _ | ((with_reducible refine Below.setCell ?_ ?_ _); rotate_left; focus (first | omega | (simp; done) | (simp; omega))) | ((with_reducible refine Below.alloc ?_ ?_ _); rotate_left; focus (first | omega | (simp; done) | (simp; omega))))))
  have HT := Lib.hid hT; clear hT; have HE := Lib.hid hE; clear hE; have HT1 := Lib.hid hT1; clear hT1; have HE1 := Lib.hid hE1; clear hE1
  cases hn : numOf s.data.toList with
  | some n =>
    have ha : atomV (atomD s) = .tuple #[.agg #[.int .i64 2, .int .i64 n, .string ⟨#[]⟩, .slice none 0 0], .bool true] := by rw [atomD_some hn]; rfl
    rw [ha]
    have HA := Lib.hid ha; clear ha; have HZB := Lib.hid hzb; clear hzb
    go_enter Tryd.func54, Tryd.ntmps54
    go_wp2_with fail
    refine (iParseNumber_calls s _ hs B HT1.out HE1.out (by simp; omega)).mono ?_
    rintro e w1 ⟨rfl, hb1⟩
    rw [hn]
    simp only [numV]
    obtain ⟨r0, r1, r2, r3, g0, g1, g2, g3⟩ := HZB.out.below hb1 (by simp)
    have hz1 := hb1.size
    simp only [World.size_alloc] at hz1
    have HN := Lib.hid hn; clear hn
    go_wp2_with fail
    refine bodyPost_ret (v := .tuple #[.agg #[.int .i64 2, .int .i64 n, .string ⟨#[]⟩, .slice none 0 0], .bool true]) (by simp [results, Tryd.results54, go_sem, r0, r1, r2, r3]) rfl ?_
    exact ⟨rfl, by (repeat (first | with_reducible assumption | with_reducible exact Below.refl _ _ | with_reducible refine Below.drew ?_ | with_reducible refine belowDrewN ?_ _ | ((with_reducible refine Below.setCell ?_ ?_ _); rotate_left; focus (first | omega | (simp; done) | (simp; omega))) | ((with_reducible refine Below.alloc ?_ ?_ _); rotate_left; focus (first | omega | (simp; done) | (simp; omega))) | ((with_reducible refine Below.trans ?_ (Below.mono hb1 ?_)); rotate_left; focus (first | omega | (simp; done) | (simp; omega)))))⟩
  | none =>
    by_cases ht : s = ⟨#[35, 116]⟩
    · subst ht
      rw [atomD_tr]
      have HZB := Lib.hid hzb; clear hzb
      go_enter Tryd.func54, Tryd.ntmps54
      go_wp2_with fail
      refine (iParseNumber_calls ⟨#[35, 116]⟩ _ hs B HT1.out HE1.out (by simp; omega)).mono ?_
      rintro e w1 ⟨rfl, hb1⟩
      rw [num_tr]
      simp only [numV]
      obtain ⟨r0, r1, r2, r3, g0, g1, g2, g3⟩ := HZB.out.below hb1 (by simp)
      have hz1 := hb1.size
      simp only [World.size_alloc] at hz1
      have HN := Lib.hid hn; clear hn
      go_wp2_with fail
      refine bodyPost_ret (v := .tuple #[.agg #[.int .i64 3, .int .i64 1, .string ⟨#[]⟩, .slice none 0 0], .bool true]) (by simp [results, Tryd.results54, go_sem, r0, r1, r2, r3]) rfl ?_
      exact ⟨rfl, by (repeat (first | with_reducible assumption | with_reducible exact Below.refl _ _ | with_reducible refine Below.drew ?_ | with_reducible refine belowDrewN ?_ _ | ((with_reducible refine Below.setCell ?_ ?_ _); rotate_left; focus (first | omega | (simp; done) | (simp; omega))) | ((with_reducible refine Below.alloc ?_ ?_ _); rotate_left; focus (first | omega | (simp; done) | (simp; omega))) | ((with_reducible refine Below.trans ?_ (Below.mono hb1 ?_)); rotate_left; focus (first | omega | (simp; done) | (simp; omega)))))⟩
    by_cases hf : s = ⟨#[35, 102]⟩
    · subst hf
      rw [atomD_fa]
      have HZB := Lib.hid hzb; clear hzb
      go_enter Tryd.func54, Tryd.ntmps54
      go_wp2_with fail
      refine (iParseNumber_calls ⟨#[35, 102]⟩ _ hs B HT1.out HE1.out (by simp; omega)).mono ?_
      rintro e w1 ⟨rfl, hb1⟩
      rw [num_fa]
      simp only [numV]
      obtain ⟨r0, r1, r2, r3, g0, g1, g2, g3⟩ := HZB.out.below hb1 (by simp)
      have hz1 := hb1.size
      simp only [World.size_alloc] at hz1
      have HN := Lib.hid hn; clear hn
      go_wp2_with fail
      refine bodyPost_ret (v := .tuple #[.agg #[.int .i64 3, .int .i64 0, .string ⟨#[]⟩, .slice none 0 0], .bool true]) (by simp [results, Tryd.results54, go_sem, r0, r1, r2, r3]) rfl ?_
      exact ⟨rfl, by (repeat (first | with_reducible assumption | with_reducible exact Below.refl _ _ | with_reducible refine Below.drew ?_ | with_reducible refine belowDrewN ?_ _ | ((with_reducible refine Below.setCell ?_ ?_ _); rotate_left; focus (first | omega | (simp; done) | (simp; omega))) | ((with_reducible refine Below.alloc ?_ ?_ _); rotate_left; focus (first | omega | (simp; done) | (simp; omega))) | ((with_reducible refine Below.trans ?_ (Below.mono hb1 ?_)); rotate_left; focus (first | omega | (simp; done) | (simp; omega)))))⟩
    have hsb1 := ba_tr ht
    have hsb2 := ba_fa hf
    cases hy : isSymB s with
    | true =>
      rw [atomD_isSym hy]
      have HZB := Lib.hid hzb; clear hzb; have HT := Lib.hid ht; clear ht; have HF := Lib.hid hf; clear hf
      go_enter Tryd.func54, Tryd.ntmps54
      go_wp2_with fail
      refine (iParseNumber_calls s _ hs B HT1.out HE1.out (by simp; omega)).mono ?_
      rintro e w1 ⟨rfl, hb1⟩
      rw [hn]
      simp only [numV]
      obtain ⟨r0, r1, r2, r3, g0, g1, g2, g3⟩ := HZB.out.below hb1 (by simp)
      have hz1 := hb1.size
      simp only [World.size_alloc] at hz1
      have HN := Lib.hid hn; clear hn
      go_wp2_with fail
      refine (iIsSymbol_calls s _ hs).mono ?_
      rintro e w2 ⟨rfl, rfl⟩
      rw [hy]
      have HY := Lib.hid hy; clear hy
      go_wp2_with fail
      refine bodyPost_ret (v := .tuple #[.agg #[.int .i64 1, .int .i64 0, .string s, .slice none 0 0], .bool true]) (by simp [results, Tryd.results54, go_sem, r0, r1, r2, r3]) rfl ?_
      exact ⟨rfl, by (repeat (first | with_reducible assumption | with_reducible exact Below.refl _ _ | with_reducible refine Below.drew ?_ | with_reducible refine belowDrewN ?_ _ | ((with_reducible refine Below.setCell ?_ ?_ _); rotate_left; focus (first | omega | (simp; done) | (simp; omega))) | ((with_reducible refine Below.alloc ?_ ?_ _); rotate_left; focus (first | omega | (simp; done) | (simp; omega))) | ((with_reducible refine Below.trans ?_ (Below.mono hb1 ?_)); rotate_left; focus (first | omega | (simp; done) | (simp; omega)))))⟩
    | false =>
      rw [atomD_none hn ht hf hy]
      have HZB := Lib.hid hzb; clear hzb; have HT := Lib.hid ht; clear ht; have HF := Lib.hid hf; clear hf
      go_enter Tryd.func54, Tryd.ntmps54
      go_wp2_with fail
      refine (iParseNumber_calls s _ hs B HT1.out HE1.out (by simp; omega)).mono ?_
      rintro e w1 ⟨rfl, hb1⟩
      rw [hn]
      simp only [numV]
      obtain ⟨r0, r1, r2, r3, g0, g1, g2, g3⟩ := HZB.out.below hb1 (by simp)
      have hz1 := hb1.size
      simp only [World.size_alloc] at hz1
      have HN := Lib.hid hn; clear hn
      go_wp2_with fail
      refine (iIsSymbol_calls s _ hs).mono ?_
      rintro e w2 ⟨rfl, rfl⟩
      rw [hy]
      have HY := Lib.hid hy; clear hy
      go_wp2_with fail
      refine bodyPost_ret (v := .tuple #[.agg #[.int .i64 0, .int .i64 0, .string ⟨#[]⟩, .slice none 0 0], .bool false]) (by simp [results, Tryd.results54, go_sem, r0, r1, r2, r3]) rfl ?_
      exact ⟨rfl, by (repeat (first | with_reducible assumption | with_reducible exact Below.refl _ _ | with_reducible refine Below.drew ?_ | with_reducible refine belowDrewN ?_ _ | ((with_reducible refine Below.setCell ?_ ?_ _); rotate_left; focus (first | omega | (simp; done) | (simp; omega))) | ((with_reducible refine Below.alloc ?_ ?_ _); rotate_left; focus (first | omega | (simp; done) | (simp; omega))) | ((with_reducible refine Below.trans ?_ (Below.mono hb1 ?_)); rotate_left; focus (first | omega | (simp; done) | (simp; omega)))))⟩
/-- what reading one datum leaves, the reference's side: bad tells whether there was none -/
def RdS (pb : Nat) (s : ByteArray) (a : Nat) (w0 w : World) (res : Option (Dat × List UInt8)) (e : Ending) (w' : World) : Prop :=
  ∃ (k n : Int) (t : ByteArray) (ds : List Dat) (sa : Option Addr) (cap : Nat) (ms : List M) (p : Nat) (bad : Bool), e = .returned (.agg #[.int .i64 k, .int .i64 n, .string t, .slice sa ms.length cap]) ∧ Dat.IsL 40 ds ms ∧ (M.sl sa cap 4 40 ms).Mine w' w0.heap.size ∧
    RdAt pb s p (.bool bad) w' ∧ OnlyIn pb (pb + 1) w w' ∧ a ≤ p ∧ p + a ≤ 2 * s.size + 1 ∧ (bad = false → p ≤ s.size ∧ res = some (.mk k n t ds, s.data.toList.drop p)) ∧ (bad = true → res = none)
end Go.Proofs.YtghbnehocggnnaaDoor

/-
  append as one step of a region that draws its order. No condition.
-/
set_option linter.unusedVariables false
namespace Go.Proofs.YtghbnehocggnnaaDoor
open Go.RowKit

theorem step_row {P : Program} (w : World) {ops : Array Oper} {o : Oper} {act : Act} {K : Act → World → Prop} {Q : Exit → Act → World → Prop} {E : Prop} (hgd : o.guard = none) (s x : Operand) (t : TypeId)
    (ho : o.op = .call { callee := .builtin .append, args := #[s, x], argTypes := #[t, t] })
    (e : TypeId) (z : Value) (size bytes : Nat) (ht : P.underlying t = some (.slice e)) (hinfo : (P.info? e).map (fun i => (i.zero, i.size, i.bytes)) = some (some z, size, bytes))
    (hzs : z.cells.size = size) (hsz : 0 < size)
    (base : Nat) (a : Option Addr) (n cap : Nat) (xs : List Value) (hs : act.eval s = .slice a n cap) (hown : w.ownsRow base e size (.slice a n cap) n xs)
    (ao : Option Addr) (m c : Nat) (news : List Value) (hx : act.eval x = .slice ao m c) (hl : news.length = m * size) (hno : ao = none → m = 0 ∧ c = 0)
    (hnews : ∀ ad, ao = some ad → ∀ (j : Nat) u, news[j]? = some u → w.cell? (ad.add j) = some u) (h1 : ∀ u ∈ news, u.oneCell' = true)
    (h63 : n + m ≤ maxLen) (hbytes : (n + m) * bytes ≤ 140737488355328) (hbase : base ≤ w.heap.size)
    (h : ∀ a' cap' w', w'.ownsRow base e size (.slice a' (n + m) cap') (n + m) (xs ++ news) → w.grownBy w' (Value.ownBlock (.slice a n cap)) → (∀ b ∈ addrBlocks a', b ∈ addrBlocks a ∨ w.heap.size ≤ b) →
      K (act.put o.dst (.slice a' (n + m) cap')) w') : if Region.wanted o (yielded ops act.tmps) = true then Oper.wp P o act w K Q else E := by
  have hw : Region.wanted o (yielded ops act.tmps) = true := by simp [Region.wanted, hgd]
  rw [if_pos hw]
  obtain ⟨i, hi, hz, hsize, hby⟩ := info_parts hinfo
  obtain ⟨a', cap', w', hr, h2, h3, h4⟩ := run_append_row (P := P) w base t o.type e i z size bytes ht hi hz hsize hby hzs hsz a n cap xs hown ao m c news hl hno hnews h1 h63 hbytes hbase
  unfold Oper.wp execOp
  simp only [ho, resolve, invoke, builtin, Sem.run_bind, Sem.run_pure, Result.andThen_ok, List.map_toArray, List.map_cons, List.map_nil, hs, hx, hr]
  exact h a' cap' w' h2 h3 h4

theorem step_push {P : Program} {wr w1 : World} {ops : Array Oper} {o : Oper} {act : Act} {K : Act → World → Prop} {Q : Exit → Act → World → Prop} {E : Prop} (hgd : o.guard = none) (s x : Operand) (t : TypeId)
    (ho : o.op = .call { callee := .builtin .append, args := #[s, x], argTypes := #[t, t] })
    (e : TypeId) (z : Value) (size bytes : Nat) (ht : P.underlying t = some (.slice e)) (hinfo : (P.info? e).map (fun i => (i.zero, i.size, i.bytes)) = some (some z, size, bytes))
    (hzs : z.cells.size = size) (hsz : 0 < size)
    (lo : Nat) (a : Option Addr) (cap : Nat) (xs : List M) (hs : act.eval s = .slice a xs.length cap) (hrow : (M.sl a cap size e xs).Mine wr lo) (hlo : lo ≤ wr.heap.size) (hb : Below wr.heap.size wr w1)
    (cs : Array Value) (m : M) (hmc : m.cells = cs.toList) (hml : cs.size = size) (c : Nat) (hm : m.Mine w1 c) (hc : wr.heap.size ≤ c)
    (hx : act.eval x = .slice (some ⟨w1.heap.size, 0, none⟩) 1 1) (h63 : xs.length + 1 ≤ maxLen) (hbytes : (xs.length + 1) * bytes ≤ 140737488355328)
    (h : ∀ a' cap' w', (M.sl a' cap' size e (xs ++ [m])).Mine w' lo → Below lo w1 w' → w1.heap.size ≤ w'.heap.size → (∀ b, b < w1.heap.size → b ∉ addrBlocks a → w'.heap[b]? = w1.heap[b]?) →
      K (act.put o.dst (.slice a' (xs.length + 1) cap')) w') : if Region.wanted o (yielded ops act.tmps) = true then Oper.wp P o act (w1.alloc (.cells cs e)) K Q else E := by
  have hsz1 := hb.size
  have hrw : (M.sl a cap size e xs).Mine (w1.alloc (.cells cs e)) lo := by
    refine M.Mine.keep hrow fun b h1 h2 => ?_
    rw [heapNew _ _ _ (by omega), hb.block b h2]
  have hmw : m.Mine (w1.alloc (.cells cs e)) lo := by
    refine M.Mine.mono (M.Mine.keep hm fun b h1 h2 => ?_) (by omega)
    rw [heapNew _ _ _ h2]
  have hlen : m.cells.length = size := by rw [hmc]; simpa using hml
  refine step_row _ hgd s x t ho e z size bytes ht hinfo hzs hsz lo a xs.length cap (M.cellsL xs) hs hrw.own.1.1 _ 1 1 m.cells hx (by omega) (by simp) ?_ ?_ h63 hbytes (by simp; omega) ?_
  · intro ad had j u hu
    obtain rfl := Option.some.inj had
    rw [addr_add, Nat.zero_add, World.cell?_alloc_new]
    rw [hmc] at hu
    simpa using hu
  · exact M.Own.one m hmw.own
  · intro a' cap' w' hr hg ha
    have hY : M.MineL (w1.alloc (.cells cs e)) lo [m] := ⟨⟨hmw.own, trivial⟩, by simpa [M.blocksL] using hmw.dup⟩
    have hp := M.Mine.push (ys := [m]) hrw (by simpa [M.cellsL] using hr) hg ha hY (by simpa using hlen) (fun b hb' => by
      have h1 := hm.lt b (by simpa [M.blocksL] using hb')
      have h2 : ∀ b' ∈ (M.sl a cap size e xs).blocks, b' < wr.heap.size := fun b' hb' => (hrow.lt b' hb').2
      exact ⟨fun hn => by have := h2 b (by simp [M.blocks, hn]); omega, fun hn => by have := h2 b (by simp [M.blocks, hn]); omega⟩)
    have hkeep : ∀ b, b < w1.heap.size → b ∉ addrBlocks a → w'.heap[b]? = w1.heap[b]? := fun b hb1 hn => by
      rw [hg.block b (by simp; omega) (fun he => hn (addrBlocks_own.1 he.symm)), heapNew _ _ _ hb1]
    have hgs := hg.size
    refine h a' cap' w' hp ?_ ?_ hkeep
    · have := grownBy_below (lo := lo) hg (B := lo) (by simp; omega) fun b hb => (Mine.addr_lo hrow b hb).1
      exact ⟨this.os, this.tape, this.output, by simp at hgs; omega, fun k hk => by rw [this.block k hk, heapNew _ _ _ (by omega)]⟩
    · simp at hgs; omega
end Go.Proofs.YtghbnehocggnnaaDoor

/-
  append of one element after a call that changed other cells. No condition.
-/
set_option linter.unusedVariables false
namespace Go.Proofs.YtghbnehocggnnaaDoor
open Go.RowKit

theorem step_push3 {P : Program} {wr w1 : World} {ops : Array Oper} {o : Oper} {act : Act} {K : Act → World → Prop} {Q : Exit → Act → World → Prop} {E : Prop} (hgd : o.guard = none) (s x : Operand) (t : TypeId)
    (ho : o.op = .call { callee := .builtin .append, args := #[s, x], argTypes := #[t, t] })
    (e : TypeId) (z : Value) (size bytes : Nat) (ht : P.underlying t = some (.slice e)) (hinfo : (P.info? e).map (fun i => (i.zero, i.size, i.bytes)) = some (some z, size, bytes))
    (hzs : z.cells.size = size) (hsz : 0 < size)
    (lo : Nat) (a : Option Addr) (cap : Nat) (xs : List M) (hs : act.eval s = .slice a xs.length cap) (hrow : (M.sl a cap size e xs).Mine wr lo) (hlo : lo ≤ wr.heap.size) (hsz1 : wr.heap.size ≤ w1.heap.size) (hk : ∀ b, lo ≤ b → b < wr.heap.size → w1.heap[b]? = wr.heap[b]?)
    (cs : Array Value) (m : M) (hmc : m.cells = cs.toList) (hml : cs.size = size) (c : Nat) (hm : m.Mine w1 c) (hc : wr.heap.size ≤ c)
    (hx : act.eval x = .slice (some ⟨w1.heap.size, 0, none⟩) 1 1) (h63 : xs.length + 1 ≤ maxLen) (hbytes : (xs.length + 1) * bytes ≤ 140737488355328)
    (h : ∀ a' cap' w', (M.sl a' cap' size e (xs ++ [m])).Mine w' lo → Below lo w1 w' → w1.heap.size ≤ w'.heap.size → (∀ b, b < w1.heap.size → b ∉ addrBlocks a → w'.heap[b]? = w1.heap[b]?) →
      K (act.put o.dst (.slice a' (xs.length + 1) cap')) w') : if Region.wanted o (yielded ops act.tmps) = true then Oper.wp P o act (w1.alloc (.cells cs e)) K Q else E := by
  have hrw : (M.sl a cap size e xs).Mine (w1.alloc (.cells cs e)) lo := by
    refine M.Mine.keep hrow fun b h1 h2 => ?_
    rw [heapNew _ _ _ (by omega), hk b h1 h2]
  have hmw : m.Mine (w1.alloc (.cells cs e)) lo := by
    refine M.Mine.mono (M.Mine.keep hm fun b h1 h2 => ?_) (by omega)
    rw [heapNew _ _ _ h2]
  have hlen : m.cells.length = size := by rw [hmc]; simpa using hml
  refine step_row _ hgd s x t ho e z size bytes ht hinfo hzs hsz lo a xs.length cap (M.cellsL xs) hs hrw.own.1.1 _ 1 1 m.cells hx (by omega) (by simp) ?_ ?_ h63 hbytes (by simp; omega) ?_
  · intro ad had j u hu
    obtain rfl := Option.some.inj had
    rw [addr_add, Nat.zero_add, World.cell?_alloc_new]
    rw [hmc] at hu
    simpa using hu
  · exact M.Own.one m hmw.own
  · intro a' cap' w' hr hg ha
    have hY : M.MineL (w1.alloc (.cells cs e)) lo [m] := ⟨⟨hmw.own, trivial⟩, by simpa [M.blocksL] using hmw.dup⟩
    have hp := M.Mine.push (ys := [m]) hrw (by simpa [M.cellsL] using hr) hg ha hY (by simpa using hlen) (fun b hb' => by
      have h1 := hm.lt b (by simpa [M.blocksL] using hb')
      have h2 : ∀ b' ∈ (M.sl a cap size e xs).blocks, b' < wr.heap.size := fun b' hb' => (hrow.lt b' hb').2
      exact ⟨fun hn => by have := h2 b (by simp [M.blocks, hn]); omega, fun hn => by have := h2 b (by simp [M.blocks, hn]); omega⟩)
    have hkeep : ∀ b, b < w1.heap.size → b ∉ addrBlocks a → w'.heap[b]? = w1.heap[b]? := fun b hb1 hn => by
      rw [hg.block b (by simp; omega) (fun he => hn (addrBlocks_own.1 he.symm)), heapNew _ _ _ hb1]
    have hgs := hg.size
    refine h a' cap' w' hp ?_ ?_ hkeep
    · have := grownBy_below (lo := lo) hg (B := lo) (by simp; omega) fun b hb => (Mine.addr_lo hrow b hb).1
      exact ⟨this.os, this.tape, this.output, by simp at hgs; omega, fun k hk => by rw [this.block k hk, heapNew _ _ _ (by omega)]⟩
    · simp at hgs; omega
end Go.Proofs.YtghbnehocggnnaaDoor

/-
  append of one element, told with where the new row lies. No condition.
-/
set_option linter.unusedVariables false
namespace Go.Proofs.YtghbnehocggnnaaDoor
open Go.RowKit

theorem wpList_push2 {P : Program} {wr w1 : World} {ops : Array Oper} {rest : List Oper} {o : Oper} {act : Act} {Q : Exit → Act → World → Prop} (hgd : o.guard = none) (s x : Operand) (t : TypeId)
    (ho : o.op = .call { callee := .builtin .append, args := #[s, x], argTypes := #[t, t] })
    (e : TypeId) (z : Value) (size bytes : Nat) (ht : P.underlying t = some (.slice e)) (hinfo : (P.info? e).map (fun i => (i.zero, i.size, i.bytes)) = some (some z, size, bytes))
    (hzs : z.cells.size = size) (hsz : 0 < size)
    (lo : Nat) (a : Option Addr) (cap : Nat) (xs : List M) (hs : act.eval s = .slice a xs.length cap) (hrow : (M.sl a cap size e xs).Mine wr lo) (hlo : lo ≤ wr.heap.size) (hb : Below wr.heap.size wr w1)
    (cs : Array Value) (m : M) (hmc : m.cells = cs.toList) (hml : cs.size = size) (c : Nat) (hm : m.Mine w1 c) (hc : wr.heap.size ≤ c)
    (hx : act.eval x = .slice (some ⟨w1.heap.size, 0, none⟩) 1 1) (h63 : xs.length + 1 ≤ maxLen) (hbytes : (xs.length + 1) * bytes ≤ 140737488355328)
    (h : ∀ a' cap' w', (M.sl a' cap' size e (xs ++ [m])).Mine w' lo → Below lo w1 w' → w1.heap.size ≤ w'.heap.size → (∀ b, b < w1.heap.size → b ∉ addrBlocks a → w'.heap[b]? = w1.heap[b]?) →
      (∀ b ∈ addrBlocks a', b ∈ addrBlocks a ∨ w1.heap.size ≤ b) → wpList P ops Q rest (act.put o.dst (.slice a' (xs.length + 1) cap')) w') : wpList P ops Q (o :: rest) act (w1.alloc (.cells cs e)) := by
  have hsz1 := hb.size
  have hrw : (M.sl a cap size e xs).Mine (w1.alloc (.cells cs e)) lo := by
    refine M.Mine.keep hrow fun b h1 h2 => ?_
    rw [heapNew _ _ _ (by omega), hb.block b h2]
  have hmw : m.Mine (w1.alloc (.cells cs e)) lo := by
    refine M.Mine.mono (M.Mine.keep hm fun b h1 h2 => ?_) (by omega)
    rw [heapNew _ _ _ h2]
  have hlen : m.cells.length = size := by rw [hmc]; simpa using hml
  refine wpList_row _ hgd s x t ho e z size bytes ht hinfo hzs hsz lo a xs.length cap (M.cellsL xs) hs hrw.own.1.1 _ 1 1 m.cells hx (by omega) (by simp) ?_ ?_ h63 hbytes (by simp; omega) ?_
  · intro ad had j u hu
    obtain rfl := Option.some.inj had
    rw [addr_add, Nat.zero_add, World.cell?_alloc_new]
    rw [hmc] at hu
    simpa using hu
  · exact M.Own.one m hmw.own
  · intro a' cap' w' hr hg ha
    have hY : M.MineL (w1.alloc (.cells cs e)) lo [m] := ⟨⟨hmw.own, trivial⟩, by simpa [M.blocksL] using hmw.dup⟩
    have hp := M.Mine.push (ys := [m]) hrw (by simpa [M.cellsL] using hr) hg ha hY (by simpa using hlen) (fun b hb' => by
      have h1 := hm.lt b (by simpa [M.blocksL] using hb')
      have h2 : ∀ b' ∈ (M.sl a cap size e xs).blocks, b' < wr.heap.size := fun b' hb' => (hrow.lt b' hb').2
      exact ⟨fun hn => by have := h2 b (by simp [M.blocks, hn]); omega, fun hn => by have := h2 b (by simp [M.blocks, hn]); omega⟩)
    have hkeep : ∀ b, b < w1.heap.size → b ∉ addrBlocks a → w'.heap[b]? = w1.heap[b]? := fun b hb1 hn => by
      rw [hg.block b (by simp; omega) (fun he => hn (addrBlocks_own.1 he.symm)), heapNew _ _ _ hb1]
    have hgs := hg.size
    simp only [World.size_alloc] at hgs
    refine h a' cap' w' hp ⟨hg.os, hg.tape, hg.output, by omega, fun k hk => hkeep k (by omega) fun hn => ?_⟩ (by omega) hkeep (fun b hb => (ha b hb).imp id fun h => by simp at h; omega)
    have := (Mine.addr_lo hrow k hn).1
    omega
theorem At_keep {m : M} {lo hi : Nat} {w w' : World} (h : m.At lo hi w) (hs : w.heap.size ≤ w'.heap.size) (hk : ∀ b, lo ≤ b → b < hi → w'.heap[b]? = w.heap[b]?) : m.At lo hi w' :=
  ⟨⟨M.Own.frame m h.mine.own fun b hb => hk b (h.mine.lt b hb).1 (h.lt b hb), h.mine.dup⟩, h.lt, Nat.le_trans h.hi hs⟩
end Go.Proofs.YtghbnehocggnnaaDoor

/-
  Walks: one datum read, the program's side. Conditions: the library's table of powers of ten reads as laid, strconv.ErrSyntax holds an error.
-/
set_option linter.unusedVariables false
set_option linter.unusedSimpArgs false
set_option maxRecDepth 100000
namespace Go.Proofs.YtghbnehocggnnaaDoor
open Go.RowKit

theorem wpList_push3 {P : Program} {wr w1 : World} {ops : Array Oper} {rest : List Oper} {o : Oper} {act : Act} {Q : Exit → Act → World → Prop} (hgd : o.guard = none) (s x : Operand) (t : TypeId)
    (ho : o.op = .call { callee := .builtin .append, args := #[s, x], argTypes := #[t, t] })
    (e : TypeId) (z : Value) (size bytes : Nat) (ht : P.underlying t = some (.slice e)) (hinfo : (P.info? e).map (fun i => (i.zero, i.size, i.bytes)) = some (some z, size, bytes))
    (hzs : z.cells.size = size) (hsz : 0 < size)
    (lo : Nat) (a : Option Addr) (cap : Nat) (xs : List M) (hs : act.eval s = .slice a xs.length cap) (hrow : (M.sl a cap size e xs).Mine wr lo) (hlo : lo ≤ wr.heap.size) (hsz1 : wr.heap.size ≤ w1.heap.size) (hk : ∀ b, lo ≤ b → b < wr.heap.size → w1.heap[b]? = wr.heap[b]?)
    (cs : Array Value) (m : M) (hmc : m.cells = cs.toList) (hml : cs.size = size) (c : Nat) (hm : m.Mine w1 c) (hc : wr.heap.size ≤ c)
    (hx : act.eval x = .slice (some ⟨w1.heap.size, 0, none⟩) 1 1) (h63 : xs.length + 1 ≤ maxLen) (hbytes : (xs.length + 1) * bytes ≤ 140737488355328)
    (h : ∀ a' cap' w', (M.sl a' cap' size e (xs ++ [m])).Mine w' lo → Below lo w1 w' → w1.heap.size ≤ w'.heap.size → (∀ b, b < w1.heap.size → b ∉ addrBlocks a → w'.heap[b]? = w1.heap[b]?) →
      wpList P ops Q rest (act.put o.dst (.slice a' (xs.length + 1) cap')) w') : wpList P ops Q (o :: rest) act (w1.alloc (.cells cs e)) := by
  have hrw : (M.sl a cap size e xs).Mine (w1.alloc (.cells cs e)) lo := by
    refine M.Mine.keep hrow fun b h1 h2 => ?_
    rw [heapNew _ _ _ (by omega), hk b h1 h2]
  have hmw : m.Mine (w1.alloc (.cells cs e)) lo := by
    refine M.Mine.mono (M.Mine.keep hm fun b h1 h2 => ?_) (by omega)
    rw [heapNew _ _ _ h2]
  have hlen : m.cells.length = size := by rw [hmc]; simpa using hml
  refine wpList_row _ hgd s x t ho e z size bytes ht hinfo hzs hsz lo a xs.length cap (M.cellsL xs) hs hrw.own.1.1 _ 1 1 m.cells hx (by omega) (by simp) ?_ ?_ h63 hbytes (by simp; omega) ?_
  · intro ad had j u hu
    obtain rfl := Option.some.inj had
    rw [addr_add, Nat.zero_add, World.cell?_alloc_new]
    rw [hmc] at hu
    simpa using hu
  · exact M.Own.one m hmw.own
  · intro a' cap' w' hr hg ha
    have hY : M.MineL (w1.alloc (.cells cs e)) lo [m] := ⟨⟨hmw.own, trivial⟩, by simpa [M.blocksL] using hmw.dup⟩
    have hp := M.Mine.push (ys := [m]) hrw (by simpa [M.cellsL] using hr) hg ha hY (by simpa using hlen) (fun b hb' => by
      have h1 := hm.lt b (by simpa [M.blocksL] using hb')
      have h2 : ∀ b' ∈ (M.sl a cap size e xs).blocks, b' < wr.heap.size := fun b' hb' => (hrow.lt b' hb').2
      exact ⟨fun hn => by have := h2 b (by simp [M.blocks, hn]); omega, fun hn => by have := h2 b (by simp [M.blocks, hn]); omega⟩)
    have hkeep : ∀ b, b < w1.heap.size → b ∉ addrBlocks a → w'.heap[b]? = w1.heap[b]? := fun b hb1 hn => by
      rw [hg.block b (by simp; omega) (fun he => hn (addrBlocks_own.1 he.symm)), heapNew _ _ _ hb1]
    have hgs := hg.size
    refine h a' cap' w' hp ?_ ?_ hkeep
    · have := grownBy_below (lo := lo) hg (B := lo) (by simp; omega) fun b hb => (Mine.addr_lo hrow b hb).1
      exact ⟨this.os, this.tape, this.output, by simp at hgs; omega, fun k hk => by rw [this.block k hk, heapNew _ _ _ (by omega)]⟩
    · simp at hgs; omega
/-- is there a datum, of no more nodes than are left? -/
def okC (res : Option (Dat × List UInt8)) (c : Nat) : Bool := match res with
  | none => false
  | some x => decide (c + x.1.count ≤ 600)
def listR : Option (List Dat × List UInt8) → Option (Dat × List UInt8)
  | none => none
  | some x => some (.mk 0 0 ⟨#[]⟩ x.1, x.2)
def quoteR : Option (Dat × List UInt8) → Option (Dat × List UInt8)
  | none => none
  | some x => some (.mk 0 0 ⟨#[]⟩ [quoteD, x.1], x.2)
theorem rd_list {l r : List UInt8} (h : skipL l = 40 :: r) : rd l = listR (rdL r) := by
  rw [rd_cons h, if_neg (by decide), if_neg (by decide), if_neg (by decide), if_pos rfl]
  cases rdL r with
  | none => rfl
  | some x => rfl
theorem rd_quote {l r : List UInt8} (h : skipL l = 39 :: r) : rd l = quoteR (rd r) := by
  rw [rd_cons h, if_neg (by decide), if_pos rfl]
  cases rd r with
  | none => rfl
  | some x => rfl
theorem rd_close {l r : List UInt8} (h : skipL l = 41 :: r) : rd l = none := by rw [rd_cons h, if_pos rfl]
theorem rd_str {l r : List UInt8} (h : skipL l = 34 :: r) : rd l = strR r := by rw [rd_cons h, if_neg (by decide), if_neg (by decide), if_pos rfl]
theorem rd_run {l r : List UInt8} {b : UInt8} (h : skipL l = b :: r) (h1 : b ≠ 41) (h2 : b ≠ 39) (h3 : b ≠ 34) (h4 : b ≠ 40) : rd l = atomR (b :: r) := by
  rw [rd_cons h, if_neg h1, if_neg h2, if_neg h3, if_neg h4]
theorem okC_many {res : Option (Dat × List UInt8)} {c : Nat} (h : 600 < c + 1) : okC res c = false := by
  cases res with
  | none => rfl
  | some x => have := x.1.count_pos; simp [okC]; omega
theorem okC_quote (res : Option (Dat × List UInt8)) (c : Nat) : okC (quoteR res) c = okC res (c + 2) := by
  cases res with
  | none => rfl
  | some x => simp only [quoteR, okC, Dat.count, Dat.countL, quoteD]; congr 1; simp; omega
theorem okC_true {d : Dat} {r : List UInt8} {c : Nat} (h : okC (some (d, r)) c = true) : c + d.count ≤ 600 := by simpa [okC] using h
theorem okC_listF {L0 : Option (List Dat × List UInt8)} {acc : List Dat} {l r : List UInt8} {b : UInt8} {c cc : Nat} (hL : L0 = preL acc (rdL l)) (hcc : cc = c + 1 + Dat.countL acc) (hs : skipL l = b :: r) (hb : b ≠ 41) (hf : okC (rd l) cc = false) : okC (listR L0) c = false := by
  subst hL
  cases hr : rd l with
  | none => rw [rdL_bad hs hb hr]; rfl
  | some x =>
    obtain ⟨d, r'⟩ := x
    rw [hr] at hf
    rw [rdL_step hs hb hr]
    cases rdL r' with
    | none => rfl
    | some y =>
      obtain ⟨es, r2⟩ := y
      simp only [okC, decide_eq_false_iff_not, preL, listR, Dat.count, Dat.countL_append, Dat.countL] at hf ⊢
      omega
theorem atomD_parts (T : ByteArray) : ∃ (k n : Int) (t : ByteArray) (ok : Bool), atomV (atomD T) = .tuple #[.agg #[.int .i64 k, .int .i64 n, .string t, .slice none 0 0], .bool ok] ∧ (ok = true → atomD T = some (.mk k n t [])) ∧ (ok = false → atomD T = none) := by
  cases h : atomD T with
  | none => exact ⟨0, 0, ⟨#[]⟩, false, rfl, (fun h => by cases h), fun _ => rfl⟩
  | some d =>
    have hc := (atomD_leaf h).1
    obtain ⟨k, n, t, ds⟩ := d
    cases ds with
    | nil => exact ⟨k, n, t, true, rfl, fun _ => rfl, fun h => by cases h⟩
    | cons x r => have := x.count_pos; simp only [Dat.count, Dat.countL] at hc; omega
/-- what reading one datum leaves, the program's side -/
def RdI (pb : Nat) (s : ByteArray) (a c : Nat) (w0 w : World) (res : Option (Dat × List UInt8)) (e : Ending) (w' : World) : Prop :=
  ∃ (k n : Int) (t : ByteArray) (ds : List Dat) (sa : Option Addr) (cap : Nat) (ms : List M) (p c' : Nat), e = .returned (.tuple #[.agg #[.int .i64 k, .int .i64 n, .string t, .slice sa ms.length cap], .bool (okC res c)]) ∧
    RdAt pb s p (.int .i64 c') w' ∧ OnlyIn pb (pb + 1) w w' ∧ Dat.IsL 40 ds ms ∧ (M.sl sa cap 4 40 ms).Mine w' w0.heap.size ∧ (okC res c = true → res = some (.mk k n t ds, s.data.toList.drop p) ∧ a ≤ p ∧ p ≤ s.size ∧ c' = c + (Dat.mk k n t ds).count)
theorem RdAt.next2 {pb : Nat} {s : ByteArray} {p : Nat} {x : Value} {w : World} (h : RdAt pb s p x w) {c : Nat} {y : Int} (hy : y = (c : Int)) : RdAt pb s p (.int .i64 c) (w.setCell ⟨pb, 2, none⟩ (.int .i64 y)) := by
  subst hy; exact h.set2 _
def DtI (B N : Nat) : Prop := ∀ (pb : Nat) (s : ByteArray) (a c : Nat) (w : World), RdAt pb s a (.int .i64 c) w → s.size ≤ 100000 → a ≤ s.size → s.size - a ≤ N → c ≤ 100000 → B ≤ pb → Tab B w → Sent B w →
    Calls Tryd.prog 29 #[.pointer (some ⟨pb, 0, none⟩)] w (RdI pb s a c w w (rd (s.data.toList.drop a)))
set_option maxHeartbeats 4000000 in
theorem iDatum_calls (B : Nat) : ∀ N, DtI B N := by
  intro N
  induction N using Nat.strongRecOn with
  | _ N ih =>
    intro pb s a c w h hs ha hN hc hBp hT hE
    have hpw := h.lt
    have hzb := Zero.new w
    have h1 : RdAt pb s a (.int .i64 c) (w.alloc (.cells #[.int .i64 0, .int .i64 0, .string ⟨#[]⟩, .slice none 0 0] 40)) := h.below (B := w.heap.size) (by (repeat (first | with_reducible assumption | with_reducible exact Below.refl _ _ | with_reducible refine Below.drew ?_ | with_reducible refine belowDrewN ?_ _ | ((with_reducible refine Below.setCell ?_ ?_ _); rotate_left; focus (first | omega | (simp; done) | (simp; omega))) | ((with_reducible refine Below.alloc ?_ ?_ _); rotate_left; focus (first | omega | (simp; done) | (simp; omega)))))) hpw
    have H := Lib.hid h; clear h; have HZB := Lib.hid hzb; clear hzb; have H1 := Lib.hid h1; clear h1; have HT := Lib.hid hT; clear hT; have HE := Lib.hid hE; clear hE; have IH := Lib.hid ih; clear ih
    go_enter Tryd.func29, Tryd.ntmps29
    go_wp2_with fail
    refine (iSkip_calls pb s a _ _ H1.out (by omega) ha).mono ?_
    rintro e w1 ⟨p, rfl, hsk, hap, hps, hr1, ho1⟩
    have hz1 := ho1.size
    simp only [World.size_alloc] at hz1
    have hzz1 := HZB.out.only ho1 (.inr (by omega))
    have hoo : OnlyIn pb (pb + 1) w w1 := ((OnlyIn.refl _ _ _).new _).trans ho1
    obtain ⟨c0, c1, c2, f1, f2⟩ := id hr1
    clear ho1
    by_cases hlt : p < s.size
    · have hd := drop_at hlt
      by_cases h600 : 600 < c + 1
      · have hok := okC_many (res := rd (s.data.toList.drop a)) h600
        have h600i : 600 < (c : Int) + 1 := by omega
        obtain ⟨r0, r1, r2, r3, g0, g1, g2, g3⟩ := hzz1
        have hr2 := (hr1.next2 (y := (c : Int) + 1) (c := c + 1) (by omega))
        have ho2 := hoo.put 2 (.int .i64 ((c : Int) + 1))
        have HSK := Lib.hid hsk; clear hsk; have HR1 := Lib.hid hr1; clear hr1; have HOO := Lib.hid hoo; clear hoo; have HD := Lib.hid hd; clear hd; have HOK := Lib.hid hok; clear hok; have HR2 := Lib.hid hr2; clear hr2; have HO2 := Lib.hid ho2; clear ho2
        go_wp2_with fail
        go_quiet (fail)
        go_wp2_with fail
        refine bodyPost_ret (v := .tuple #[.agg #[.int .i64 0, .int .i64 0, .string ⟨#[]⟩, .slice none 0 0], .bool false]) (by simp (disch := (first | omega | (simp; done) | (simp; omega))) [results, Tryd.results29, go_sem, r0, r1, r2, r3]) rfl ?_
        refine ⟨0, 0, ⟨#[]⟩, [], none, 0, [], p, c + 1, by rw [HOK.out]; rfl, ?_, ?_, rfl, M.Mine.nil _ _ _ _ (by decide), fun hh => by rw [HOK.out] at hh; cases hh⟩
        · exact (HR2.out.drewN _).below (B := w.heap.size) (by (repeat (first | with_reducible assumption | with_reducible exact Below.refl _ _ | with_reducible refine Below.drew ?_ | with_reducible refine belowDrewN ?_ _ | ((with_reducible refine Below.setCell ?_ ?_ _); rotate_left; focus (first | omega | (simp; done) | (simp; omega))) | ((with_reducible refine Below.alloc ?_ ?_ _); rotate_left; focus (first | omega | (simp; done) | (simp; omega)))))) hpw
        · exact (HO2.out.drewN _).thenBelow (by (repeat (first | with_reducible assumption | with_reducible exact Below.refl _ _ | with_reducible refine Below.drew ?_ | with_reducible refine belowDrewN ?_ _ | ((with_reducible refine Below.setCell ?_ ?_ _); rotate_left; focus (first | omega | (simp; done) | (simp; omega))) | ((with_reducible refine Below.alloc ?_ ?_ _); rotate_left; focus (first | omega | (simp; done) | (simp; omega))))))
      · have h600i : ¬ 600 < (c : Int) + 1 := by omega
        have hs2 : skipL (s.data.toList.drop a) = (s[p]'hlt) :: s.data.toList.drop (p + 1) := hsk.symm.trans hd
        have hr2 := (hr1.next2 (y := (c : Int) + 1) (c := c + 1) (by omega))
        have ho2 := hoo.put 2 (.int .i64 ((c : Int) + 1))
        have hzz2 : Zero w.heap.size (w1.setCell ⟨pb, 2, none⟩ (.int .i64 ((c : Int) + 1))) := hzz1.of (heapSet _ _ _ _ (by simp; omega))
        have e40 : (((s[p]'hlt).toNat : Int) == 40) = (s[p]'hlt == 40) := byteEq _ 40
        have e41 : (((s[p]'hlt).toNat : Int) == 41) = (s[p]'hlt == 41) := byteEq _ 41
        have e39 : (((s[p]'hlt).toNat : Int) == 39) = (s[p]'hlt == 39) := byteEq _ 39
        have e34 : (((s[p]'hlt).toNat : Int) == 34) = (s[p]'hlt == 34) := byteEq _ 34
        generalize hB : s[p]'hlt = b at *
        by_cases h40 : b = 40
        · rw [h40] at hs2
          have y40 : (b == 40) = true := by simp [h40]
          rw [y40] at e40
          have hrd := rd_list hs2
          clear y40 e41 e39 e34
          clear hzz1
          obtain ⟨r0, r1, r2, r3, g0, g1, g2, g3⟩ := id hzz2
          have HSK := Lib.hid hsk; clear hsk; have HR1 := Lib.hid hr1; clear hr1; have HOO := Lib.hid hoo; clear hoo; have HD := Lib.hid hd; clear hd; have HRD := Lib.hid hrd; clear hrd; have HR2 := Lib.hid hr2; clear hr2; have HO2 := Lib.hid ho2; clear ho2; have HS2 := Lib.hid hs2; clear hs2; have H40 := Lib.hid h40; clear h40; have HZZ2 := Lib.hid hzz2; clear hzz2
          go_wp2_with fail
          go_quiet (fail)
          go_wp2_with fail
          go_quiet (fail)
          go_wp2_with fail
          have hdl : decide (s.size ≤ p) = false := by simp; omega
          simp only [hdl, Bool.false_or]
          clear hdl
          go_loopg [4] (s.size - (p + 1)) (fun k t wr => ∃ (j : Nat) (acc : List Dat) (a' : Option Addr) (cap' : Nat) (ms : List M) (cc : Nat), k = s.size - j ∧ t = .slice a' ms.length cap' ∧ Dat.IsL 40 acc ms ∧ (M.sl a' cap' 4 40 ms).Mine wr (w.heap.size + 1) ∧ rdL (s.data.toList.drop (p + 1)) = preL acc (rdL (s.data.toList.drop j)) ∧ p + 1 ≤ j ∧ j ≤ s.size ∧ cc = c + 1 + Dat.countL acc ∧ cc ≤ 600 ∧ RdAt pb s j (.int .i64 (cc : Int)) wr ∧ OnlyIn pb (pb + 1) w wr ∧ Zero w.heap.size wr)
          case atStart => exact ⟨p + 1, [], none, 0, [], c + 1, rfl, rfl, rfl, M.Mine.nil _ _ _ _ (by decide), (preL_nil _).symm, Nat.le_refl _, by omega, by simp [Dat.countL], by omega, (HR2.out.drewN _).move (by omega), (HO2.out.drewN _).put _ _, HZZ2.out.of (by simp (disch := (first | omega | (simp; omega))) only [heapSet, heapDrewN])⟩
          case round =>
            obtain ⟨j, acc, a', cap', ms, cc, rfl, rfl, hi, hm, hL, hpj, hjs, hcc, hc6, hrj, hoj, hzj⟩ := hrel
            clear c0 c1 c2 f1 f2 r0 r1 r2 r3 g0 g1 g2 g3
            have hbw : Below B w wr := hoj.below hBp (by omega)
            have hal := hi.length
            have hac := Dat.length_le acc
            have hzl := hzj.lt
            have HI := Lib.hid hi; clear hi; have HM := Lib.hid hm; clear hm; have HL := Lib.hid hL; clear hL; have HRJ := Lib.hid hrj; clear hrj; have HOJ := Lib.hid hoj; clear hoj; have HZJ := Lib.hid hzj; clear hzj; have HAL := Lib.hid hal; clear hal
            go_wp2_with fail
            refine (iSkip_calls pb s j _ _ HRJ.out (by omega) (by omega)).mono ?_
            rintro e w3 ⟨j1, rfl, hsk3, hj1, hj2, hr3, ho3⟩
            have hz3 := ho3.size
            obtain ⟨c0, c1, c2, f1, f2⟩ := id hr3
            have hzz3 := HZJ.out.only ho3 (.inr (by omega))
            have ho3' := HOJ.out.trans ho3
            obtain ⟨r0, r1, r2, r3, g0, g1, g2, g3⟩ := id hzz3
            by_cases hlj : j1 < s.size
            · have hdj := drop_at hlj
              have ej : (((s[j1]'hlj).toNat : Int) == 41) = (s[j1]'hlj == 41) := byteEq _ 41
              generalize hBj : s[j1]'hlj = bj at *
              have hs3 : skipL (s.data.toList.drop j) = bj :: s.data.toList.drop (j1 + 1) := hsk3.symm.trans hdj
              by_cases hq : bj = 41
              · have yq : (bj == 41) = true := by simp [hq]
                rw [yq] at ej
                have hend : rdL (s.data.toList.drop j) = some ([], s.data.toList.drop (j1 + 1)) := rdL_end (by rw [hs3, hq])
                have hres : rd (s.data.toList.drop a) = some (.mk 0 0 ⟨#[]⟩ acc, s.data.toList.drop (j1 + 1)) := by rw [HRD.out, HL.out, hend]; simp [preL, listR]
                have hok : okC (rd (s.data.toList.drop a)) c = true := by
                  rw [hres]
                  show decide (c + (Dat.mk 0 0 ⟨#[]⟩ acc).count ≤ 600) = true
                  rw [decide_eq_true_eq]
                  simp only [Dat.count]
                  omega
                have hm3 := HM.out.keep (w' := w3) (fun b h1 h2 => ho3.block b h2 (.inr (by omega)))
                clear yq hend
                have HR3 := Lib.hid hr3; clear hr3; have HO3 := Lib.hid ho3; clear ho3; have HO3' := Lib.hid ho3'; clear ho3'; have HZZ3 := Lib.hid hzz3; clear hzz3; have HDJ := Lib.hid hdj; clear hdj; have HQ := Lib.hid hq; clear hq; have HSK3 := Lib.hid hsk3; clear hsk3; have HS3 := Lib.hid hs3; clear hs3; have HRES := Lib.hid hres; clear hres; have HOK := Lib.hid hok; clear hok; have HM3 := Lib.hid hm3; clear hm3
                go_wp2_with fail
                go_quiet (fail)
                go_wp2_with fail
                go_quiet (fail)
                go_wp2_with fail
                refine bodyPost_ret (v := .tuple #[.agg #[.int .i64 0, .int .i64 0, .string ⟨#[]⟩, .slice a' ms.length cap'], .bool true]) (by simp (disch := (first | omega | (simp; done) | (simp; omega))) [results, Tryd.results29, go_sem, r0, r1, r2, r3]) rfl ?_
                refine ⟨0, 0, ⟨#[]⟩, acc, a', cap', ms, j1 + 1, cc, by rw [HOK.out], ?_, ?_, HI.out, ?_, fun _ => ⟨HRES.out, by omega, by omega, by rw [hcc]; simp only [Dat.count]; omega⟩⟩
                · exact ((HR3.out.drewN _).move (y := (j1 : Int) + 1) (by omega)).below (B := w.heap.size) (by (repeat (first | with_reducible assumption | with_reducible exact Below.refl _ _ | with_reducible refine Below.drew ?_ | with_reducible refine belowDrewN ?_ _ | ((with_reducible refine Below.setCell ?_ ?_ _); rotate_left; focus (first | omega | (simp; done) | (simp; omega))) | ((with_reducible refine Below.alloc ?_ ?_ _); rotate_left; focus (first | omega | (simp; done) | (simp; omega)))))) hpw
                · exact ((HO3'.out.drewN _).put 1 (.int .i64 ((j1 : Int) + 1))).thenBelow (by (repeat (first | with_reducible assumption | with_reducible exact Below.refl _ _ | with_reducible refine Below.drew ?_ | with_reducible refine belowDrewN ?_ _ | ((with_reducible refine Below.setCell ?_ ?_ _); rotate_left; focus (first | omega | (simp; done) | (simp; omega))) | ((with_reducible refine Below.alloc ?_ ?_ _); rotate_left; focus (first | omega | (simp; done) | (simp; omega))))))
                · exact M.Mine.mono ⟨M.Own.frame _ HM3.out.own fun b hb' => by have h1_ := HM3.out.lt b hb'; simp (disch := (first | omega | (simp; omega))) only [heapSet, heapDrewN], HM3.out.dup⟩ (by omega)
              · have nq : (bj == 41) = false := by simp [hq]
                rw [nq] at ej
                have hrs : rd (s.data.toList.drop j1) = rd (s.data.toList.drop j) := rd_skip (by rw [hsk3, skipL_idem])
                have hbw3 : ∀ n, Below B w (w3.drewN n) := fun n => (ho3'.drewN n).below hBp (by omega)
                clear nq
                have HR3 := Lib.hid hr3; clear hr3; have HO3 := Lib.hid ho3; clear ho3; have HO3' := Lib.hid ho3'; clear ho3'; have HZZ3 := Lib.hid hzz3; clear hzz3; have HDJ := Lib.hid hdj; clear hdj; have HQ := Lib.hid hq; clear hq; have HSK3 := Lib.hid hsk3; clear hsk3; have HS3 := Lib.hid hs3; clear hs3; have HRS := Lib.hid hrs; clear hrs; have HBW3 := Lib.hid hbw3; clear hbw3
                go_wp2_with fail
                go_quiet (fail)
                go_wp2_with fail
                go_quiet (fail)
                go_wp2_with fail
                refine (IH.out (s.size - j1) (by omega) pb s j1 cc _ (HR3.out.drewN _) (by omega) (by omega) (by omega) (by omega) hBp (HT.out.on (HBW3.out _)) (HE.out.on (HBW3.out _))).mono ?_
                rintro e w4 ⟨k2, n2, t2, ds2, sa2, cap2, ms2, p2, c2', rfl, hr4, ho4, hi4, hm4, hpost⟩
                rw [HRS.out]
                rw [HRS.out] at hpost
                have hz4 := ho4.size
                simp only [sizeDrewN] at hz4 hm4
                have hzz4 := (HZZ3.out.of (w' := w3.drewN _) rfl).only ho4 (.inr (by omega))
                have ho4' := (HO3'.out.drewN _).trans ho4
                clear c0 c1 c2 f1 f2 r0 r1 r2 r3 g0 g1 g2 g3
                obtain ⟨r0, r1, r2, r3, g0, g1, g2, g3⟩ := id hzz4
                have hpw4 : pb < w4.heap.size := by omega
                have hzw4 : w.heap.size < w4.heap.size := by omega
                cases hb : okC (rd (s.data.toList.drop j)) cc with
                | false =>
                  have hok : okC (rd (s.data.toList.drop a)) c = false := by rw [HRD.out]; exact okC_listF HL.out hcc HS3.out HQ.out hb
                  clear hpost
                  have HR4 := Lib.hid hr4; clear hr4; have HO4 := Lib.hid ho4; clear ho4; have HO4' := Lib.hid ho4'; clear ho4'; have HI4 := Lib.hid hi4; clear hi4; have HM4 := Lib.hid hm4; clear hm4; have HZZ4 := Lib.hid hzz4; clear hzz4; have HB := Lib.hid hb; clear hb; have HOK := Lib.hid hok; clear hok
                  go_wp2_with fail
                  refine bodyPost_ret (v := .tuple #[.agg #[.int .i64 0, .int .i64 0, .string ⟨#[]⟩, .slice none 0 0], .bool false]) (by simp (disch := (first | omega | (simp; done) | (simp; omega))) [results, Tryd.results29, go_sem, r0, r1, r2, r3]) rfl ?_
                  refine ⟨0, 0, ⟨#[]⟩, [], none, 0, [], p2, c2', by rw [HOK.out]; rfl, ?_, ?_, rfl, M.Mine.nil _ _ _ _ (by decide), fun hh => by rw [HOK.out] at hh; cases hh⟩
                  · exact HR4.out.below (B := w.heap.size) (by (repeat (first | with_reducible assumption | with_reducible exact Below.refl _ _ | with_reducible refine Below.drew ?_ | with_reducible refine belowDrewN ?_ _ | ((with_reducible refine Below.setCell ?_ ?_ _); rotate_left; focus (first | omega | (simp; done) | (simp; omega))) | ((with_reducible refine Below.alloc ?_ ?_ _); rotate_left; focus (first | omega | (simp; done) | (simp; omega)))))) hpw
                  · exact HO4'.out.thenBelow (by (repeat (first | with_reducible assumption | with_reducible exact Below.refl _ _ | with_reducible refine Below.drew ?_ | with_reducible refine belowDrewN ?_ _ | ((with_reducible refine Below.setCell ?_ ?_ _); rotate_left; focus (first | omega | (simp; done) | (simp; omega))) | ((with_reducible refine Below.alloc ?_ ?_ _); rotate_left; focus (first | omega | (simp; done) | (simp; omega))))))
                | true =>
                  obtain ⟨hres4, hp1, hp2, hc2⟩ := hpost hb
                  have hlt4 : j < p2 := by have := (rd_ok hres4).lt; rw [List.length_drop, List.length_drop] at this; omega
                  have h6 : cc + (Dat.mk k2 n2 t2 ds2).count ≤ 600 := okC_true (hres4 ▸ hb)
                  have hLn : rdL (s.data.toList.drop (p + 1)) = preL (acc ++ [(.mk k2 n2 t2 ds2)]) (rdL (s.data.toList.drop p2)) := by rw [HL.out, rdL_step HS3.out HQ.out hres4, preL_preL]
                  have hcn : c2' = c + 1 + Dat.countL (acc ++ [(.mk k2 n2 t2 ds2)]) := by rw [hc2, hcc, Dat.countL_append]; simp only [Dat.countL]; omega
                  have hrow := HM.out.keep (w' := w4) (fun b h1 h2 => by
                    have e1 := HO3.out.block b h2 (.inr (by omega))
                    have e2 := ho4.block b (by rw [sizeDrewN]; omega) (.inr (by omega))
                    exact e2.trans e1)
                  have hiN : Dat.IsL 40 (acc ++ [(.mk k2 n2 t2 ds2)]) (ms ++ [(M.ag [.c (.int .i64 k2), .c (.int .i64 n2), .c (.string t2), .sl sa2 cap2 4 40 ms2])]) := HI.out.snoc ⟨_, _, _, rfl, hi4⟩
                  have hmA := (Dat.mine (k := k2) (n := n2) (s := t2) hm4).below (w' := w4.alloc (.cells #[.int .i64 k2, .int .i64 n2, .string t2, .slice sa2 ms2.length cap2] 40)) (by (repeat (first | with_reducible assumption | with_reducible exact Below.refl _ _ | with_reducible refine Below.drew ?_ | with_reducible refine belowDrewN ?_ _ | ((with_reducible refine Below.setCell ?_ ?_ _); rotate_left; focus (first | omega | (simp; done) | (simp; omega))) | ((with_reducible refine Below.alloc ?_ ?_ _); rotate_left; focus (first | omega | (simp; done) | (simp; omega))))))
                  have hkk : ∀ b, w.heap.size + 1 ≤ b → b < wr.heap.size → (w4.alloc (.cells #[.int .i64 k2, .int .i64 n2, .string t2, .slice sa2 ms2.length cap2] 40)).heap[b]? = wr.heap[b]? := fun b h1 h2 => by
                    rw [heapNew _ _ _ (by omega)]
                    exact (ho4.block b (by rw [sizeDrewN]; omega) (.inr (by omega))).trans (HO3.out.block b h2 (.inr (by omega)))
                  have hcs : c2' ≤ 600 := by omega
                  have hml : ms.length ≤ 600 := by have := HAL.out; omega
                  clear hc2 hpost
                  have HR4 := Lib.hid hr4; clear hr4; have HO4 := Lib.hid ho4; clear ho4; have HO4' := Lib.hid ho4'; clear ho4'; have HI4 := Lib.hid hi4; clear hi4; have HM4 := Lib.hid hm4; clear hm4; have HZZ4 := Lib.hid hzz4; clear hzz4; have HB := Lib.hid hb; clear hb; have HRES4 := Lib.hid hres4; clear hres4; have HLN := Lib.hid hLn; clear hLn; have HCN := Lib.hid hcn; clear hcn; have HROW := Lib.hid hrow; clear hrow; have HIN := Lib.hid hiN; clear hiN; have HMA := Lib.hid hmA; clear hmA; have HKK := Lib.hid hkk; clear hkk; have H6 := Lib.hid h6; clear h6
                  go_wp2_with (at_builtin; refine wpList_push3 (wr := wr) (w1 := w4.alloc (.cells #[.int .i64 k2, .int .i64 n2, .string t2, .slice sa2 ms2.length cap2] 40)) rfl _ _ 32 rfl 40 _ 4 56 Tryd.underlying32 infoDat rfl (by decide) (w.heap.size + 1) a' cap' ms rfl HM.out (by omega) (by simp; omega) HKK.out _ (M.ag [.c (.int .i64 k2), .c (.int .i64 n2), .c (.string t2), .sl sa2 cap2 4 40 ms2]) rfl rfl w3.heap.size HMA.out (by omega) (by simp [go_sem]) (by unfold maxLen; omega) (by omega) ?_)
                  intro a5 cap5 w5 hm5 hb5 hz5 hk5
                  (try simp only [World.size_alloc] at hz5)
                  have hr5 := (HR4.out.below (B := w4.heap.size) (w' := w4.alloc (.cells #[.int .i64 k2, .int .i64 n2, .string t2, .slice sa2 ms2.length cap2] 40)) (by (repeat (first | with_reducible assumption | with_reducible exact Below.refl _ _ | with_reducible refine Below.drew ?_ | with_reducible refine belowDrewN ?_ _ | ((with_reducible refine Below.setCell ?_ ?_ _); rotate_left; focus (first | omega | (simp; done) | (simp; omega))) | ((with_reducible refine Below.alloc ?_ ?_ _); rotate_left; focus (first | omega | (simp; done) | (simp; omega)))))) hpw4).below hb5 (by omega)
                  have ho5 := HO4'.out.thenBelow (show Below w.heap.size w4 w5 by (repeat (first | with_reducible assumption | with_reducible exact Below.refl _ _ | with_reducible refine Below.drew ?_ | with_reducible refine belowDrewN ?_ _ | ((with_reducible refine Below.setCell ?_ ?_ _); rotate_left; focus (first | omega | (simp; done) | (simp; omega))) | ((with_reducible refine Below.alloc ?_ ?_ _); rotate_left; focus (first | omega | (simp; done) | (simp; omega))) | ((with_reducible refine Below.trans ?_ (Below.mono hb5 ?_)); rotate_left; focus (first | omega | (simp; done) | (simp; omega))))))
                  have hzz5 := (HZZ4.out.below (B := w4.heap.size) (w' := w4.alloc (.cells #[.int .i64 k2, .int .i64 n2, .string t2, .slice sa2 ms2.length cap2] 40)) (by (repeat (first | with_reducible assumption | with_reducible exact Below.refl _ _ | with_reducible refine Below.drew ?_ | with_reducible refine belowDrewN ?_ _ | ((with_reducible refine Below.setCell ?_ ?_ _); rotate_left; focus (first | omega | (simp; done) | (simp; omega))) | ((with_reducible refine Below.alloc ?_ ?_ _); rotate_left; focus (first | omega | (simp; done) | (simp; omega)))))) hzw4).below hb5 (by omega)
                  have hnl : (ms ++ [(M.ag [.c (.int .i64 k2), .c (.int .i64 n2), .c (.string t2), .sl sa2 cap2 4 40 ms2])]).length = ms.length + 1 := by simp
                  have HM5 := Lib.hid hm5; clear hm5; have HB5 := Lib.hid hb5; clear hb5; have HK5 := Lib.hid hk5; clear hk5; have HR5 := Lib.hid hr5; clear hr5; have HO5 := Lib.hid ho5; clear ho5; have HZZ5 := Lib.hid hzz5; clear hzz5; have HNL := Lib.hid hnl; clear hnl
                  go_wp2_with fail
                  go_roundg (s.size - p2)
                  case measure => omega
                  case rel => exact ⟨p2, acc ++ [(.mk k2 n2 t2 ds2)], a5, cap5, _, c2', rfl, by rw [HNL.out], HIN.out, HM5.out, HLN.out, by omega, hp2, HCN.out, hcs, HR5.out, HO5.out, HZZ5.out⟩
            · have hnil : skipL (s.data.toList.drop j) = [] := by rw [← hsk3]; exact drop_out (by omega)
              have hok : okC (rd (s.data.toList.drop a)) c = false := by rw [HRD.out, HL.out, rdL_nil hnil]; rfl
              clear hnil
              have HR3 := Lib.hid hr3; clear hr3; have HO3 := Lib.hid ho3; clear ho3; have HO3' := Lib.hid ho3'; clear ho3'; have HZZ3 := Lib.hid hzz3; clear hzz3; have HSK3 := Lib.hid hsk3; clear hsk3; have HOK := Lib.hid hok; clear hok
              go_wp2_with fail
              go_quiet (fail)
              go_wp2_with fail
              refine bodyPost_ret (v := .tuple #[.agg #[.int .i64 0, .int .i64 0, .string ⟨#[]⟩, .slice none 0 0], .bool false]) (by simp (disch := (first | omega | (simp; done) | (simp; omega))) [results, Tryd.results29, go_sem, r0, r1, r2, r3]) rfl ?_
              refine ⟨0, 0, ⟨#[]⟩, [], none, 0, [], j1, cc, by rw [HOK.out]; rfl, ?_, ?_, rfl, M.Mine.nil _ _ _ _ (by decide), fun hh => by rw [HOK.out] at hh; cases hh⟩
              · exact (HR3.out.drewN _).below (B := w.heap.size) (by (repeat (first | with_reducible assumption | with_reducible exact Below.refl _ _ | with_reducible refine Below.drew ?_ | with_reducible refine belowDrewN ?_ _ | ((with_reducible refine Below.setCell ?_ ?_ _); rotate_left; focus (first | omega | (simp; done) | (simp; omega))) | ((with_reducible refine Below.alloc ?_ ?_ _); rotate_left; focus (first | omega | (simp; done) | (simp; omega)))))) hpw
              · exact (HO3'.out.drewN _).thenBelow (by (repeat (first | with_reducible assumption | with_reducible exact Below.refl _ _ | with_reducible refine Below.drew ?_ | with_reducible refine belowDrewN ?_ _ | ((with_reducible refine Below.setCell ?_ ?_ _); rotate_left; focus (first | omega | (simp; done) | (simp; omega))) | ((with_reducible refine Below.alloc ?_ ?_ _); rotate_left; focus (first | omega | (simp; done) | (simp; omega))))))
        have n40 : (b == 40) = false := by simp [h40]
        rw [n40] at e40
        by_cases h41 : b = 41
        · rw [h41] at hs2
          have y41 : (b == 41) = true := by simp [h41]
          rw [y41] at e41
          have hok : okC (rd (s.data.toList.drop a)) c = false := by rw [rd_close hs2]; rfl
          clear y41 n40 e39 e34
          obtain ⟨r0, r1, r2, r3, g0, g1, g2, g3⟩ := hzz1
          clear hzz2
          have HSK := Lib.hid hsk; clear hsk; have HR1 := Lib.hid hr1; clear hr1; have HOO := Lib.hid hoo; clear hoo; have HD := Lib.hid hd; clear hd; have HOK := Lib.hid hok; clear hok; have HR2 := Lib.hid hr2; clear hr2; have HO2 := Lib.hid ho2; clear ho2; have HS2 := Lib.hid hs2; clear hs2; have H40 := Lib.hid h40; clear h40; have H41 := Lib.hid h41; clear h41
          go_wp2_with fail
          go_quiet (fail)
          go_wp2_with fail
          go_quiet (fail)
          go_wp2_with fail
          refine bodyPost_ret (v := .tuple #[.agg #[.int .i64 0, .int .i64 0, .string ⟨#[]⟩, .slice none 0 0], .bool false]) (by simp (disch := (first | omega | (simp; done) | (simp; omega))) [results, Tryd.results29, go_sem, r0, r1, r2, r3]) rfl ?_
          refine ⟨0, 0, ⟨#[]⟩, [], none, 0, [], p, c + 1, by rw [HOK.out]; rfl, ?_, ?_, rfl, M.Mine.nil _ _ _ _ (by decide), fun hh => by rw [HOK.out] at hh; cases hh⟩
          · exact (HR2.out.drewN _).below (B := w.heap.size) (by (repeat (first | with_reducible assumption | with_reducible exact Below.refl _ _ | with_reducible refine Below.drew ?_ | with_reducible refine belowDrewN ?_ _ | ((with_reducible refine Below.setCell ?_ ?_ _); rotate_left; focus (first | omega | (simp; done) | (simp; omega))) | ((with_reducible refine Below.alloc ?_ ?_ _); rotate_left; focus (first | omega | (simp; done) | (simp; omega)))))) hpw
          · exact (HO2.out.drewN _).thenBelow (by (repeat (first | with_reducible assumption | with_reducible exact Below.refl _ _ | with_reducible refine Below.drew ?_ | with_reducible refine belowDrewN ?_ _ | ((with_reducible refine Below.setCell ?_ ?_ _); rotate_left; focus (first | omega | (simp; done) | (simp; omega))) | ((with_reducible refine Below.alloc ?_ ?_ _); rotate_left; focus (first | omega | (simp; done) | (simp; omega))))))
        have n41 : (b == 41) = false := by simp [h41]
        rw [n41] at e41
        by_cases h39 : b = 39
        · rw [h39] at hs2
          have y39 : (b == 39) = true := by simp [h39]
          rw [y39] at e39
          have hrd := rd_quote hs2
          clear y39 n40 n41 e34
          have hok : okC (rd (s.data.toList.drop a)) c = okC (rd (s.data.toList.drop (p + 1))) (c + 2) := by rw [hrd, okC_quote]
          have hrN : ∀ n, RdAt pb s (p + 1) (.int .i64 ((c + 2 : Nat) : Int)) ((((w1.setCell ⟨pb, 2, none⟩ (.int .i64 ((c : Int) + 1))).drewN n).setCell ⟨pb, 1, none⟩ (.int .i64 ((p : Int) + 1))).setCell ⟨pb, 2, none⟩ (.int .i64 ((c : Int) + 1 + 1))) := fun n => ((hr2.drewN n).move (by omega)).next2 (by omega)
          have hoN : ∀ n, OnlyIn pb (pb + 1) w ((((w1.setCell ⟨pb, 2, none⟩ (.int .i64 ((c : Int) + 1))).drewN n).setCell ⟨pb, 1, none⟩ (.int .i64 ((p : Int) + 1))).setCell ⟨pb, 2, none⟩ (.int .i64 ((c : Int) + 1 + 1))) := fun n => (((ho2.drewN n).put 1 _).put 2 _)
          have hbN : ∀ n, Below B w ((((w1.setCell ⟨pb, 2, none⟩ (.int .i64 ((c : Int) + 1))).drewN n).setCell ⟨pb, 1, none⟩ (.int .i64 ((p : Int) + 1))).setCell ⟨pb, 2, none⟩ (.int .i64 ((c : Int) + 1 + 1))) := fun n => (hoN n).below hBp (by omega)
          have hzN : ∀ n, Zero w.heap.size ((((w1.setCell ⟨pb, 2, none⟩ (.int .i64 ((c : Int) + 1))).drewN n).setCell ⟨pb, 1, none⟩ (.int .i64 ((p : Int) + 1))).setCell ⟨pb, 2, none⟩ (.int .i64 ((c : Int) + 1 + 1))) := fun n => hzz2.of (by simp (disch := (first | omega | (simp; omega))) only [heapSet, heapDrewN])
          have hsN : ∀ n, ((((w1.setCell ⟨pb, 2, none⟩ (.int .i64 ((c : Int) + 1))).drewN n).setCell ⟨pb, 1, none⟩ (.int .i64 ((p : Int) + 1))).setCell ⟨pb, 2, none⟩ (.int .i64 ((c : Int) + 1 + 1))).heap.size = w1.heap.size := fun n => by simp [sizeDrewN]
          clear hzz1 hzz2
          have HSK := Lib.hid hsk; clear hsk; have HR1 := Lib.hid hr1; clear hr1; have HOO := Lib.hid hoo; clear hoo; have HD := Lib.hid hd; clear hd; have HRD := Lib.hid hrd; clear hrd; have HOK := Lib.hid hok; clear hok; have HR2 := Lib.hid hr2; clear hr2; have HO2 := Lib.hid ho2; clear ho2; have HS2 := Lib.hid hs2; clear hs2; have H40 := Lib.hid h40; clear h40; have H41 := Lib.hid h41; clear h41; have H39 := Lib.hid h39; clear h39; have HRN := Lib.hid hrN; clear hrN; have HON := Lib.hid hoN; clear hoN; have HBN := Lib.hid hbN; clear hbN; have HZN := Lib.hid hzN; clear hzN; have HSN := Lib.hid hsN; clear hsN
          go_wp2_with fail
          go_quiet (fail)
          go_wp2_with fail
          go_quiet (fail)
          go_wp2_with fail
          refine (IH.out (s.size - (p + 1)) (by omega) pb s (p + 1) (c + 2) _ (HRN.out _) (by omega) (by omega) (by omega) (by omega) hBp (HT.out.on (HBN.out _)) (HE.out.on (HBN.out _))).mono ?_
          rintro e w2 ⟨k2, n2, t2, ds2, sa2, cap2, ms2, p2, c2', rfl, hr3, ho3, hi3, hm3, hpost⟩
          have hz2 := ho3.size
          rw [HSN.out] at hm3 hz2
          rw [← HOK.out]
          have hzz3 := (HZN.out _).only ho3 (.inr (by omega))
          have ho3' := (HOO.out.trans (OnlyIn.refl _ _ _)).trans (OnlyIn.refl _ _ _)
          have ho4 := (HON.out _).trans ho3
          obtain ⟨r0, r1, r2, r3, g0, g1, g2, g3⟩ := hzz3
          clear c0 c1 c2 f1 f2 ho3' ho3
          have hpw2 : pb < w2.heap.size := by omega
          have hpw3 : w.heap.size < w2.heap.size := by omega
          cases hb : okC (rd (s.data.toList.drop a)) c with
          | false =>
            have hok := hb
            clear hpost
            have HR3 := Lib.hid hr3; clear hr3; have HO4 := Lib.hid ho4; clear ho4; have HI3 := Lib.hid hi3; clear hi3; have HM3 := Lib.hid hm3; clear hm3; have HB := Lib.hid hb; clear hb; have HOK := Lib.hid hok; clear hok
            go_wp2_with fail
            refine bodyPost_ret (v := .tuple #[.agg #[.int .i64 0, .int .i64 0, .string ⟨#[]⟩, .slice none 0 0], .bool false]) (by simp (disch := (first | omega | (simp; done) | (simp; omega))) [results, Tryd.results29, go_sem, r0, r1, r2, r3]) rfl ?_
            refine ⟨0, 0, ⟨#[]⟩, [], none, 0, [], p2, c2', by rw [HOK.out]; rfl, ?_, ?_, rfl, M.Mine.nil _ _ _ _ (by decide), fun hh => by rw [HOK.out] at hh; cases hh⟩
            · exact HR3.out.below (B := w.heap.size) (by (repeat (first | with_reducible assumption | with_reducible exact Below.refl _ _ | with_reducible refine Below.drew ?_ | with_reducible refine belowDrewN ?_ _ | ((with_reducible refine Below.setCell ?_ ?_ _); rotate_left; focus (first | omega | (simp; done) | (simp; omega))) | ((with_reducible refine Below.alloc ?_ ?_ _); rotate_left; focus (first | omega | (simp; done) | (simp; omega)))))) hpw
            · exact HO4.out.thenBelow (by (repeat (first | with_reducible assumption | with_reducible exact Below.refl _ _ | with_reducible refine Below.drew ?_ | with_reducible refine belowDrewN ?_ _ | ((with_reducible refine Below.setCell ?_ ?_ _); rotate_left; focus (first | omega | (simp; done) | (simp; omega))) | ((with_reducible refine Below.alloc ?_ ?_ _); rotate_left; focus (first | omega | (simp; done) | (simp; omega))))))
          | true =>
            obtain ⟨hres, hpa, hpz, hcc⟩ := hpost (by rw [← HOK.out]; exact hb)
            have hres2 : rd (s.data.toList.drop a) = some (.mk 0 0 ⟨#[]⟩ [quoteD, .mk k2 n2 t2 ds2], s.data.toList.drop p2) := by rw [HRD.out, hres]; rfl
            have hN : ∀ W : World, W.heap.size = w2.heap.size → (∀ b, w.heap.size + 1 ≤ b → b < w2.heap.size → W.heap[b]? = w2.heap[b]?) → (M.sl (some ⟨w2.heap.size + 1, 0, none⟩) 2 4 40 [(M.ag [.c (.int .i64 1), .c (.int .i64 0), .c (.string ⟨#[113, 117, 111, 116, 101]⟩), .sl none 0 4 40 []]), (M.ag [.c (.int .i64 k2), .c (.int .i64 n2), .c (.string t2), .sl sa2 cap2 4 40 ms2])]).Mine ((W.alloc (.cells #[.int .i64 k2, .int .i64 n2, .string t2, .slice sa2 ms2.length cap2] 40)).alloc (.cells #[.int .i64 1, .int .i64 0, .string ⟨#[113, 117, 111, 116, 101]⟩, .slice none 0 0, .int .i64 k2, .int .i64 n2, .string t2, .slice sa2 ms2.length cap2] 40)) (w.heap.size + 1) := fun W hW1 hW2 => by
              have hmW : (M.sl sa2 cap2 4 40 ms2).Mine W (w.heap.size + 1) := M.Mine.mono ⟨M.Own.frame _ hm3.own fun b hb => hW2 b (by have := (hm3.lt b hb).1; omega) (hm3.lt b hb).2, hm3.dup⟩ (by omega)
              have := M.Mine.new (w := W.alloc (.cells #[.int .i64 k2, .int .i64 n2, .string t2, .slice sa2 ms2.length cap2] 40)) (lo := w.heap.size + 1) (sz := 4) (n := 2) (e := 40) (cs := #[.int .i64 1, .int .i64 0, .string ⟨#[113, 117, 111, 116, 101]⟩, .slice none 0 0, .int .i64 k2, .int .i64 n2, .string t2, .slice sa2 ms2.length cap2]) (xs := [(M.ag [.c (.int .i64 1), .c (.int .i64 0), .c (.string ⟨#[113, 117, 111, 116, 101]⟩), .sl none 0 4 40 []]), (M.ag [.c (.int .i64 k2), .c (.int .i64 n2), .c (.string t2), .sl sa2 cap2 4 40 ms2])]) rfl (by simp; omega) rfl (by decide) (fun x hx => by simp at hx; rcases hx with rfl | rfl <;> rfl) (by decide)
                ⟨⟨⟨rfl, rfl, rfl, (M.Mine.nil _ _ 4 40 (by decide)).own, trivial⟩, (Dat.mine (k := k2) (n := n2) (s := t2) (hmW.below (by (repeat (first | with_reducible assumption | with_reducible exact Below.refl _ _ | with_reducible refine Below.drew ?_ | with_reducible refine belowDrewN ?_ _ | ((with_reducible refine Below.setCell ?_ ?_ _); rotate_left; focus (first | omega | (simp; done) | (simp; omega))) | ((with_reducible refine Below.alloc ?_ ?_ _); rotate_left; focus (first | omega | (simp; done) | (simp; omega)))))))).own, trivial⟩, by simpa [M.blocksL, M.blocks, addrBlocks] using hm3.dup⟩
              rwa [World.size_alloc, hW1] at this
            have hi4 : Dat.IsL 40 [quoteD, .mk k2 n2 t2 ds2] [(M.ag [.c (.int .i64 1), .c (.int .i64 0), .c (.string ⟨#[113, 117, 111, 116, 101]⟩), .sl none 0 4 40 []]), (M.ag [.c (.int .i64 k2), .c (.int .i64 n2), .c (.string t2), .sl sa2 cap2 4 40 ms2])] := ⟨_, _, rfl, ⟨none, 0, [], rfl, rfl⟩, _, _, rfl, ⟨_, _, _, rfl, hi3⟩, rfl⟩
            have hct : c2' = c + (Dat.mk 0 0 ⟨#[]⟩ [quoteD, .mk k2 n2 t2 ds2]).count := by rw [hcc]; simp only [Dat.count, Dat.countL, quoteD]; omega
            clear hcc
            have HR3 := Lib.hid hr3; clear hr3; have HO4 := Lib.hid ho4; clear ho4; have HI3 := Lib.hid hi3; clear hi3; have HM3 := Lib.hid hm3; clear hm3; have HB := Lib.hid hb; clear hb; have HRES := Lib.hid hres; clear hres; have HRES2 := Lib.hid hres2; clear hres2; have HN := Lib.hid hN; clear hN; have HI4 := Lib.hid hi4; clear hi4; have HCT := Lib.hid hct; clear hct
            go_wp2_with fail
            refine bodyPost_ret (v := .tuple #[.agg #[.int .i64 0, .int .i64 0, .string ⟨#[]⟩, .slice (some ⟨w2.heap.size + 1, 0, none⟩) 2 2], .bool true]) (by simp (disch := (first | omega | (simp; done) | (simp; omega))) [results, Tryd.results29, go_sem, r0, r1, r2, r3]) rfl ?_
            refine ⟨0, 0, ⟨#[]⟩, [quoteD, .mk k2 n2 t2 ds2], some ⟨w2.heap.size + 1, 0, none⟩, 2, [(M.ag [.c (.int .i64 1), .c (.int .i64 0), .c (.string ⟨#[113, 117, 111, 116, 101]⟩), .sl none 0 4 40 []]), (M.ag [.c (.int .i64 k2), .c (.int .i64 n2), .c (.string t2), .sl sa2 cap2 4 40 ms2])], p2, c2', by rw [HB.out]; rfl, ?_, ?_, HI4.out, ?_, fun _ => ⟨HRES2.out, by omega, hpz, HCT.out⟩⟩
            · exact HR3.out.below (B := w.heap.size) (by (repeat (first | with_reducible assumption | with_reducible exact Below.refl _ _ | with_reducible refine Below.drew ?_ | with_reducible refine belowDrewN ?_ _ | ((with_reducible refine Below.setCell ?_ ?_ _); rotate_left; focus (first | omega | (simp; done) | (simp; omega))) | ((with_reducible refine Below.alloc ?_ ?_ _); rotate_left; focus (first | omega | (simp; done) | (simp; omega)))))) hpw
            · exact HO4.out.thenBelow (by (repeat (first | with_reducible assumption | with_reducible exact Below.refl _ _ | with_reducible refine Below.drew ?_ | with_reducible refine belowDrewN ?_ _ | ((with_reducible refine Below.setCell ?_ ?_ _); rotate_left; focus (first | omega | (simp; done) | (simp; omega))) | ((with_reducible refine Below.alloc ?_ ?_ _); rotate_left; focus (first | omega | (simp; done) | (simp; omega))))))
            · exact (HN.out _ (by simp) (fun b h1 h2 => by simp (disch := (first | omega | (simp; omega))) only [heapSet])).mono (by omega)
        have n39 : (b == 39) = false := by simp [h39]
        rw [n39] at e39
        by_cases h34 : b = 34
        · rw [h34] at hs2
          have y34 : (b == 34) = true := by simp [h34]
          rw [y34] at e34
          have hrd := rd_str hs2
          clear y34 n40 n41 n39
          obtain ⟨r0, r1, r2, r3, g0, g1, g2, g3⟩ := id hzz2
          clear hzz1
          have HSK := Lib.hid hsk; clear hsk; have HR1 := Lib.hid hr1; clear hr1; have HOO := Lib.hid hoo; clear hoo; have HD := Lib.hid hd; clear hd; have HRD := Lib.hid hrd; clear hrd; have HR2 := Lib.hid hr2; clear hr2; have HO2 := Lib.hid ho2; clear ho2; have HS2 := Lib.hid hs2; clear hs2; have H40 := Lib.hid h40; clear h40; have H41 := Lib.hid h41; clear h41; have H39 := Lib.hid h39; clear h39; have H34 := Lib.hid h34; clear h34; have HZZ2 := Lib.hid hzz2; clear hzz2
          go_wp2_with fail
          go_quiet (fail)
          go_wp2_with fail
          go_quiet (fail)
          go_wp2_with fail
          obtain ⟨q, hqp⟩ : ∃ q, q = p + 1 := ⟨_, rfl⟩
          have hqi : (p : Int) + 1 = (q : Int) := by omega
          have HRD' := HRD.out
          rw [← hqp] at HRD'
          rw [hqi]
          have hqa : p + 1 ≤ q := by omega
          have hqb : q ≤ p + 1 := by omega
          clear hqi HRD hqp
          have HRD := Lib.hid HRD'
          clear HRD'
          go_loopg [10] (s.size - q) (fun k t wr => ∃ j : Nat, k = s.size - j ∧ t = .int .i64 j ∧ Span noQuote s.data.toList q j ∧ j ≤ s.size ∧ RdAt pb s p (.int .i64 ((c + 1 : Nat) : Int)) wr ∧ OnlyIn pb (pb + 1) w wr ∧ Zero w.heap.size wr)
          case atStart => exact ⟨q, rfl, rfl, Span.start _ _ _, by omega, HR2.out.drewN _, HO2.out.drewN _, HZZ2.out.of rfl⟩
          case round =>
            obtain ⟨j, rfl, rfl, hsp, hjs, hrj, hoj, hzj⟩ := hrel
            clear c0 c1 c2 f1 f2 r0 r1 r2 r3 g0 g1 g2 g3
            obtain ⟨c0, c1, c2, f1, f2⟩ := id hrj
            obtain ⟨r0, r1, r2, r3, g0, g1, g2, g3⟩ := id hzj
            have hpj := hsp.le
            by_cases hlj : j < s.size
            · have hdj := drop_at hlj
              have hgl : s.data.toList[j]'(by simpa using hlj) = s[j]'hlj := rfl
              have ej : (((s[j]'hlj).toNat : Int) == 34) = (s[j]'hlj == 34) := byteEq _ 34
              generalize hBj : s[j]'hlj = bj at *
              by_cases hq : bj = 34
              · have yq : (bj == 34) = true := by simp [hq]
                rw [yq] at ej
                obtain ⟨hst1, hst2⟩ := hsp.stop (by simpa using hlj) (by rw [hgl, hq]; rfl)
                have hex := extract_eq hst1.symm
                obtain ⟨T, hT⟩ : ∃ T : ByteArray, T = ⟨((s.data.toList.drop q).takeWhile noQuote).toArray⟩ := ⟨_, rfl⟩
                rw [← hT] at hex
                have hTs : T.size ≤ s.size := by rw [← hex, ByteArray.size_extract]; omega
                have hres : rd (s.data.toList.drop a) = if strB T = true then some (.mk 4 0 T [], s.data.toList.drop (j + 1)) else none := by
                  rw [HRD.out]; unfold strR; rw [← hT, hst2, hdj]
                have hok : okC (rd (s.data.toList.drop a)) c = strB T := by
                  rw [hres]
                  cases strB T with
                  | true => simp [okC, Dat.count, Dat.countL]; omega
                  | false => rfl
                have hrq := hrj.move (q := j + 1) (y := (j : Int) + 1) (by omega)
                have hoq := hoj.put 1 (.int .i64 ((j : Int) + 1))
                have hzq : Zero w.heap.size (wr.setCell ⟨pb, 1, none⟩ (.int .i64 ((j : Int) + 1))) := hzj.of (heapSet _ _ _ _ (by simp; omega))
                have hcall : ∀ W, Calls Tryd.prog 52 #[.string (s.extract q j)] W (RetEq (.bool (strB T)) W) := fun W => by rw [hex]; exact stringText_calls T W (by omega)
                clear hst1 hst2 hT yq hgl
                have HSP := Lib.hid hsp; clear hsp; have HRJ := Lib.hid hrj; clear hrj; have HOJ := Lib.hid hoj; clear hoj; have HZJ := Lib.hid hzj; clear hzj; have HDJ := Lib.hid hdj; clear hdj; have HQ := Lib.hid hq; clear hq; have HEX := Lib.hid hex; clear hex; have HRES := Lib.hid hres; clear hres; have HOK := Lib.hid hok; clear hok; have HRQ := Lib.hid hrq; clear hrq; have HOQ := Lib.hid hoq; clear hoq; have HZQ := Lib.hid hzq; clear hzq; have HCALL := Lib.hid hcall; clear hcall
                go_wp2_with fail
                go_region_law (first | (go_simp; go_at_call 52; (with_reducible refine (HCALL.out _).mono ?_); rintro e w9 ⟨rfl, rfl⟩))
                all_goals
                  go_wp2_with fail
                  refine bodyPost_ret (v := .tuple #[.agg #[.int .i64 4, .int .i64 0, .string (s.extract q j), .slice none 0 0], .bool (strB T)]) (by simp (disch := (first | omega | (simp; done) | (simp; omega))) [results, Tryd.results29, go_sem, r0, r1, r2, r3]) rfl ?_
                  refine ⟨4, 0, T, [], none, 0, [], j + 1, c + 1, by rw [HOK.out, HEX.out]; rfl, ?_, ?_, rfl, M.Mine.nil _ _ _ _ (by decide), fun hh => ⟨by rw [HRES.out, if_pos (by rw [← HOK.out]; exact hh)], by omega, by omega, by simp [Dat.count, Dat.countL]⟩⟩
                  · exact HRQ.out.below (B := w.heap.size) (by (repeat (first | with_reducible assumption | with_reducible exact Below.refl _ _ | with_reducible refine Below.drew ?_ | with_reducible refine belowDrewN ?_ _ | ((with_reducible refine Below.setCell ?_ ?_ _); rotate_left; focus (first | omega | (simp; done) | (simp; omega))) | ((with_reducible refine Below.alloc ?_ ?_ _); rotate_left; focus (first | omega | (simp; done) | (simp; omega)))))) hpw
                  · exact HOQ.out.thenBelow (by (repeat (first | with_reducible assumption | with_reducible exact Below.refl _ _ | with_reducible refine Below.drew ?_ | with_reducible refine belowDrewN ?_ _ | ((with_reducible refine Below.setCell ?_ ?_ _); rotate_left; focus (first | omega | (simp; done) | (simp; omega))) | ((with_reducible refine Below.alloc ?_ ?_ _); rotate_left; focus (first | omega | (simp; done) | (simp; omega))))))
              · have nq : (bj == 34) = false := by simp [hq]
                rw [nq] at ej
                have hst := hsp.step (by simpa using hlj) (by rw [hgl]; simp [noQuote, hq])
                clear nq hgl
                have HSP := Lib.hid hsp; clear hsp; have HRJ := Lib.hid hrj; clear hrj; have HOJ := Lib.hid hoj; clear hoj; have HZJ := Lib.hid hzj; clear hzj; have HDJ := Lib.hid hdj; clear hdj; have HQ := Lib.hid hq; clear hq; have HST := Lib.hid hst; clear hst
                go_wp2_with fail
                go_roundg (s.size - (j + 1))
                case measure => omega
                case rel => exact ⟨j + 1, rfl, by go_num, HST.out, by omega, HRJ.out, HOJ.out, HZJ.out⟩
            · obtain ⟨hst1, hst2, hst3⟩ := hsp.out (by simpa using Nat.le_of_not_lt hlj)
              have hok : okC (rd (s.data.toList.drop a)) c = false := by rw [HRD.out]; unfold strR; rw [hst2, hst3]; rfl
              clear hst1 hst2 hst3
              have HSP := Lib.hid hsp; clear hsp; have HRJ := Lib.hid hrj; clear hrj; have HOJ := Lib.hid hoj; clear hoj; have HZJ := Lib.hid hzj; clear hzj; have HOK := Lib.hid hok; clear hok
              go_wp2_with fail
              refine bodyPost_ret (v := .tuple #[.agg #[.int .i64 0, .int .i64 0, .string ⟨#[]⟩, .slice none 0 0], .bool false]) (by simp (disch := (first | omega | (simp; done) | (simp; omega))) [results, Tryd.results29, go_sem, r0, r1, r2, r3]) rfl ?_
              refine ⟨0, 0, ⟨#[]⟩, [], none, 0, [], p, c + 1, by rw [HOK.out]; rfl, ?_, ?_, rfl, M.Mine.nil _ _ _ _ (by decide), fun hh => by rw [HOK.out] at hh; cases hh⟩
              · exact HRJ.out.below (B := w.heap.size) (by (repeat (first | with_reducible assumption | with_reducible exact Below.refl _ _ | with_reducible refine Below.drew ?_ | with_reducible refine belowDrewN ?_ _ | ((with_reducible refine Below.setCell ?_ ?_ _); rotate_left; focus (first | omega | (simp; done) | (simp; omega))) | ((with_reducible refine Below.alloc ?_ ?_ _); rotate_left; focus (first | omega | (simp; done) | (simp; omega)))))) hpw
              · exact HOJ.out.thenBelow (by (repeat (first | with_reducible assumption | with_reducible exact Below.refl _ _ | with_reducible refine Below.drew ?_ | with_reducible refine belowDrewN ?_ _ | ((with_reducible refine Below.setCell ?_ ?_ _); rotate_left; focus (first | omega | (simp; done) | (simp; omega))) | ((with_reducible refine Below.alloc ?_ ?_ _); rotate_left; focus (first | omega | (simp; done) | (simp; omega))))))
        have n34 : (b == 34) = false := by simp [h34]
        rw [n34] at e34
        have hrd := rd_run hs2 h41 h39 h34 h40
        have hhd := skipL_head _ _ _ hs2
        have hrun := runB_head hhd.1 hhd.2 h41 h39 h34 h40
        clear n40 n41 n39 n34
        have hrd2 : rd (s.data.toList.drop a) = atomR (s.data.toList.drop p) := by rw [hrd, hd]
        clear hzz1 hrd
        obtain ⟨r0, r1, r2, r3, g0, g1, g2, g3⟩ := id hzz2
        have HSK := Lib.hid hsk; clear hsk; have HR1 := Lib.hid hr1; clear hr1; have HOO := Lib.hid hoo; clear hoo; have HD := Lib.hid hd; clear hd; have HRD2 := Lib.hid hrd2; clear hrd2; have HR2 := Lib.hid hr2; clear hr2; have HO2 := Lib.hid ho2; clear ho2; have HS2 := Lib.hid hs2; clear hs2; have H40 := Lib.hid h40; clear h40; have H41 := Lib.hid h41; clear h41; have H39 := Lib.hid h39; clear h39; have H34 := Lib.hid h34; clear h34; have HZZ2 := Lib.hid hzz2; clear hzz2; have HHD := Lib.hid hhd; clear hhd; have HRUN := Lib.hid hrun; clear hrun
        go_wp2_with fail
        go_quiet (fail)
        go_wp2_with fail
        go_quiet (fail)
        go_wp2_with fail
        go_loopg [] (s.size - p) (fun k wr => ∃ j : Nat, k = s.size - j ∧ Span runB s.data.toList p j ∧ j ≤ s.size ∧ RdAt pb s j (.int .i64 ((c + 1 : Nat) : Int)) wr ∧ OnlyIn pb (pb + 1) w wr ∧ Zero w.heap.size wr)
        case atStart => exact ⟨p, rfl, Span.start _ _ _, by omega, HR2.out.drewN _, HO2.out.drewN _, HZZ2.out.of rfl⟩
        case round =>
          obtain ⟨j, rfl, hsp, hjs, hrj, hoj, hzj⟩ := hrel
          clear c0 c1 c2 f1 f2 r0 r1 r2 r3 g0 g1 g2 g3
          obtain ⟨c0, c1, c2, f1, f2⟩ := id hrj
          obtain ⟨r0, r1, r2, r3, g0, g1, g2, g3⟩ := id hzj
          have hpj := hsp.le
          by_cases hlj : j < s.size
          · have hdj := drop_at hlj
            have hgl : s.data.toList[j]'(by simpa using hlj) = s[j]'hlj := rfl
            generalize hBj : s[j]'hlj = bj at *
            cases hrj2 : runB bj with
            | true =>
              have hst := hsp.step (by simpa using hlj) (by rw [hgl]; exact hrj2)
              have hne : endB bj = false := by simpa [runB] using hrj2
              have hen : ∀ W, Calls Tryd.prog 53 #[.int .u8 (bj.toNat : Int)] W (fun e w' => e = .returned (.bool false) ∧ w' = W) := fun W => by have := RetEq.same (endsRun_calls bj W); rwa [hne] at this
              clear hgl
              have HSP := Lib.hid hsp; clear hsp; have HRJ := Lib.hid hrj; clear hrj; have HOJ := Lib.hid hoj; clear hoj; have HZJ := Lib.hid hzj; clear hzj; have HDJ := Lib.hid hdj; clear hdj; have HRJ2 := Lib.hid hrj2; clear hrj2; have HST := Lib.hid hst; clear hst; have HNE := Lib.hid hne; clear hne; have HEN := Lib.hid hen; clear hen
              go_wp2_with fail
              go_quiet (first | (go_at_call 53; (with_reducible refine Calls.quiet_of_same (HEN.out _))))
              go_wp2_with fail
              go_roundg (s.size - (j + 1))
              case measure => omega
              case rel => exact ⟨j + 1, rfl, HST.out, by omega, (HRJ.out.drewN _).move (by omega), (HOJ.out.drewN _).put _ _, HZJ.out.of (by simp (disch := (first | omega | (simp; omega))) only [heapSet, heapDrewN])⟩
            | false =>
              obtain ⟨hst1, hst2⟩ := hsp.stop (by simpa using hlj) (by rw [hgl]; exact hrj2)
              have hne : endB bj = true := by simpa [runB] using hrj2
              have hen : ∀ W, Calls Tryd.prog 53 #[.int .u8 (bj.toNat : Int)] W (fun e w' => e = .returned (.bool true) ∧ w' = W) := fun W => by have := RetEq.same (endsRun_calls bj W); rwa [hne] at this
              have hex := extract_eq hst1.symm
              obtain ⟨T, hT⟩ : ∃ T : ByteArray, T = ⟨((s.data.toList.drop p).takeWhile runB).toArray⟩ := ⟨_, rfl⟩
              rw [← hT] at hex
              have hTs : T.size ≤ s.size := by rw [← hex, ByteArray.size_extract]; omega
              obtain ⟨k3, n3, t3, ok3, hv3, ha3, hb3_⟩ := atomD_parts T
              have hres : rd (s.data.toList.drop a) = (match atomD T with | none => none | some d => some (d, s.data.toList.drop j)) := by rw [HRD2.out]; unfold atomR; rw [← hT, hst2]; rfl
              have hok : okC (rd (s.data.toList.drop a)) c = ok3 := by
                rw [hres]
                cases ok3 with
                | true => rw [ha3 rfl]; simp [okC, Dat.count, Dat.countL]; omega
                | false => rw [hb3_ rfl]; rfl
              have hbw : Below B w wr := hoj.below hBp (by omega)
              have hcall : ∀ W, Below B w W → Calls Tryd.prog 54 #[.string (s.extract p j)] W (Ret (.tuple #[.agg #[.int .i64 k3, .int .i64 n3, .string t3, .slice none 0 0], .bool ok3]) W) := fun W hW => by rw [hex, ← hv3]; exact iAtomOf_calls T W (by omega) B (HT.out.on hW) (HE.out.on hW) (by have := hW.size; omega)
              have hzw := hzj.lt
              have hpr := hrj.lt
              clear hst1 hst2 hT hgl
              have HSP := Lib.hid hsp; clear hsp; have HRJ := Lib.hid hrj; clear hrj; have HOJ := Lib.hid hoj; clear hoj; have HZJ := Lib.hid hzj; clear hzj; have HDJ := Lib.hid hdj; clear hdj; have HRJ2 := Lib.hid hrj2; clear hrj2; have HNE := Lib.hid hne; clear hne; have HEN := Lib.hid hen; clear hen; have HEX := Lib.hid hex; clear hex; have HRES := Lib.hid hres; clear hres; have HOK := Lib.hid hok; clear hok; have HV3 := Lib.hid hv3; clear hv3; have HA3 := Lib.hid ha3; clear ha3; have HB3_ := Lib.hid hb3_; clear hb3_; have HCALL := Lib.hid hcall; clear hcall
              go_wp2_with fail
              go_quiet (first | (go_at_call 53; (with_reducible refine Calls.quiet_of_same (HEN.out _))))
              go_wp2_with fail
              go_region_law (first | (go_simp; go_at_call 54; (with_reducible refine (HCALL.out _ (by (repeat (first | with_reducible assumption | with_reducible exact Below.refl _ _ | with_reducible refine Below.drew ?_ | with_reducible refine belowDrewN ?_ _ | ((with_reducible refine Below.setCell ?_ ?_ _); rotate_left; focus (first | omega | (simp; done) | (simp; omega))) | ((with_reducible refine Below.alloc ?_ ?_ _); rotate_left; focus (first | omega | (simp; done) | (simp; omega))) | ((with_reducible refine Below.trans ?_ (Below.mono hbw ?_)); rotate_left; focus (first | omega | (simp; done) | (simp; omega))))))).mono ?_); rintro e w9 ⟨rfl, hb9⟩; have hz9 := hb9.size; simp only [World.size_drew, sizeDrewN] at hz9; have hr9 := (HRJ.out.of (w' := (wr.drewN _).drew) rfl).below hb9 (by simpa only [World.size_drew, sizeDrewN] using hpr); obtain ⟨y0, y1, y2, y3, m0, m1, m2, m3⟩ := (HZJ.out.of (w' := (wr.drewN _).drew) rfl).below hb9 (by simpa only [World.size_drew, sizeDrewN] using hzw); have ho9 := ((HOJ.out.drewN _).drew).trans (OnlyIn.of_below hb9); have HR9 := Lib.hid hr9; have HO9 := Lib.hid ho9; clear hr9 ho9))
              all_goals
                go_wp2_with fail
                refine bodyPost_ret (v := .tuple #[.agg #[.int .i64 k3, .int .i64 n3, .string t3, .slice none 0 0], .bool ok3]) (by simp (disch := (first | omega | (simp; done) | (simp; omega))) [results, Tryd.results29, go_sem, y0, y1, y2, y3]) rfl ?_
                refine ⟨k3, n3, t3, [], none, 0, [], j, c + 1, by rw [HOK.out]; rfl, ?_, ?_, rfl, M.Mine.nil _ _ _ _ (by decide), fun hh => ⟨by rw [HRES.out, HA3.out (by rw [← HOK.out]; exact hh)], by omega, by omega, by simp [Dat.count, Dat.countL]⟩⟩
                · exact HR9.out.below (B := w.heap.size) (by (repeat (first | with_reducible assumption | with_reducible exact Below.refl _ _ | with_reducible refine Below.drew ?_ | with_reducible refine belowDrewN ?_ _ | ((with_reducible refine Below.setCell ?_ ?_ _); rotate_left; focus (first | omega | (simp; done) | (simp; omega))) | ((with_reducible refine Below.alloc ?_ ?_ _); rotate_left; focus (first | omega | (simp; done) | (simp; omega)))))) hpw
                · exact HO9.out.thenBelow (by (repeat (first | with_reducible assumption | with_reducible exact Below.refl _ _ | with_reducible refine Below.drew ?_ | with_reducible refine belowDrewN ?_ _ | ((with_reducible refine Below.setCell ?_ ?_ _); rotate_left; focus (first | omega | (simp; done) | (simp; omega))) | ((with_reducible refine Below.alloc ?_ ?_ _); rotate_left; focus (first | omega | (simp; done) | (simp; omega))))))
          · obtain ⟨hst1, hst2, hst3⟩ := hsp.out (by simpa using Nat.le_of_not_lt hlj)
            have hex := extract_eq hst1.symm
            obtain ⟨T, hT⟩ : ∃ T : ByteArray, T = ⟨((s.data.toList.drop p).takeWhile runB).toArray⟩ := ⟨_, rfl⟩
            rw [← hT] at hex
            have hTs : T.size ≤ s.size := by rw [← hex, ByteArray.size_extract]; omega
            obtain ⟨k3, n3, t3, ok3, hv3, ha3, hb3_⟩ := atomD_parts T
            have hres : rd (s.data.toList.drop a) = (match atomD T with | none => none | some d => some (d, s.data.toList.drop j)) := by rw [HRD2.out]; unfold atomR; rw [← hT, hst2]; rfl
            have hok : okC (rd (s.data.toList.drop a)) c = ok3 := by
              rw [hres]
              cases ok3 with
              | true => rw [ha3 rfl]; simp [okC, Dat.count, Dat.countL]; omega
              | false => rw [hb3_ rfl]; rfl
            have hbw : Below B w wr := hoj.below hBp (by omega)
            have hcall : ∀ W, Below B w W → Calls Tryd.prog 54 #[.string (s.extract p j)] W (Ret (.tuple #[.agg #[.int .i64 k3, .int .i64 n3, .string t3, .slice none 0 0], .bool ok3]) W) := fun W hW => by rw [hex, ← hv3]; exact iAtomOf_calls T W (by omega) B (HT.out.on hW) (HE.out.on hW) (by have := hW.size; omega)
            have hzw := hzj.lt
            have hpr := hrj.lt
            clear hst1 hst2 hst3 hT
            have HSP := Lib.hid hsp; clear hsp; have HRJ := Lib.hid hrj; clear hrj; have HOJ := Lib.hid hoj; clear hoj; have HZJ := Lib.hid hzj; clear hzj; have HEX := Lib.hid hex; clear hex; have HRES := Lib.hid hres; clear hres; have HOK := Lib.hid hok; clear hok; have HV3 := Lib.hid hv3; clear hv3; have HA3 := Lib.hid ha3; clear ha3; have HB3_ := Lib.hid hb3_; clear hb3_; have HCALL := Lib.hid hcall; clear hcall
            go_wp2_with fail
            go_quiet (fail)
            go_wp2_with fail
            go_region_law (first | (go_simp; go_at_call 54; (with_reducible refine (HCALL.out _ (by (repeat (first | with_reducible assumption | with_reducible exact Below.refl _ _ | with_reducible refine Below.drew ?_ | with_reducible refine belowDrewN ?_ _ | ((with_reducible refine Below.setCell ?_ ?_ _); rotate_left; focus (first | omega | (simp; done) | (simp; omega))) | ((with_reducible refine Below.alloc ?_ ?_ _); rotate_left; focus (first | omega | (simp; done) | (simp; omega))) | ((with_reducible refine Below.trans ?_ (Below.mono hbw ?_)); rotate_left; focus (first | omega | (simp; done) | (simp; omega))))))).mono ?_); rintro e w9 ⟨rfl, hb9⟩; have hz9 := hb9.size; simp only [World.size_drew, sizeDrewN] at hz9; have hr9 := (HRJ.out.of (w' := (wr.drewN _).drew) rfl).below hb9 (by simpa only [World.size_drew, sizeDrewN] using hpr); obtain ⟨y0, y1, y2, y3, m0, m1, m2, m3⟩ := (HZJ.out.of (w' := (wr.drewN _).drew) rfl).below hb9 (by simpa only [World.size_drew, sizeDrewN] using hzw); have ho9 := ((HOJ.out.drewN _).drew).trans (OnlyIn.of_below hb9); have HR9 := Lib.hid hr9; have HO9 := Lib.hid ho9; clear hr9 ho9))
            all_goals
              go_wp2_with fail
              refine bodyPost_ret (v := .tuple #[.agg #[.int .i64 k3, .int .i64 n3, .string t3, .slice none 0 0], .bool ok3]) (by simp (disch := (first | omega | (simp; done) | (simp; omega))) [results, Tryd.results29, go_sem, y0, y1, y2, y3]) rfl ?_
              refine ⟨k3, n3, t3, [], none, 0, [], j, c + 1, by rw [HOK.out]; rfl, ?_, ?_, rfl, M.Mine.nil _ _ _ _ (by decide), fun hh => ⟨by rw [HRES.out, HA3.out (by rw [← HOK.out]; exact hh)], by omega, by omega, by simp [Dat.count, Dat.countL]⟩⟩
              · exact HR9.out.below (B := w.heap.size) (by (repeat (first | with_reducible assumption | with_reducible exact Below.refl _ _ | with_reducible refine Below.drew ?_ | with_reducible refine belowDrewN ?_ _ | ((with_reducible refine Below.setCell ?_ ?_ _); rotate_left; focus (first | omega | (simp; done) | (simp; omega))) | ((with_reducible refine Below.alloc ?_ ?_ _); rotate_left; focus (first | omega | (simp; done) | (simp; omega)))))) hpw
              · exact HO9.out.thenBelow (by (repeat (first | with_reducible assumption | with_reducible exact Below.refl _ _ | with_reducible refine Below.drew ?_ | with_reducible refine belowDrewN ?_ _ | ((with_reducible refine Below.setCell ?_ ?_ _); rotate_left; focus (first | omega | (simp; done) | (simp; omega))) | ((with_reducible refine Below.alloc ?_ ?_ _); rotate_left; focus (first | omega | (simp; done) | (simp; omega))))))
    · have hpe : p = s.size := by omega
      have hnil : skipL (s.data.toList.drop a) = [] := by rw [← hsk]; exact drop_out (by omega)
      have hok : okC (rd (s.data.toList.drop a)) c = false := by rw [rd_nil hnil]; rfl
      obtain ⟨r0, r1, r2, r3, g0, g1, g2, g3⟩ := hzz1
      have hr2 := (hr1.next2 (y := (c : Int) + 1) (c := c + 1) (by omega))
      have ho2 := hoo.put 2 (.int .i64 ((c : Int) + 1))
      clear hnil hpe
      have HSK := Lib.hid hsk; clear hsk; have HR1 := Lib.hid hr1; clear hr1; have HOO := Lib.hid hoo; clear hoo; have HOK := Lib.hid hok; clear hok; have HR2 := Lib.hid hr2; clear hr2; have HO2 := Lib.hid ho2; clear ho2
      go_wp2_with fail
      go_quiet (fail)
      go_wp2_with fail
      refine bodyPost_ret (v := .tuple #[.agg #[.int .i64 0, .int .i64 0, .string ⟨#[]⟩, .slice none 0 0], .bool false]) (by simp (disch := (first | omega | (simp; done) | (simp; omega))) [results, Tryd.results29, go_sem, r0, r1, r2, r3]) rfl ?_
      refine ⟨0, 0, ⟨#[]⟩, [], none, 0, [], p, c + 1, by rw [HOK.out]; rfl, ?_, ?_, rfl, M.Mine.nil _ _ _ _ (by decide), fun hh => by rw [HOK.out] at hh; cases hh⟩
      · exact (HR2.out.drewN _).below (B := w.heap.size) (by (repeat (first | with_reducible assumption | with_reducible exact Below.refl _ _ | with_reducible refine Below.drew ?_ | with_reducible refine belowDrewN ?_ _ | ((with_reducible refine Below.setCell ?_ ?_ _); rotate_left; focus (first | omega | (simp; done) | (simp; omega))) | ((with_reducible refine Below.alloc ?_ ?_ _); rotate_left; focus (first | omega | (simp; done) | (simp; omega)))))) hpw
      · exact (HO2.out.drewN _).thenBelow (by (repeat (first | with_reducible assumption | with_reducible exact Below.refl _ _ | with_reducible refine Below.drew ?_ | with_reducible refine belowDrewN ?_ _ | ((with_reducible refine Below.setCell ?_ ?_ _); rotate_left; focus (first | omega | (simp; done) | (simp; omega))) | ((with_reducible refine Below.alloc ?_ ?_ _); rotate_left; focus (first | omega | (simp; done) | (simp; omega))))))
end Go.Proofs.YtghbnehocggnnaaDoor

/-
  Walks: data read, the program's side. Conditions: the library's table of powers of ten reads as laid, strconv.ErrSyntax holds an error.
-/
set_option linter.unusedVariables false
set_option linter.unusedSimpArgs false
set_option maxRecDepth 100000
namespace Go.Proofs.YtghbnehocggnnaaDoor
open Go.RowKit

/-- what ParseData hands back -/
def RetParse (res : Option (List Dat)) (w : World) (e : Ending) (w' : World) : Prop :=
  ∃ (a : Option Addr) (cap : Nat) (ms : List M), e = .returned (.tuple #[.slice a ms.length cap, .bool res.isSome]) ∧ Dat.IsL 40 (res.getD []) ms ∧ (M.sl a cap 4 40 ms).Mine w' w.heap.size ∧ Below w.heap.size w w'
theorem areB_count {ds : List Dat} (h : 600 < Dat.countL ds) : areB ds = false := areB_no fun h2 => by have := h2.1; omega
theorem parse_fail {s : ByteArray} {acc : List Dat} {l r : List UInt8} {b : UInt8} {cc : Nat} (h15 : ¬ 15000 < s.size) (hL : rdA s.data.toList = preA acc (rdA l)) (hcc : cc = Dat.countL acc) (hs : skipL l = b :: r) (hf : okC (rd l) cc = false) : parseB s = none := by
  cases hr : rd l with
  | none => exact parse_bad h15 (by rw [hL, rdA_bad hs hr]; rfl)
  | some x =>
    obtain ⟨d, r'⟩ := x
    rw [hr] at hf
    cases hr2 : rdA r' with
    | none => exact parse_bad h15 (by rw [hL, rdA_step hs hr, hr2]; rfl)
    | some es =>
      refine parse_not h15 (ds := acc ++ ([d] ++ es)) (by rw [hL, rdA_step hs hr, hr2]; rfl) (areB_count ?_)
      simp only [okC, decide_eq_false_iff_not] at hf
      rw [Dat.countL_append, List.singleton_append, Dat.countL]
      omega
theorem parse_end {s : ByteArray} {acc : List Dat} {l : List UInt8} (h15 : ¬ 15000 < s.size) (hL : rdA s.data.toList = preA acc (rdA l)) (hs : skipL l = []) : parseB s = if areB acc = true then some acc else none := by
  have hr : rdA s.data.toList = some acc := by rw [hL, rdA_end hs]; simp [preA]
  cases h : areB acc with
  | true => rw [parse_yes h15 hr h, if_pos rfl]
  | false => rw [parse_not h15 hr h, if_neg (by decide)]
set_option maxHeartbeats 2000000 in
theorem iParseData_calls (s : ByteArray) (w : World) (hs : s.size ≤ 9223372036854775807) (hT : Tab w.heap.size w) (hE : Sent w.heap.size w) :
    Calls Tryd.prog 12 #[.string s] w (RetParse (parseB s) w) := by
  by_cases h15 : 15000 < s.size
  · rw [parse_big h15]
    have h15i : 15000 < (s.size : Int) := by omega
    have HT := Lib.hid hT; clear hT; have HE := Lib.hid hE; clear hE
    go_enter Tryd.func12, Tryd.ntmps12
    go_wp2_with fail
    go_ret2
    exact ⟨none, 0, [], rfl, rfl, M.Mine.nil _ _ _ _ (by decide), by (repeat (first | with_reducible assumption | with_reducible exact Below.refl _ _ | with_reducible refine Below.drew ?_ | with_reducible refine belowDrewN ?_ _ | ((with_reducible refine Below.setCell ?_ ?_ _); rotate_left; focus (first | omega | (simp; done) | (simp; omega))) | ((with_reducible refine Below.alloc ?_ ?_ _); rotate_left; focus (first | omega | (simp; done) | (simp; omega)))))⟩
  have h15i : ¬ 15000 < (s.size : Int) := by omega
  have hr0 : RdAt w.heap.size s 0 (.int .i64 ((0 : Nat) : Int)) (w.alloc (.cells #[.string s, .int .i64 0, .int .i64 0] 53)) := by constructor <;> simp [go_sem]
  have HT := Lib.hid hT; clear hT; have HE := Lib.hid hE; clear hE; have HR0 := Lib.hid hr0; clear hr0
  go_enter Tryd.func12, Tryd.ntmps12
  go_wp2_with fail
  go_loopg [5] s.size (fun k t wr => ∃ (j : Nat) (acc : List Dat) (a' : Option Addr) (cap' : Nat) (ms : List M) (cc : Nat), k = s.size - j ∧ t = .slice a' ms.length cap' ∧ Dat.IsL 40 acc ms ∧ (M.sl a' cap' 4 40 ms).Mine wr (w.heap.size + 1) ∧ rdA s.data.toList = preA acc (rdA (s.data.toList.drop j)) ∧ j ≤ s.size ∧ cc = Dat.countL acc ∧ cc ≤ 600 ∧ RdAt w.heap.size s j (.int .i64 (cc : Int)) wr ∧ Below w.heap.size w wr ∧ w.heap.size + 1 ≤ wr.heap.size)
  case atStart => exact ⟨0, [], none, 0, [], 0, rfl, rfl, rfl, M.Mine.nil _ _ _ _ (by decide), by rw [List.drop_zero, preA_nil], by omega, rfl, by omega, HR0.out, by (repeat (first | with_reducible assumption | with_reducible exact Below.refl _ _ | with_reducible refine Below.drew ?_ | with_reducible refine belowDrewN ?_ _ | ((with_reducible refine Below.setCell ?_ ?_ _); rotate_left; focus (first | omega | (simp; done) | (simp; omega))) | ((with_reducible refine Below.alloc ?_ ?_ _); rotate_left; focus (first | omega | (simp; done) | (simp; omega))))), by simp⟩
  case round =>
    obtain ⟨j, acc, a', cap', ms, cc, rfl, rfl, hi, hm, hL, hjs, hcc, hc6, hrj, hbw, hsz⟩ := hrel
    have hal := hi.length
    have hac := Dat.length_le acc
    have hin := hm.in_
    have HI := Lib.hid hi; clear hi; have HM := Lib.hid hm; clear hm; have HL := Lib.hid hL; clear hL; have HRJ := Lib.hid hrj; clear hrj; have HAL := Lib.hid hal; clear hal
    go_wp2_with fail
    refine (iSkip_calls w.heap.size s j _ _ HRJ.out (by omega) (by omega)).mono ?_
    rintro e w3 ⟨j1, rfl, hsk3, hj1, hj2, hr3, ho3⟩
    have hz3 := ho3.size
    obtain ⟨c0, c1, c2, f1, f2⟩ := id hr3
    have hbw3 : Below w.heap.size w w3 := hbw.trans (ho3.below (Nat.le_refl _) (by omega))
    have hm3 := HM.out.keep (w' := w3) (fun b h1 h2 => ho3.block b h2 (.inr (by omega)))
    by_cases hlj : j1 < s.size
    · have hdj := drop_at hlj
      obtain ⟨bj, hbj⟩ : ∃ bj, bj = s[j1]'hlj := ⟨_, rfl⟩
      have hs3 : skipL (s.data.toList.drop j) = bj :: s.data.toList.drop (j1 + 1) := by rw [hbj]; exact hsk3.symm.trans hdj
      have hrs : rd (s.data.toList.drop j1) = rd (s.data.toList.drop j) := rd_skip (by rw [hsk3, skipL_idem])
      clear hbj hdj
      have HR3 := Lib.hid hr3; clear hr3; have HO3 := Lib.hid ho3; clear ho3; have HSK3 := Lib.hid hsk3; clear hsk3; have HS3 := Lib.hid hs3; clear hs3; have HRS := Lib.hid hrs; clear hrs; have HM3 := Lib.hid hm3; clear hm3
      go_wp2_with fail
      refine (iDatum_calls w.heap.size (s.size - j1) w.heap.size s j1 cc _ HR3.out (by omega) (by omega) (Nat.le_refl _) (by omega) (Nat.le_refl _) (HT.out.on hbw3) (HE.out.on hbw3)).mono ?_
      rintro e w4 ⟨k2, n2, t2, ds2, sa2, cap2, ms2, p2, c2', rfl, hr4, ho4, hi4, hm4, hpost⟩
      rw [HRS.out]
      rw [HRS.out] at hpost
      have hz4 := ho4.size
      have hbw4 : Below w.heap.size w w4 := hbw3.trans (ho4.below (Nat.le_refl _) (by omega))
      cases hb : okC (rd (s.data.toList.drop j)) cc with
      | false =>
        have hpf : parseB s = none := parse_fail h15 HL.out hcc HS3.out hb
        clear hpost c0 c1 c2 f1 f2
        have HR4 := Lib.hid hr4; clear hr4; have HO4 := Lib.hid ho4; clear ho4; have HI4 := Lib.hid hi4; clear hi4; have HM4 := Lib.hid hm4; clear hm4; have HB := Lib.hid hb; clear hb; have HPF := Lib.hid hpf; clear hpf
        go_wp2_with fail
        go_ret2
        exact ⟨none, 0, [], by rw [HPF.out]; rfl, by rw [HPF.out]; rfl, M.Mine.nil _ _ _ _ (by decide), by (repeat (first | with_reducible assumption | with_reducible exact Below.refl _ _ | with_reducible refine Below.drew ?_ | with_reducible refine belowDrewN ?_ _ | ((with_reducible refine Below.setCell ?_ ?_ _); rotate_left; focus (first | omega | (simp; done) | (simp; omega))) | ((with_reducible refine Below.alloc ?_ ?_ _); rotate_left; focus (first | omega | (simp; done) | (simp; omega))) | ((with_reducible refine Below.trans ?_ (Below.mono hbw4 ?_)); rotate_left; focus (first | omega | (simp; done) | (simp; omega)))))⟩
      | true =>
        obtain ⟨hres4, hp1, hp2, hc2⟩ := hpost hb
        have hlt4 : j < p2 := by have := (rd_ok hres4).lt; rw [List.length_drop, List.length_drop] at this; omega
        have h6 : cc + (Dat.mk k2 n2 t2 ds2).count ≤ 600 := okC_true (hres4 ▸ hb)
        have hLn : rdA s.data.toList = preA (acc ++ [.mk k2 n2 t2 ds2]) (rdA (s.data.toList.drop p2)) := by rw [HL.out, rdA_step HS3.out hres4, preA_preA]
        have hcn : c2' = Dat.countL (acc ++ [.mk k2 n2 t2 ds2]) := by rw [hc2, hcc, Dat.countL_append]; simp only [Dat.countL]; omega
        have hiN : Dat.IsL 40 (acc ++ [.mk k2 n2 t2 ds2]) (ms ++ [(M.ag [.c (.int .i64 k2), .c (.int .i64 n2), .c (.string t2), .sl sa2 cap2 4 40 ms2])]) := HI.out.snoc ⟨_, _, _, rfl, hi4⟩
        have hmA := (Dat.mine (k := k2) (n := n2) (s := t2) hm4).below (w' := w4.alloc (.cells #[.int .i64 k2, .int .i64 n2, .string t2, .slice sa2 ms2.length cap2] 40)) (by (repeat (first | with_reducible assumption | with_reducible exact Below.refl _ _ | with_reducible refine Below.drew ?_ | with_reducible refine belowDrewN ?_ _ | ((with_reducible refine Below.setCell ?_ ?_ _); rotate_left; focus (first | omega | (simp; done) | (simp; omega))) | ((with_reducible refine Below.alloc ?_ ?_ _); rotate_left; focus (first | omega | (simp; done) | (simp; omega))))))
        have hkk : ∀ b, w.heap.size + 1 ≤ b → b < wr.heap.size → (w4.alloc (.cells #[.int .i64 k2, .int .i64 n2, .string t2, .slice sa2 ms2.length cap2] 40)).heap[b]? = wr.heap[b]? := fun b h1 h2 => by
          rw [heapNew _ _ _ (by omega)]
          exact (ho4.block b (by omega) (.inr (by omega))).trans (HO3.out.block b h2 (.inr (by omega)))
        have hcs : c2' ≤ 600 := by omega
        have hml : ms.length ≤ 600 := by have := HAL.out; omega
        have hr4w := hr4.lt
        clear hc2 hpost c0 c1 c2 f1 f2
        have HR4 := Lib.hid hr4; clear hr4; have HO4 := Lib.hid ho4; clear ho4; have HI4 := Lib.hid hi4; clear hi4; have HM4 := Lib.hid hm4; clear hm4; have HB := Lib.hid hb; clear hb; have HRES4 := Lib.hid hres4; clear hres4; have HLN := Lib.hid hLn; clear hLn; have HCN := Lib.hid hcn; clear hcn; have HIN := Lib.hid hiN; clear hiN; have HMA := Lib.hid hmA; clear hmA; have HKK := Lib.hid hkk; clear hkk; have H6 := Lib.hid h6; clear h6
        go_wp2_with (at_builtin; refine wpList_push3 (wr := wr) (w1 := w4.alloc (.cells #[.int .i64 k2, .int .i64 n2, .string t2, .slice sa2 ms2.length cap2] 40)) rfl _ _ 32 rfl 40 _ 4 56 Tryd.underlying32 infoDat rfl (by decide) (w.heap.size + 1) a' cap' ms rfl HM.out (by omega) (by simp; omega) HKK.out _ (M.ag [.c (.int .i64 k2), .c (.int .i64 n2), .c (.string t2), .sl sa2 cap2 4 40 ms2]) rfl rfl w3.heap.size HMA.out (by omega) (by simp [go_sem]) (by unfold maxLen; omega) (by omega) ?_)
        intro a5 cap5 w5 hm5 hb5 hz5 hk5
        (try simp only [World.size_alloc] at hz5)
        have hr5 := (HR4.out.below (B := w4.heap.size) (w' := w4.alloc (.cells #[.int .i64 k2, .int .i64 n2, .string t2, .slice sa2 ms2.length cap2] 40)) (by (repeat (first | with_reducible assumption | with_reducible exact Below.refl _ _ | with_reducible refine Below.drew ?_ | with_reducible refine belowDrewN ?_ _ | ((with_reducible refine Below.setCell ?_ ?_ _); rotate_left; focus (first | omega | (simp; done) | (simp; omega))) | ((with_reducible refine Below.alloc ?_ ?_ _); rotate_left; focus (first | omega | (simp; done) | (simp; omega)))))) hr4w).below hb5 (by omega)
        have hbw5 : Below w.heap.size w w5 := by (repeat (first | with_reducible assumption | with_reducible exact Below.refl _ _ | with_reducible refine Below.drew ?_ | with_reducible refine belowDrewN ?_ _ | ((with_reducible refine Below.setCell ?_ ?_ _); rotate_left; focus (first | omega | (simp; done) | (simp; omega))) | ((with_reducible refine Below.alloc ?_ ?_ _); rotate_left; focus (first | omega | (simp; done) | (simp; omega))) | ((with_reducible refine Below.trans ?_ (Below.mono hbw4 ?_)); rotate_left; focus (first | omega | (simp; done) | (simp; omega))) | ((with_reducible refine Below.trans ?_ (Below.mono hb5 ?_)); rotate_left; focus (first | omega | (simp; done) | (simp; omega)))))
        have hnl : (ms ++ [(M.ag [.c (.int .i64 k2), .c (.int .i64 n2), .c (.string t2), .sl sa2 cap2 4 40 ms2])]).length = ms.length + 1 := by simp
        have HM5 := Lib.hid hm5; clear hm5; have HB5 := Lib.hid hb5; clear hb5; have HK5 := Lib.hid hk5; clear hk5; have HR5 := Lib.hid hr5; clear hr5; have HNL := Lib.hid hnl; clear hnl
        go_wp2_with fail
        go_roundg (s.size - p2)
        case measure => omega
        case rel => exact ⟨p2, acc ++ [.mk k2 n2 t2 ds2], a5, cap5, _, c2', rfl, by rw [HNL.out], HIN.out, HM5.out, HLN.out, hp2, HCN.out, hcs, HR5.out, hbw5, by omega⟩
    · have hnil : skipL (s.data.toList.drop j) = [] := by rw [← hsk3]; exact drop_out (by omega)
      have hpe := parse_end h15 HL.out hnil
      have hwl : Dat.wfL acc := by
        have hrA : rdA s.data.toList = some acc := by rw [HL.out, rdA_end hnil]; simp [preA]
        have hsz2 : s.data.toList.length = s.size := rfl
        exact (rdA_ok _ s.data.toList (Nat.le_refl _) acc hrA).2 (by omega)
      clear hnil
      have HR3 := Lib.hid hr3; clear hr3; have HO3 := Lib.hid ho3; clear ho3; have HSK3 := Lib.hid hsk3; clear hsk3; have HM3 := Lib.hid hm3; clear hm3; have HPE := Lib.hid hpe; clear hpe; have HWL := Lib.hid hwl; clear hwl
      go_wp2_with fail
      refine (iAreData_calls acc a' cap' ms _ HWL.out (by omega) HI.out HM3.out.in_).mono ?_
      rintro e w6 ⟨rfl, hb6⟩
      have hm6 := HM3.out.below hb6
      have hbw6 : Below w.heap.size w w6 := hbw3.trans (hb6.mono (by omega))
      have HM6 := Lib.hid hm6; clear hm6
      cases hv : areB acc with
      | true =>
        go_wp2_with fail
        go_ret2
        exact ⟨a', cap', ms, by rw [HPE.out, hv]; rfl, by rw [HPE.out, hv]; exact HI.out, HM6.out.mono (by omega), hbw6⟩
      | false =>
        go_wp2_with fail
        go_ret2
        exact ⟨none, 0, [], by rw [HPE.out, hv]; rfl, by rw [HPE.out, hv]; rfl, M.Mine.nil _ _ _ _ (by decide), hbw6⟩
end Go.Proofs.YtghbnehocggnnaaDoor

/-
  Walks: copies of data, ListDatum. No condition.
-/
set_option linter.unusedVariables false
set_option linter.unusedSimpArgs false
set_option maxRecDepth 100000
namespace Go.Proofs.YtghbnehocggnnaaDoor
open Go.RowKit

end Go.Proofs.YtghbnehocggnnaaDoor

/-
  Walks: the reference's copy of data, ListDatum. No condition.
-/
set_option linter.unusedVariables false
set_option linter.unusedSimpArgs false
set_option maxRecDepth 100000
namespace Go.Proofs.YtghbnehocggnnaaDoor
open Go.RowKit

end Go.Proofs.YtghbnehocggnnaaDoor
