/-
  FnSourceText: for every input the call returns true, and each argument reads afterwards as it read before. Condition: the listed variables of the library read as laid (tied to the text by the card).
-/
import Derived.Test.YtghbnehocggnnaaDoorGd
import Derived.Test.YtghbnehocggnnaaDoorCards
import Derived.Test.YtghbnehocggnnaaDoorTie
import Derived.SevenTiedAt
import Derived.LaidMore
import Derived.Lib.LaidTab
import Derived.Stop.LaidErr
import Derived.OpenShut
import Derived.Stop.Joined
import Derived.ProofKit
import Derived.Deep.DeepCutAuto
set_option linter.unusedVariables false
set_option linter.unusedSimpArgs false
set_option maxRecDepth 100000
namespace Go.Proofs.YtghbnehocggnnaaDoor
open Go.ChangeShapes Go.WideShapes Go.ChangeAt Go.RowKit

theorem own_ : ownKnob Tryd.prog.godebug = none := by kernel_rfl
theorem laidOut_ : laidOutB Tryd.prog = true := by kernel_rfl

theorem parse_are {s : ByteArray} {ds : List Dat} (h : parseB s = some ds) : areB ds = true ∧ (s.size ≤ 100000 → Dat.wfL ds ∧ Dat.countL ds ≤ 1000000) := by
  by_cases h15 : 15000 < s.size
  · rw [parse_big h15] at h; cases h
  cases hr : rdA s.data.toList with
  | none => rw [parse_bad h15 hr] at h; cases h
  | some es =>
    cases ha : areB es with
    | false => rw [parse_not h15 hr ha] at h; cases h
    | true =>
      rw [parse_yes h15 hr ha] at h
      obtain rfl := Option.some.inj h
      have hl : s.data.toList.length = s.size := rfl
      obtain ⟨h1, h2⟩ := rdA_ok _ _ (Nat.le_refl _) _ hr
      exact ⟨ha, fun hs => ⟨h2 (by omega), by omega⟩⟩
theorem fmtsOf_yes {ds : List Dat} (h : areB ds = true) : fmtsOf ds = fmtLn ds := by unfold fmtsOf; rw [if_pos h]
theorem fmtsOf_no {ds : List Dat} (h : areB ds = false) : fmtsOf ds = [] := by unfold fmtsOf; rw [if_neg (by rw [h]; decide)]
theorem eqDB_self (d : Dat) : eqDB d d = true := (eqDB_iff d d).2 rfl
set_option maxHeartbeats 8000000 in
theorem fnSourceText_walk (a : Option Addr) (c : Nat) (l : List Int) (w : World) (hin : (M.sl a c 1 5 (u8M l)).In w) (hu : ∀ n ∈ l, 0 ≤ n ∧ n ≤ 255) (hT : Tab w.heap.size w) (hE : Sent w.heap.size w) :
    Calls Tryd.prog 4 #[.slice a l.length c] w (Ret (.bool true) w) := by
  have hlc := U8s.len hin
  by_cases hbig : 1048576 < l.length
  · have HIN := Lib.hid hin; clear hin; have HU := Lib.hid hu; clear hu; have HT := Lib.hid hT; clear hT; have HE := Lib.hid hE; clear hE
    go_enter Tryd.func4, Tryd.ntmps4
    go_wp2_with fail
    go_ret
    exact ⟨rfl, by (repeat (first | with_reducible assumption | with_reducible exact Below.refl _ _ | with_reducible refine Below.drew ?_ | with_reducible refine belowDrewN ?_ _ | ((with_reducible refine Below.setCell ?_ ?_ _); rotate_left; focus (first | omega | (simp; done) | (simp; omega))) | ((with_reducible refine Below.alloc ?_ ?_ _); rotate_left; focus (first | omega | (simp; done) | (simp; omega)))))⟩
  · have HIN := Lib.hid hin; clear hin; have HU := Lib.hid hu; clear hu; have HT := Lib.hid hT; clear hT; have HE := Lib.hid hE; clear hE
    go_enter Tryd.func4, Tryd.ntmps4
    go_wp2_with fail
    refine (drawFormatData_calls a c l _ HIN.out HU.out (by omega)).mono ?_
    rintro e w1 ⟨ds, a1, cap1, ms1, rfl, hi1, hm1, hwl1, hct1, hb1⟩
    have hz1 := hb1.size
    have hln1 := hi1.length
    have hcp1 := hm1.in_.len
    have hlm1 : ms1.length ≤ 2000 := by have := Dat.length_le ds; omega
    have hfs := fmtsOf_length ds
    have HI1 := Lib.hid hi1; clear hi1; have HM1 := Lib.hid hm1; clear hm1; have HWL1 := Lib.hid hwl1; clear hwl1; have HCT1 := Lib.hid hct1; clear hct1; have HLN1 := Lib.hid hln1; clear hln1
    go_wp2_with fail
    refine (iFormatData2_calls ds a1 cap1 ms1 _ HWL1.out (by have := HCT1.out; omega) HI1.out HM1.out.in_ ((HT.out.on hb1).mono hz1)).mono ?_
    rintro e w2 ⟨rfl, hb2⟩
    have hz2 := hb2.size
    have hin2 := HM1.out.in_.below hb2
    have hb02 : Below w.heap.size w w2 := by (repeat (first | with_reducible assumption | with_reducible exact Below.refl _ _ | with_reducible refine Below.drew ?_ | with_reducible refine belowDrewN ?_ _ | ((with_reducible refine Below.setCell ?_ ?_ _); rotate_left; focus (first | omega | (simp; done) | (simp; omega))) | ((with_reducible refine Below.alloc ?_ ?_ _); rotate_left; focus (first | omega | (simp; done) | (simp; omega))) | ((with_reducible refine Below.trans ?_ (Below.mono hb1 ?_)); rotate_left; focus (first | omega | (simp; done) | (simp; omega))) | ((with_reducible refine Below.trans ?_ (Below.mono hb2 ?_)); rotate_left; focus (first | omega | (simp; done) | (simp; omega)))))
    cases hv : areB ds with
    | false =>
      rw [fmtsOf_no hv]
      have HIN2 := Lib.hid hin2; clear hin2; have HB02 := Lib.hid hb02; clear hb02; have HV := Lib.hid hv; clear hv
      go_wp2_with fail
      refine (iParseData_calls ⟨#[]⟩ _ (by decide) ((HT.out.on HB02.out).mono (by omega)) ((HE.out.on HB02.out).mono (by omega))).mono ?_
      rintro e w3 ⟨a3, cap3, ms3, rfl, hi3, hm3, hb3⟩
      generalize (parseB ⟨#[]⟩).isSome = pz
      have hz3 := hb3.size
      have hcp3 := hm3.in_.len
      have HI3 := Lib.hid hi3; clear hi3; have HM3 := Lib.hid hm3; clear hm3
      go_wp2_with fail
      refine (sAreData_calls ds a1 cap1 ms1 _ HWL1.out (by have := HCT1.out; omega) HI1.out (HIN2.out.below hb3)).mono ?_
      rintro e w4 ⟨rfl, hb4⟩
      rw [HV.out]
      go_wp2_with fail
      go_ret
      exact ⟨rfl, by (repeat (first | with_reducible assumption | with_reducible exact Below.refl _ _ | with_reducible refine Below.drew ?_ | with_reducible refine belowDrewN ?_ _ | ((with_reducible refine Below.setCell ?_ ?_ _); rotate_left; focus (first | omega | (simp; done) | (simp; omega))) | ((with_reducible refine Below.alloc ?_ ?_ _); rotate_left; focus (first | omega | (simp; done) | (simp; omega))) | ((with_reducible refine Below.trans ?_ (Below.mono HB02.out ?_)); rotate_left; focus (first | omega | (simp; done) | (simp; omega))) | ((with_reducible refine Below.trans ?_ (Below.mono hb3 ?_)); rotate_left; focus (first | omega | (simp; done) | (simp; omega))) | ((with_reducible refine Below.trans ?_ (Below.mono hb4 ?_)); rotate_left; focus (first | omega | (simp; done) | (simp; omega)))))⟩
    | true =>
      have hp := parse_fmt hv
      have hfe := fmtsOf_yes hv
      generalize hF : (⟨(fmtsOf ds).toArray⟩ : ByteArray) = F at *
      rw [← hfe, hF] at hp
      have hFs : F.size ≤ 9223372036854775807 := by rw [← hF]; simp [ByteArray.size]; omega
      clear hF hfe hfs
      have HIN2 := Lib.hid hin2; clear hin2; have HB02 := Lib.hid hb02; clear hb02; have HV := Lib.hid hv; clear hv; have HP := Lib.hid hp; clear hp
      go_wp2_with fail
      refine (iParseData_calls F _ hFs ((HT.out.on HB02.out).mono (by omega)) ((HE.out.on HB02.out).mono (by omega))).mono ?_
      rw [HP.out]
      rintro e w3 ⟨a3, cap3, ms3, rfl, hi3, hm3, hb3⟩
      simp only [Option.getD_some, Option.isSome_some] at hi3 ⊢
      have hz3 := hb3.size
      have hcp3 := hm3.in_.len
      have hl31 : ms3.length = ms1.length := by rw [hi3.length, HLN1.out]
      have HI3 := Lib.hid hi3; clear hi3; have HM3 := Lib.hid hm3; clear hm3
      go_wp2_with fail
      refine (sAreData_calls ds a1 cap1 ms1 _ HWL1.out (by have := HCT1.out; omega) HI1.out (HIN2.out.below hb3)).mono ?_
      rintro e w4 ⟨rfl, hb4⟩
      have hz4 := hb4.size
      rw [HV.out]
      have hb04 : Below w.heap.size w w4 := by (repeat (first | with_reducible assumption | with_reducible exact Below.refl _ _ | with_reducible refine Below.drew ?_ | with_reducible refine belowDrewN ?_ _ | ((with_reducible refine Below.setCell ?_ ?_ _); rotate_left; focus (first | omega | (simp; done) | (simp; omega))) | ((with_reducible refine Below.alloc ?_ ?_ _); rotate_left; focus (first | omega | (simp; done) | (simp; omega))) | ((with_reducible refine Below.trans ?_ (Below.mono HB02.out ?_)); rotate_left; focus (first | omega | (simp; done) | (simp; omega))) | ((with_reducible refine Below.trans ?_ (Below.mono hb3 ?_)); rotate_left; focus (first | omega | (simp; done) | (simp; omega))) | ((with_reducible refine Below.trans ?_ (Below.mono hb4 ?_)); rotate_left; focus (first | omega | (simp; done) | (simp; omega)))))
      have hin4 := (HIN2.out.below hb3).below hb4
      have hin34 := HM3.out.in_.below hb4
      rw [hl31]
      have HB04 := Lib.hid hb04; clear hb04; have HIN4 := Lib.hid hin4; clear hin4; have HIN34 := Lib.hid hin34; clear hin34
      go_wp2_with fail
      go_loopw [41] (fun i wr => ∃ k : Nat, k ≤ ms1.length ∧ i = .int .i64 k ∧ Below w4.heap.size w4 wr ∧ w4.heap.size ≤ wr.heap.size) (fun i _ => ms1.length - (intOf i).toNat)
      case atStart => exact ⟨0, Nat.zero_le _, rfl, Below.refl _ _, Nat.le_refl _⟩
      case round =>
        obtain ⟨k', hk, rfl, hb, hsz⟩ := hrel
        by_cases hlt : k' < ms1.length
        · obtain ⟨b, off, b', off', k1, n1, s1, ds1, a1', cap1', ms1', a2', cap2', ms2', rfl, rfl, hd, hd1, hd2, hn1, hn2, c0, c1, c2, c3, c0', c1', c2', c3'⟩ := Dat.elem2 (HIN4.out.below hb) HI1.out (HIN34.out.below hb) HI3.out k' hlt
          have hbl := World.block_lt_of_cell? wr _ c0
          have hbl' := World.block_lt_of_cell? wr _ c0'
          have HD1 := Lib.hid hd1; clear hd1; have HD2 := Lib.hid hd2; clear hd2; have HN1 := Lib.hid hn1; clear hn1; have HN2 := Lib.hid hn2; clear hn2; have HD := Lib.hid hd; clear hd
          go_wp2_with fail
          go_region_held3 (fun w' => w'.cell? ⟨b, off + k' * 4, none⟩ = some (.int .i64 k1) ∧ w'.cell? ⟨b, off + k' * 4 + 1, none⟩ = some (.int .i64 n1) ∧ w'.cell? ⟨b, off + k' * 4 + 2, none⟩ = some (.string s1) ∧ w'.cell? ⟨b, off + k' * 4 + 3, none⟩ = some (.slice a1' ms1'.length cap1') ∧ w'.cell? ⟨b', off' + k' * 4, none⟩ = some (.int .i64 k1) ∧ w'.cell? ⟨b', off' + k' * 4 + 1, none⟩ = some (.int .i64 n1) ∧ w'.cell? ⟨b', off' + k' * 4 + 2, none⟩ = some (.string s1) ∧ w'.cell? ⟨b', off' + k' * 4 + 3, none⟩ = some (.slice a2' ms2'.length cap2'))
            (first | exact ⟨c0, c1, c2, c3, c0', c1', c2', c3'⟩ | exact ⟨(hc1 _ _ hbl).trans c0, (hc1 _ _ hbl).trans c1, (hc1 _ _ hbl).trans c2, (hc1 _ _ hbl).trans c3, (hc1 _ _ hbl').trans c0', (hc1 _ _ hbl').trans c1', (hc1 _ _ hbl').trans c2', (hc1 _ _ hbl').trans c3'⟩)
            (first | (go_at_call 14; refine (iEqualData_calls ds1 k1 n1 s1 a1' cap1' ms1' k1 n1 s1 a2' cap2' ds1 ms2' _ HD1.out (HN1.out.below (by (repeat (first | with_reducible assumption | with_reducible exact Below.refl _ _ | with_reducible refine Below.drew ?_ | with_reducible refine belowDrewN ?_ _ | ((with_reducible refine Below.setCell ?_ ?_ _); rotate_left; focus (first | omega | (simp; done) | (simp; omega))) | ((with_reducible refine Below.alloc ?_ ?_ _); rotate_left; focus (first | omega | (simp; done) | (simp; omega))))))) HD2.out (HN2.out.below (by (repeat (first | with_reducible assumption | with_reducible exact Below.refl _ _ | with_reducible refine Below.drew ?_ | with_reducible refine belowDrewN ?_ _ | ((with_reducible refine Below.setCell ?_ ?_ _); rotate_left; focus (first | omega | (simp; done) | (simp; omega))) | ((with_reducible refine Below.alloc ?_ ?_ _); rotate_left; focus (first | omega | (simp; done) | (simp; omega)))))))).mono ?_; rw [eqDB_self]; rintro e w5 ⟨rfl, hb5⟩; obtain ⟨hc1, hf1⟩ := bcell hb5))
          have hz5 := hb5.size
          simp only [World.size_drew] at hz5
          go_wp2_with fail
          go_roundw
          case rel => exact ⟨k' + 1, by omega, by go_num, by (repeat (first | with_reducible assumption | with_reducible exact Below.refl _ _ | with_reducible refine Below.drew ?_ | with_reducible refine belowDrewN ?_ _ | ((with_reducible refine Below.setCell ?_ ?_ _); rotate_left; focus (first | omega | (simp; done) | (simp; omega))) | ((with_reducible refine Below.alloc ?_ ?_ _); rotate_left; focus (first | omega | (simp; done) | (simp; omega))) | ((with_reducible refine Below.trans ?_ (Below.mono hb ?_)); rotate_left; focus (first | omega | (simp; done) | (simp; omega))) | ((with_reducible refine Below.trans ?_ (Below.mono hb5 ?_)); rotate_left; focus (first | omega | (simp; done) | (simp; omega))))), by omega⟩
          case measure => simp [intOf]; omega
        · have hb0r : Below w.heap.size w wr := HB04.out.trans (hb.mono (by omega))
          have hpw := (HM1.out.in_)
          clear hpw
          have HB0R := Lib.hid hb0r; clear hb0r
          go_wp2_with fail
          refine (drawParseData_calls a c l _ (HIN.out.below HB0R.out) HU.out (by omega)).mono ?_
          rintro e w6 ⟨t, rfl, hts, hb6⟩
          have hz6 := hb6.size
          go_wp2_with fail
          refine (iParseData_calls t _ (by omega) ((HT.out.on (HB0R.out.trans (hb6.mono (by omega)))).mono (by omega)) ((HE.out.on (HB0R.out.trans (hb6.mono (by omega)))).mono (by omega))).mono ?_
          rintro e w7 ⟨a7, cap7, ms7, rfl, hi7, hm7, hb7⟩
          have hz7 := hb7.size
          have hcp7 := hm7.in_.len
          have hb07 : Below w.heap.size w w7 := HB0R.out.trans ((hb6.mono (by omega)).trans (hb7.mono (by omega)))
          clear hb6 hb7
          cases hq : parseB t with
          | none =>
            rw [hq] at hi7
            simp only [Option.getD_none, Option.isSome_none] at hi7 ⊢
            have HI7 := Lib.hid hi7; clear hi7; have HM7 := Lib.hid hm7; clear hm7; have HB07 := Lib.hid hb07; clear hb07
            go_wp2_with fail
            refine (iFormatData2_calls [] a7 cap7 ms7 _ trivial (by simp [Dat.countL]) HI7.out HM7.out.in_ ((HT.out.on HB07.out).mono (by omega))).mono ?_
            rintro e w8 ⟨rfl, hb8⟩
            have hz8 := hb8.size
            have hfl := fmtsOf_length []
            generalize hF2 : (⟨(fmtsOf []).toArray⟩ : ByteArray) = F2
            have hFs2 : F2.size ≤ 9223372036854775807 := by rw [← hF2]; simp [ByteArray.size]; omega
            clear hF2 hfl
            go_wp2_with fail
            refine (iParseData_calls F2 _ hFs2 ((HT.out.on (HB07.out.trans (hb8.mono (by omega)))).mono (by omega)) ((HE.out.on (HB07.out.trans (hb8.mono (by omega)))).mono (by omega))).mono ?_
            rintro e w9 ⟨a9, cap9, ms9, rfl, hi9, hm9, hb9⟩
            generalize (parseB F2).isSome = pz
            have hcp9 := hm9.in_.len
            have HI9 := Lib.hid hi9; clear hi9; have HM9 := Lib.hid hm9; clear hm9
            go_wp2_with fail
            go_ret
            exact ⟨rfl, by (repeat (first | with_reducible assumption | with_reducible exact Below.refl _ _ | with_reducible refine Below.drew ?_ | with_reducible refine belowDrewN ?_ _ | ((with_reducible refine Below.setCell ?_ ?_ _); rotate_left; focus (first | omega | (simp; done) | (simp; omega))) | ((with_reducible refine Below.alloc ?_ ?_ _); rotate_left; focus (first | omega | (simp; done) | (simp; omega))) | ((with_reducible refine Below.trans ?_ (Below.mono HB07.out ?_)); rotate_left; focus (first | omega | (simp; done) | (simp; omega))) | ((with_reducible refine Below.trans ?_ (Below.mono hb8 ?_)); rotate_left; focus (first | omega | (simp; done) | (simp; omega))) | ((with_reducible refine Below.trans ?_ (Below.mono hb9 ?_)); rotate_left; focus (first | omega | (simp; done) | (simp; omega)))))⟩
          | some es =>
            rw [hq] at hi7
            simp only [Option.getD_some, Option.isSome_some] at hi7 ⊢
            obtain ⟨hare, hrest⟩ := parse_are hq
            obtain ⟨hwle, hcte⟩ := hrest hts
            have hfl := fmtsOf_length es
            have hp2 := parse_fmt hare
            rw [← fmtsOf_yes hare] at hp2
            have HI7 := Lib.hid hi7; clear hi7; have HM7 := Lib.hid hm7; clear hm7; have HB07 := Lib.hid hb07; clear hb07; have HWLE := Lib.hid hwle; clear hwle; have HCTE := Lib.hid hcte; clear hcte
            go_wp2_with fail
            refine (iFormatData2_calls es a7 cap7 ms7 _ HWLE.out (by have := HCTE.out; omega) HI7.out HM7.out.in_ ((HT.out.on HB07.out).mono (by omega))).mono ?_
            rintro e w8 ⟨rfl, hb8⟩
            have hz8 := hb8.size
            generalize hF2 : (⟨(fmtsOf es).toArray⟩ : ByteArray) = F2 at *
            have hFs2 : F2.size ≤ 9223372036854775807 := by rw [← hF2]; simp [ByteArray.size]; omega
            clear hfl
            have hb08 : Below w.heap.size w w8 := HB07.out.trans (hb8.mono (by omega))
            have hin8 := HM7.out.in_.below hb8
            have HB08 := Lib.hid hb08; clear hb08; have HIN8 := Lib.hid hin8; clear hin8; have HP2 := Lib.hid hp2; clear hp2; have HF2 := Lib.hid hF2; clear hF2
            go_wp2_with fail
            refine (iParseData_calls F2 _ hFs2 ((HT.out.on HB08.out).mono (by omega)) ((HE.out.on HB08.out).mono (by omega))).mono ?_
            rw [HP2.out]
            rintro e w9 ⟨a9, cap9, ms9, rfl, hi9, hm9, hb9⟩
            simp only [Option.getD_some, Option.isSome_some] at hi9 ⊢
            have hz9 := hb9.size
            have hcp9 := hm9.in_.len
            have hl97 : ms9.length = ms7.length := by rw [hi9.length, HI7.out.length]
            have hb09 : Below w.heap.size w w9 := HB08.out.trans (hb9.mono (by omega))
            have hin79 := HIN8.out.below hb9
            have hcl := iFormatData2_calls es a9 cap9 ms9 w9 HWLE.out (by have := HCTE.out; omega) hi9 hm9.in_ ((HT.out.on hb09).mono (by omega))
            rw [HF2.out] at hcl
            rw [hl97] at hcl
            rw [hl97]
            have HI9 := Lib.hid hi9; clear hi9; have HM9 := Lib.hid hm9; clear hm9; have HB09 := Lib.hid hb09; clear hb09; have HIN79 := Lib.hid hin79; clear hin79; have HCL := Lib.hid hcl; clear hcl
            go_wp2_with fail
            refine HCL.out.mono ?_
            rintro e w10 ⟨rfl, hb10⟩
            have hz10 := hb10.size
            have hcl2 := iFormatData2_calls es a7 cap7 ms7 w10 HWLE.out (by have := HCTE.out; omega) HI7.out (HIN79.out.below hb10) ((HT.out.on (HB09.out.trans (hb10.mono (by omega)))).mono (by omega))
            rw [HF2.out] at hcl2
            have HCL2 := Lib.hid hcl2; clear hcl2
            go_wp2_with fail
            refine HCL2.out.mono ?_
            rintro e w11 ⟨rfl, hb11⟩
            go_wp2_with fail
            go_ret
            exact ⟨rfl, by (repeat (first | with_reducible assumption | with_reducible exact Below.refl _ _ | with_reducible refine Below.drew ?_ | with_reducible refine belowDrewN ?_ _ | ((with_reducible refine Below.setCell ?_ ?_ _); rotate_left; focus (first | omega | (simp; done) | (simp; omega))) | ((with_reducible refine Below.alloc ?_ ?_ _); rotate_left; focus (first | omega | (simp; done) | (simp; omega))) | ((with_reducible refine Below.trans ?_ (Below.mono HB09.out ?_)); rotate_left; focus (first | omega | (simp; done) | (simp; omega))) | ((with_reducible refine Below.trans ?_ (Below.mono hb10 ?_)); rotate_left; focus (first | omega | (simp; done) | (simp; omega))) | ((with_reducible refine Below.trans ?_ (Below.mono hb11 ?_)); rotate_left; focus (first | omega | (simp; done) | (simp; omega)))))⟩

theorem gPow_ : Tryd.prog.globalNamed "internal/strconv.uint64pow10" = some 0 := by kernel_rfl
theorem tyPow_ : (Tryd.prog.globals[0]?).map (·.type) = some 104 := by kernel_rfl
theorem pow_data_ : (Rows.laid_internal_strconv_uint64pow10 : DataW Unit) = Lib.tabData .u64 Lib.pow10Tab := by kernel_rfl
theorem fnSourceText_tab {W : World} (h : laidMetH Tryd.prog Rows.fnSourceTextRow.laid W) : Tab W.heap.size W := by
  rw [MakeChecks.laidMetH_plain _ _ _ (by kernel_rfl)] at h
  have h2 := laidMet.tail (laidMet.tail h)
  have h3 : laidMet Tryd.prog (("internal/strconv.uint64pow10", Lib.tabData .u64 Lib.pow10Tab) :: _) W := pow_data_ ▸ h2
  exact Tab.of (Lib.tabIs_of_head gPow_ tyPow_ Tryd.underlying104 Tryd.underlying90 (by kernel_rfl) (by kernel_rfl) h3)
theorem tyErr_ : (Tryd.prog.globals[1]?).map (·.type) = some 94 := by kernel_rfl
theorem star_ : "*" ++ "errors.errorString" = "*errors.errorString" := by decide
theorem rowErr_ (u : TypeId) (h : Tryd.prog.typeName? 3 u = some "*errors.errorString") : u = 126 :=
  typeName_ptr_named (nm := "errors.errorString") (by rw [star_]; kernel_rfl) (by kernel_rfl) (by decide) u (by rw [star_]; exact h)
theorem fnSourceText_sent {W : World} (h : laidMetH Tryd.prog Rows.fnSourceTextRow.laid W) : Sent W.heap.size W := by
  rw [MakeChecks.laidMetH_plain _ _ _ (by kernel_rfl)] at h
  have h2 := laidMet.tail (laidMet.tail (laidMet.tail (laidMet.tail h)))
  obtain ⟨a, s, hv, _⟩ := laid_sentinel h2 gErr_ tyErr_ Tryd.underlying94 rowErr_ Tryd.underlying126 Tryd.underlying128 rfl rfl Tryd.underlying9 (by kernel_rfl) (by kernel_rfl)
  exact Sent.of hv
set_option maxRecDepth 100000 in
theorem fnSourceText_door (os : Os) (args : Array Value) : laidMetH Tryd.prog Rows.fnSourceTextRow.laid ((World.doorLaid Tryd.prog 400 os).forCall (fun _ _ => 0) ⟨#[], args, []⟩).memory :=
  laidMetH_of_parts3 (fuel := 8) (laidMet_of_run' 8 (by kernel_rfl) (by kernel_rfl)) (by kernel_rfl) (by kernel_rfl)

set_option maxHeartbeats 1000000 in
set_option maxRecDepth 100000 in
theorem fnSourceText_lifted (os : Os) (started : os.Started) (H : Type) (enc : TypeId × Value → H) :
    ReturnsInHanded {} Tryd.checked os 4 .any (fun w args => (Rows.fnSourceTextSpec.pre enc Tryd.prog Tryd.f4 [] false w args ∧ laidMetH Tryd.prog Rows.fnSourceTextRow.laid w) ∧ sizedMet enc Tryd.prog Tryd.f4 (OpenSpec.ofChange Rows.fnSourceTextSpec) false w args)
      (Rows.fnSourceTextSpec.post enc Tryd.prog Tryd.f4 false true false false) := by
  refine returnsInHanded_of_change_and (C := Tryd.checked) (X := fun w _ => laidMetH Tryd.prog Rows.fnSourceTextRow.laid w) (fun _ _ _ hh h => h.of_heap hh) own_ started (by kernel_rfl) Tryd.func4
    (ChangeSpec.witness_shaped (enc := enc) (C := Tryd.checked) (os := os) (X := fun w _ => laidMetH Tryd.prog Rows.fnSourceTextRow.laid w) false (World.doorLaid Tryd.prog 400 os) #[.slice none 0 0] 8 rfl (World.shaped_of_RefB (by kernel_rfl) (by kernel_rfl)) (by kernel_rfl) (by kernel_rfl) (by kernel_rfl) (fnSourceText_door os _)) ?_
  intro W base args ds gs before hval0 hW _ _ hL _
  have hval : ∀ (j : Nat) t v, Tryd.f4.params[j]? = some t → args[j]? = some v → Value.okWide Tryd.prog W .any base t v := hval0
  have hT := fnSourceText_tab hL
  have hE := fnSourceText_sent hL
  have hW' := hW
  obtain ⟨p, q, hA0, hV, rfl, hfz, hnd⟩ := hW
  have hA : DataW.TrodAll enc Tryd.prog W 0 (fun _ => true) true Tryd.f4.params.toList args.toList ds p := hA0
  rw [Tryd.params4] at hA hval
  obtain ⟨v0, vs0, d0, ds0_, p0, q0, hargs, rfl, rfl, h0, r0⟩ := trodAll_cons hA
  obtain ⟨rfl, rfl, rfl⟩ := trodAll_nil r0
  obtain rfl : args = #[v0] := by cases args; simp_all
  obtain ⟨rfl, rfl⟩ := trodVars_none hV
  have k0_ := h0
  have lt0 : ∀ x ∈ p0, x.block < W.heap.size := by obtain ⟨m, hm⟩ := k0_; exact DataW.trod_lt m _ _ _ hm
  obtain ⟨a0, c0, l0, rfl, hin0, wl0⟩ := arg_bytes (hval 0 31 v0 rfl rfl) h0
  clear hA0 hval0 hL
  refine (fnSourceText_walk a0 c0 l0 W hin0 wl0 hT hE).mono fun e W' ⟨he, bel⟩ => ?_
  subst he
  exact ⟨_, rfl, _, _, _, [], _, [], hW', trodAll_mk1 (shut_bool Tryd.underlying4 _), (trodAll_cons_mk (Below.trod laidOut_ (by kernel_rfl) (of_decide_eq_true (by kernel_rfl)) k0_ bel lt0) trodAll_mk0), rfl, bel.frame _, fun h => by cases h⟩

set_option maxHeartbeats 2000000 in
theorem fnSourceText_facts : joinedFacts Tryd.prog 4 Tryd.f4 Rows.fnSourceTextSpec Rows.fnSourceTextRow = true := by
  unfold joinedFacts
  repeat' with_reducible refine and_mk ?_ ?_
  all_goals first | with_reducible exact mayEnter_ | (rw [lifts_]; kernel_rfl) | (rw [make_]; kernel_rfl) | (as_aux_lemma => kernel_rfl)

set_option maxHeartbeats 2000000 in
/-- FnSourceText: for every input the call returns true, and each argument reads afterwards as before. Condition: the listed variables of the library read as laid. -/
theorem fnSourceText_row : Rows.FnSourceTextSaid :=
  OpenClaim.holds_of_wide 4 Tryd.f4 rfl rfl rfl rfl rfl rfl rfl ⟨rfl, rfl, rfl, rfl, rfl⟩ rfl rfl rfl rfl rfl (by as_aux_lemma => kernel_rfl) Tryd.func4 fnSourceText_facts
    (of_decide_eq_true (by kernel_rfl)) (by unfold Func.isWrapper; first | (rw [if_pos (by decide +kernel)]; kernel_rfl) | (rw [if_neg (by decide +kernel)]; exact ⟨rfl, rfl⟩))
    (fun os started H enc _ => fnSourceText_lifted os started H enc)
/-- FnSourceText: the card: the same, with the listed variables tied to the program's text. -/
theorem fnSourceText_holds : Rows.FnSourceTextCardSaid :=
  Claim7.holds_tied_plain_at .later [] [.data, .data, .data, .sentinel, .sentinel] true Rows.fnSourceTextCard.stood.harness true
    fnSourceText_row (fun _ h => by cases h) (by kernel_rfl) (fun _ h => by cases h) fnSourceText_row_tie rfl ⟨rfl, rfl⟩ (by kernel_rfl) rfl
    (fun f fn hf hfn => by
      obtain rfl : f = 4 := Option.some.inj ((show Tryd.prog.funcNamed "loop.example/g03220/laws.FnSourceText" = some 4 by kernel_rfl).symm.trans hf) |>.symm
      obtain rfl : fn = Tryd.f4 := (Option.some.inj (Tryd.func4.symm.trans hfn)).symm
      exact ⟨by kernel_rfl, fun j t ht => by
        rw [Tryd.params4] at ht
        have hm : t ∈ [31] := by simpa using Array.mem_of_getElem? ht
        have hall : ([31].all fun u => !Tryd.prog.wantsStandIn u) = true := by kernel_rfl
        exact (show Tryd.prog.wantsStandIn t = false by simpa using List.all_eq_true.1 hall t hm)⟩)
    (by kernel_rfl)
#print axioms fnSourceText_holds

end Go.Proofs.YtghbnehocggnnaaDoor
