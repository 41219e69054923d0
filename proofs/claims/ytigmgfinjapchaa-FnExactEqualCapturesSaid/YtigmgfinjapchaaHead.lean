/-
  The head of the translation as lists of signs, and the closed facts that read it (by the lists: the kernel takes a long string apart at too great a cost). No condition.
-/
import Derived.Test.YtigmgfinjapchaaRows
import Derived.ProofKit
set_option maxRecDepth 100000
namespace Go.Proofs.Ytigmgfinjapchaa
def sgHarness : List Char := [104, 97, 114, 110, 101, 115, 115].map Char.ofNat
def sgSum : List Char := [98, 48, 51, 99, 56, 99, 53, 99, 57, 57, 97, 99, 56, 98, 55, 101, 101, 49, 99, 53, 97, 102, 97, 100, 51, 51, 52, 99, 56, 48, 98, 99, 53, 50, 55, 98, 97, 53, 52, 51, 48, 49, 54, 48, 53, 99, 97, 100, 101, 53, 100, 54, 57, 102, 52, 48, 50, 98, 54, 49, 99, 53, 55, 48].map Char.ofNat
def sgCut : List Char := [99, 117, 116].map Char.ofNat
def sgRest : List Char := [97, 116, 32, 108, 111, 111, 112, 46, 101, 120, 97, 109, 112, 108, 101, 47, 103, 48, 51, 50, 50, 48, 47, 108, 97, 119, 115, 46, 70, 110, 69, 120, 97, 99, 116, 69, 113, 117, 97, 108, 67, 97, 112, 116, 117, 114, 101, 115, 32, 108, 111, 111, 112, 46, 101, 120, 97, 109, 112, 108, 101, 47, 103, 48, 51, 50, 50, 48, 47, 108, 97, 119, 115, 46, 70, 110, 66, 111, 117, 110, 100, 32, 108, 111, 111, 112, 46, 101, 120, 97, 109, 112, 108, 101, 47, 103, 48, 51, 50, 50, 48, 47, 108, 97, 119, 115, 46, 70, 110, 83, 99, 111, 112, 101, 115, 32, 108, 111, 111, 112, 46, 101, 120, 97, 109, 112, 108, 101, 47, 103, 48, 51, 50, 50, 48, 47, 108, 97, 119, 115, 46, 70, 110, 82, 101, 115, 111, 108, 118, 101, 100].map Char.ofNat
def sgBlank : Char := Char.ofNat 32
def headSigns : List Char := sgHarness ++ sgBlank :: (sgSum ++ sgBlank :: (sgCut ++ sgBlank :: sgRest))
theorem head_eq : Try.prog.initOrder = String.ofList headSigns := by kernel_rfl
theorem head_list : Try.prog.initOrder.toList = headSigns := by rw [head_eq]; exact String.toList_ofList
theorem words_cons (w r : List Char) (h : ∀ c ∈ w, c ≠ sgBlank) : wordsSigns (w ++ sgBlank :: r) = w :: wordsSigns r := by
  induction w with
  | nil => rfl
  | cons c w ih =>
    have h0 := h c (List.mem_cons_self ..)
    have h1 := ih fun d hd => h d (List.mem_cons_of_mem _ hd)
    rw [List.cons_append, wordsSigns.eq_3 _ _ (by simpa [sgBlank] using h0), h1]
theorem behind_of (a b c : List Char) (tl : List (List Char)) (h : (a == "harness".toList) = true) (h2 : isSumSigns b = true) : behindMainWord (a :: b :: c :: tl) = c :: tl := by
  show (if ((a == "harness".toList || a == "ownmain".toList) && isSumSigns b) = true then c :: tl else a :: b :: c :: tl) = c :: tl
  rw [h, h2]
  rfl
theorem head_words : ∃ tl, behindMainWord (wordsSigns Try.prog.initOrder.toList) = sgCut :: tl := by
  rw [head_list, headSigns, words_cons _ _ (by decide +kernel), words_cons _ _ (by decide +kernel), words_cons _ _ (by decide +kernel)]
  exact ⟨_, behind_of _ _ _ _ (by decide +kernel) (by decide +kernel)⟩
theorem and_mk {a b : Bool} (ha : a = true) (hb : b = true) : (a && b) = true := by rw [ha, hb]; rfl
theorem sgCut_eq : sgCut = "cut".toList := by decide +kernel
theorem strip_cut (tl : List (List Char)) : stripLifts liftWords (sgCut :: tl) = ([], sgCut :: tl) := by kernel_rfl
theorem headLifts_of {P : Program} {tl : List (List Char)} (h : behindMainWord (wordsSigns P.initOrder.toList) = sgCut :: tl) : P.headLifts = [] := by
  unfold Program.headLifts
  rw [h, strip_cut]
  simp
theorem lifts_of {P : Program} {tl : List (List Char)} (h : behindMainWord (wordsSigns P.initOrder.toList) = sgCut :: tl) : P.liftsFinal = false := by
  unfold Program.liftsFinal
  rw [headLifts_of h, h, sgCut_eq]
  simp
theorem make_of {P : Program} {tl : List (List Char)} (h : behindMainWord (wordsSigns P.initOrder.toList) = sgCut :: tl) : P.make = some .cut := by
  unfold Program.make
  rw [h, sgCut_eq]
  simp
theorem mayEnter_of {P : Program} {tl : List (List Char)} (h : behindMainWord (wordsSigns P.initOrder.toList) = sgCut :: tl) (h1 : P.laysLater = false) (h2 : P.bearsReflect = false) (h3 : P.doorFits [] = true) : P.mayEnter = true := by
  unfold Program.mayEnter
  rw [h]
  simp only [strip_cut, h1, h2, h3]
  rw [sgCut_eq]
  simp
theorem lays_ : Try.prog.laysLater = false := by kernel_rfl
theorem bears_ : Try.prog.bearsReflect = false := by kernel_rfl
theorem door_ : Try.prog.doorFits [] = true := by kernel_rfl
theorem mayEnter_ : Try.prog.mayEnter = true := by obtain ⟨tl, h⟩ := head_words; exact mayEnter_of h lays_ bears_ door_
theorem lifts_ : Try.prog.liftsFinal = false := by obtain ⟨tl, h⟩ := head_words; exact lifts_of h
theorem make_ : Try.prog.make = some .cut := by obtain ⟨tl, h⟩ := head_words; exact make_of h
end Go.Proofs.Ytigmgfinjapchaa
