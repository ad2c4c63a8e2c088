-- Printed by a program of this session (wip/own_print.py) out of the translation; Lean checks it.
import Derived.Test.YtinmdoemkejanaaShort
import Derived.Test.YtinmdoemkejanaaPrint0
import Derived.Test.YtinmdoemkejanaaPrint9
import Derived.Test.YtinmdoemkejanaaPrint10
import Derived.Test.YtinmdoemkejanaaPrint11
namespace Go.Proofs.Ytinmdoemkejanaa.Print
open Go.RowKit Go.Proofs.YtinmdoemkejanaaW.PrintWords Go.Proofs.YtinmdoemkejanaaW.PrintLast Go.Proofs.YtinmdoemkejanaaW.PrintMore
attribute [local go_sem] max2_int min2_int max_two min_two max_three min_three max_four min_four   -- for this text's walks alone
set_option linter.unusedVariables false
set_option linter.unusedSimpArgs false

/-! ### awardingbodymake_Tape_Item: function 16 -/
mutual
def awardingbodymake_Tape_Item.l0 : Nat → Int → Int → Int → List Int → Int → Int → Int → ByteArray → List (S23) → Option (Int × Int × ByteArray × (List (S23)) × List Int × Int)
  | 0, _, _, _, _, _, _, _, _, _ => none
  | k + 1, x1, x3, x10, x1000, x1001, x249000, x249001, x249002, x249003 => if x10 > 0 then ((awardingbodymake_Tape_Part.f k x1000 x1001 0).bind fun bt251 => (if x249003.length < 2932031007402 then (awardingbodymake_Tape_Item.l0 k x1 x3 (wrap64 (x10 - 1)) x1000 bt251.2.2.2.2.2.2 x249000 x249001 x249002 (x249003 ++ [(⟨bt251.1, bt251.2.1, bt251.2.2.1, bt251.2.2.2.1, bt251.2.2.2.2.1, bt251.2.2.2.2.2.1⟩ : S23)])) else (none))) else (awardingbodymake_Tape_Item.l1 k x1 x3 0 x1000 x1001 x249000 x249001 x249002 x249003 ([] : List Int))
def awardingbodymake_Tape_Item.l1 : Nat → Int → Int → Int → List Int → Int → Int → Int → ByteArray → List (S23) → List Int → Option (Int × Int × ByteArray × (List (S23)) × List Int × Int)
  | 0, _, _, _, _, _, _, _, _, _, _ => none
  | k + 1, x1, x3, x11, x1000, x1001, x249000, x249001, x249002, x249003, x249004 => if x11 < 6 then (if x11 = x1 then (awardingbodymake_Tape_Item.l1 k x1 x3 (wrap64 (x11 + 1)) x1000 x1001 x249000 x249001 x249002 x249003 x249004) else ((awardingbodymake_Tape_One.f x1000 x1001 8).bind fun bt261 => (if bt261.1 = true then (if x249004.length < 17592186044416 then (awardingbodymake_Tape_Item.l1 k x1 x3 (wrap64 (x11 + 1)) x1000 bt261.2 x249000 x249001 x249002 x249003 (x249004 ++ [x11])) else (none)) else (awardingbodymake_Tape_Item.l1 k x1 x3 (wrap64 (x11 + 1)) x1000 bt261.2 x249000 x249001 x249002 x249003 x249004)))) else (if x3 > 0 then ((awardingbodymake_Tape_One.f x1000 x1001 x3).bind fun bt266 => (awardingbodymake_Tape_Item.j2 k x1 bt266.1 x1000 bt266.2 x249000 x249001 x249002 x249003 x249004)) else (awardingbodymake_Tape_Item.j2 k x1 false x1000 x1001 x249000 x249001 x249002 x249003 x249004))
def awardingbodymake_Tape_Item.j2 : Nat → Int → Bool → List Int → Int → Int → Int → ByteArray → List (S23) → List Int → Option (Int × Int × ByteArray × (List (S23)) × List Int × Int)
  | 0, _, _, _, _, _, _, _, _, _ => none
  | k + 1, x1, x54, x1000, x1001, x249000, x249001, x249002, x249003, x249004 => if x54 = true then ((awardingbodymake_Tape_Next.f x1000 x1001 7).bind fun bt268 => (if bt268.1 = 0 then ((awardingbodymake_Tape_Wild.f x1000 bt268.2).bind fun bt270 => (some (bt270.1, x249001, x249002, x249003, x249004, bt270.2))) else (if bt268.1 = 1 then ((awardingbodymake_Tape_Pick.f x1000 bt268.2 (([0, 8, 9, (-1)] : List Int))).bind fun bt275 => (some (x249000, bt275.1, x249002, x249003, x249004, bt275.2))) else (if bt268.1 = 2 then ((some (([(⟨#[]⟩ : ByteArray), (⟨#[116, 97, 98, 9]⟩ : ByteArray), (⟨#[48, 49, 50, 51, 52, 53, 54, 55, 56, 57, 48, 49, 50, 51, 52, 53, 54, 55, 56, 57, 48, 49, 50, 51, 52, 53, 54, 55, 56, 57, 48, 49, 50, 51, 52, 53, 54, 55, 56, 57, 120]⟩ : ByteArray)] : List ByteArray) : List ByteArray)).bind fun y277 => ((awardingbodymake_Tape_Next.f x1000 bt268.2 3).bind fun bt280 => (if 0 ≤ bt280.1 then (if bt280.1 < (y277.length : Int) then (some (x249000, x249001, rdOf ByteArray.empty y277 bt280.1, x249003, x249004, bt280.2)) else (none)) else (none)))) else (if bt268.1 = 3 then (some (x249000, x249001, x249002, ([] : List (S23)), x249004, bt268.2)) else (if bt268.1 = 4 then ((awardingbodymake_Tape_Part.f k x1000 bt268.2 1).bind fun bt283 => (if x249003.length < 2932031007402 then (some (x249000, x249001, x249002, (x249003 ++ [(⟨bt283.1, bt283.2.1, bt283.2.2.1, bt283.2.2.2.1, bt283.2.2.2.2.1, bt283.2.2.2.2.2.1⟩ : S23)]), x249004, bt283.2.2.2.2.2.2)) else (none))) else (if bt268.1 = 5 then ((awardingbodymake_Tape_Pick.f x1000 bt268.2 (([0, x1, (-1), 10000, 3] : List Int))).bind fun bt296 => (if x249004.length < 17592186044416 then (some (x249000, x249001, x249002, x249003, (x249004 ++ [bt296.1]), bt296.2)) else (none))) else (if 0 < (x249003.length : Int) then ((some (([(⟨(rd_T23 x249003 0).f0, (rd_T23 x249003 0).f1, (rd_T23 x249003 0).f2, (rd_T23 x249003 0).f3, (rd_T23 x249003 0).f4, (rd_T23 x249003 0).f5⟩ : S23), (⟨(rd_T23 x249003 0).f0, (rd_T23 x249003 0).f1, (rd_T23 x249003 0).f2, (rd_T23 x249003 0).f3, (rd_T23 x249003 0).f4, (rd_T23 x249003 0).f5⟩ : S23), (⟨(rd_T23 x249003 0).f0, (rd_T23 x249003 0).f1, (rd_T23 x249003 0).f2, (rd_T23 x249003 0).f3, (rd_T23 x249003 0).f4, (rd_T23 x249003 0).f5⟩ : S23), (⟨(rd_T23 x249003 0).f0, (rd_T23 x249003 0).f1, (rd_T23 x249003 0).f2, (rd_T23 x249003 0).f3, (rd_T23 x249003 0).f4, (rd_T23 x249003 0).f5⟩ : S23), (⟨(rd_T23 x249003 0).f0, (rd_T23 x249003 0).f1, (rd_T23 x249003 0).f2, (rd_T23 x249003 0).f3, (rd_T23 x249003 0).f4, (rd_T23 x249003 0).f5⟩ : S23), (⟨(rd_T23 x249003 0).f0, (rd_T23 x249003 0).f1, (rd_T23 x249003 0).f2, (rd_T23 x249003 0).f3, (rd_T23 x249003 0).f4, (rd_T23 x249003 0).f5⟩ : S23)] : List (S23)) : List (S23))).bind fun y307 => (if x249003.length + y307.length < 2932031007402 then (some (x249000, x249001, x249002, (x249003 ++ y307), x249004, bt268.2)) else (none))) else (none))))))))) else (some (x249000, x249001, x249002, x249003, x249004, x1001))
end
def awardingbodymake_Tape_Item.f (k : Nat) (s0_0 : List Int) (s0_1 : Int) (a1 : Int) (a2 : Int) (a3 : Int) : Option (Int × Int × ByteArray × (List (S23)) × List Int × Int) := (awardingbodymake_Tape_Word.f k s0_0 s0_1 3).bind fun bt246 => (if 1 + bt246.1.size ≤ 9223372036854775807 then ((awardingbodymake_Tape_Range.f s0_0 bt246.2 1 3).bind fun bt249 => (awardingbodymake_Tape_Item.l0 k a1 a3 bt249.1 s0_0 bt249.2 a1 a2 ((⟨#[113]⟩ : ByteArray) ++ bt246.1) ([] : List (S23)))) else (none))
theorem awardingbodymake_Tape_Item.mono_l : ∀ k, (∀ y0 y1 y2 y3 y4 y5 y6 y7 y8, LeO (awardingbodymake_Tape_Item.l0 k y0 y1 y2 y3 y4 y5 y6 y7 y8) (awardingbodymake_Tape_Item.l0 (k + 1) y0 y1 y2 y3 y4 y5 y6 y7 y8)) ∧ (∀ y0 y1 y2 y3 y4 y5 y6 y7 y8 y9, LeO (awardingbodymake_Tape_Item.l1 k y0 y1 y2 y3 y4 y5 y6 y7 y8 y9) (awardingbodymake_Tape_Item.l1 (k + 1) y0 y1 y2 y3 y4 y5 y6 y7 y8 y9)) ∧ (∀ y0 y1 y2 y3 y4 y5 y6 y7 y8, LeO (awardingbodymake_Tape_Item.j2 k y0 y1 y2 y3 y4 y5 y6 y7 y8) (awardingbodymake_Tape_Item.j2 (k + 1) y0 y1 y2 y3 y4 y5 y6 y7 y8))
  | 0 => ⟨fun _ _ _ _ _ _ _ _ _ r h => by simp [awardingbodymake_Tape_Item.l0] at h, fun _ _ _ _ _ _ _ _ _ _ r h => by simp [awardingbodymake_Tape_Item.l1] at h, fun _ _ _ _ _ _ _ _ _ r h => by simp [awardingbodymake_Tape_Item.j2] at h⟩
  | k + 1 => by
    obtain ⟨ih0, ih1, ih2⟩ := awardingbodymake_Tape_Item.mono_l k
    refine ⟨?_, ?_, ?_⟩
    · intro y0 y1 y2 y3 y4 y5 y6 y7 y8
      unfold awardingbodymake_Tape_Item.l0
      repeat' first
      | (with_reducible exact ih0 _ _ _ _ _ _ _ _ _)
      | (with_reducible exact ih1 _ _ _ _ _ _ _ _ _ _)
      | (with_reducible exact ih2 _ _ _ _ _ _ _ _ _)
      | (with_reducible exact awardingbodymake_Tape_Part.mono _ _ _ _)
      | (with_reducible exact awardingbodymake_Tape_Word.mono _ _ _ _)
      | (with_reducible exact LeO.refl _)
      | (with_reducible exact LeO.none _)
      | (with_reducible refine LeO.ite ?_ ?_)
      | (with_reducible refine LeO.bind ?_ (fun _ => ?_))
      | exact ih0 _ _ _ _ _ _ _ _ _
      | exact ih1 _ _ _ _ _ _ _ _ _ _
      | exact ih2 _ _ _ _ _ _ _ _ _
      | exact awardingbodymake_Tape_Part.mono _ _ _ _
      | exact awardingbodymake_Tape_Word.mono _ _ _ _
      | exact LeO.none _
      | refine LeO.ite ?_ ?_
      | refine LeO.bind ?_ (fun _ => ?_)
    · intro y0 y1 y2 y3 y4 y5 y6 y7 y8 y9
      unfold awardingbodymake_Tape_Item.l1
      repeat' first
      | (with_reducible exact ih0 _ _ _ _ _ _ _ _ _)
      | (with_reducible exact ih1 _ _ _ _ _ _ _ _ _ _)
      | (with_reducible exact ih2 _ _ _ _ _ _ _ _ _)
      | (with_reducible exact awardingbodymake_Tape_Part.mono _ _ _ _)
      | (with_reducible exact awardingbodymake_Tape_Word.mono _ _ _ _)
      | (with_reducible exact LeO.refl _)
      | (with_reducible exact LeO.none _)
      | (with_reducible refine LeO.ite ?_ ?_)
      | (with_reducible refine LeO.bind ?_ (fun _ => ?_))
      | exact ih0 _ _ _ _ _ _ _ _ _
      | exact ih1 _ _ _ _ _ _ _ _ _ _
      | exact ih2 _ _ _ _ _ _ _ _ _
      | exact awardingbodymake_Tape_Part.mono _ _ _ _
      | exact awardingbodymake_Tape_Word.mono _ _ _ _
      | exact LeO.none _
      | refine LeO.ite ?_ ?_
      | refine LeO.bind ?_ (fun _ => ?_)
    · intro y0 y1 y2 y3 y4 y5 y6 y7 y8
      unfold awardingbodymake_Tape_Item.j2
      repeat' first
      | (with_reducible exact ih0 _ _ _ _ _ _ _ _ _)
      | (with_reducible exact ih1 _ _ _ _ _ _ _ _ _ _)
      | (with_reducible exact ih2 _ _ _ _ _ _ _ _ _)
      | (with_reducible exact awardingbodymake_Tape_Part.mono _ _ _ _)
      | (with_reducible exact awardingbodymake_Tape_Word.mono _ _ _ _)
      | (with_reducible exact LeO.refl _)
      | (with_reducible exact LeO.none _)
      | (with_reducible refine LeO.ite ?_ ?_)
      | (with_reducible refine LeO.bind ?_ (fun _ => ?_))
      | exact ih0 _ _ _ _ _ _ _ _ _
      | exact ih1 _ _ _ _ _ _ _ _ _ _
      | exact ih2 _ _ _ _ _ _ _ _ _
      | exact awardingbodymake_Tape_Part.mono _ _ _ _
      | exact awardingbodymake_Tape_Word.mono _ _ _ _
      | exact LeO.none _
      | refine LeO.ite ?_ ?_
      | refine LeO.bind ?_ (fun _ => ?_)
theorem awardingbodymake_Tape_Item.mono : ∀ a0 a1 a2 a3 a4 k, LeO (awardingbodymake_Tape_Item.f k a0 a1 a2 a3 a4) (awardingbodymake_Tape_Item.f (k + 1) a0 a1 a2 a3 a4) := by
  intro a0 a1 a2 a3 a4 k
  obtain ⟨ih0, ih1, ih2⟩ := awardingbodymake_Tape_Item.mono_l k
  unfold awardingbodymake_Tape_Item.f
  repeat' first
      | (with_reducible exact ih0 _ _ _ _ _ _ _ _ _)
      | (with_reducible exact ih1 _ _ _ _ _ _ _ _ _ _)
      | (with_reducible exact ih2 _ _ _ _ _ _ _ _ _)
      | (with_reducible exact awardingbodymake_Tape_Part.mono _ _ _ _)
      | (with_reducible exact awardingbodymake_Tape_Word.mono _ _ _ _)
      | (with_reducible exact LeO.refl _)
      | (with_reducible exact LeO.none _)
      | (with_reducible refine LeO.ite ?_ ?_)
      | (with_reducible refine LeO.bind ?_ (fun _ => ?_))
      | exact ih0 _ _ _ _ _ _ _ _ _
      | exact ih1 _ _ _ _ _ _ _ _ _ _
      | exact ih2 _ _ _ _ _ _ _ _ _
      | exact awardingbodymake_Tape_Part.mono _ _ _ _
      | exact awardingbodymake_Tape_Word.mono _ _ _ _
      | exact LeO.none _
      | refine LeO.ite ?_ ?_
      | refine LeO.bind ?_ (fun _ => ?_)
def awardingbodymake_Tape_Item.T5 : Bool × List (List Nat × List Nat) := (true, [([], []), ([0], [0]), ([], []), ([2], [2]), ([3], [3]), ([1, 4, 3], [1, 4]), ([0, 1, 2, 3, 4, 5], []), ([6, 5, 5, 0, 1, 2, 3, 4, 5], [5, 6])])
def awardingbodymake_Tape_Item.B5 : List Nat := [0, 1, 0, 4, 12, 31, 63, 127]
theorem awardingbodymake_Tape_Item.tab5 : rtab .any (opsOf Try.f16 5) = awardingbodymake_Tape_Item.T5 := by kernel_rfl
theorem awardingbodymake_Tape_Item.bits5 : waitsOk awardingbodymake_Tape_Item.T5.2 awardingbodymake_Tape_Item.B5 = true := by kernel_rfl
def awardingbodymake_Tape_Item.T13 : Bool × List (List Nat × List Nat) := (true, [([], []), ([0], [0]), ([], []), ([2], [2]), ([3], [3]), ([4], [4]), ([], []), ([6], [6]), ([7], [7]), ([8], [8]), ([], []), ([10], [10]), ([11], [11]), ([12], [12]), ([], []), ([14], [14]), ([15], [15]), ([16], [16]), ([], []), ([18], [18]), ([19], [19]), ([20], [20]), ([], []), ([22], [22]), ([23], [23]), ([24], [24]), ([5, 9, 13, 17, 21, 25], [5, 9, 13, 17, 21, 25]), ([1, 26], [1, 26]), ([0, 1, 2, 3, 4, 5, 6, 7, 8, 9, 10, 11, 12, 13, 14, 15, 16, 17, 18, 19, 20, 21, 22, 23, 24, 25, 26, 27], []), ([28, 27, 27, 0, 1, 2, 3, 4, 5, 6, 7, 8, 9, 10, 11, 12, 13, 14, 15, 16, 17, 18, 19, 20, 21, 22, 23, 24, 25, 26, 27], [27, 28])])
def awardingbodymake_Tape_Item.B13 : List Nat := [0, 1, 0, 4, 12, 28, 0, 64, 192, 448, 0, 1024, 3072, 7168, 0, 16384, 49152, 114688, 0, 262144, 786432, 1835008, 0, 4194304, 12582912, 29360128, 67108860, 134217727, 268435455, 536870911]
theorem awardingbodymake_Tape_Item.tab13 : rtab .any (opsOf Try.f16 13) = awardingbodymake_Tape_Item.T13 := by kernel_rfl
theorem awardingbodymake_Tape_Item.bits13 : waitsOk awardingbodymake_Tape_Item.T13.2 awardingbodymake_Tape_Item.B13 = true := by kernel_rfl
def awardingbodymake_Tape_Item.T23 : Bool × List (List Nat × List Nat) := (true, [([], []), ([0], [0]), ([], []), ([2], [2]), ([3], [3]), ([1, 4, 3], [1, 4]), ([0, 1, 2, 3, 4, 5], []), ([6, 5, 5, 0, 1, 2, 3, 4, 5], [5, 6])])
def awardingbodymake_Tape_Item.B23 : List Nat := [0, 1, 0, 4, 12, 31, 63, 127]
theorem awardingbodymake_Tape_Item.tab23 : rtab .any (opsOf Try.f16 23) = awardingbodymake_Tape_Item.T23 := by kernel_rfl
theorem awardingbodymake_Tape_Item.bits23 : waitsOk awardingbodymake_Tape_Item.T23.2 awardingbodymake_Tape_Item.B23 = true := by kernel_rfl
def awardingbodymake_Tape_Item.T25 : Bool × List (List Nat × List Nat) := (true, [([], []), ([0], [0]), ([], []), ([], []), ([3], [3]), ([2, 4], [2, 4]), ([5], [5]), ([1, 6, 5], [1, 6]), ([0, 1, 2, 3, 4, 5, 6, 7], []), ([8, 7, 7, 0, 1, 2, 3, 4, 5, 6, 7], [7, 8])])
def awardingbodymake_Tape_Item.B25 : List Nat := [0, 1, 0, 0, 8, 28, 60, 127, 255, 511]
theorem awardingbodymake_Tape_Item.tab25 : rtab .any (opsOf Try.f16 25) = awardingbodymake_Tape_Item.T25 := by kernel_rfl
theorem awardingbodymake_Tape_Item.bits25 : waitsOk awardingbodymake_Tape_Item.T25.2 awardingbodymake_Tape_Item.B25 = true := by kernel_rfl
set_option maxHeartbeats 8000000 in
set_option maxRecDepth 100000 in
theorem awardingbodymake_Tape_Item.calls (k : Nat) (g : Nat) (s0_0 : List Int) (s0_1 : Int) (a1 : Int) (a2 : Int) (a3 : Int) (r1 : Int) (r2 : Int) (r3 : ByteArray) (r4 : List (S23)) (r5 : List Int) (r6 : Int) (w0 w : World) (hI : IsS54 w0 w g s0_0 s0_1) (hB : Below w0.heap.size w0 w) (h : awardingbodymake_Tape_Item.f k s0_0 s0_1 a1 a2 a3 = some (r1, r2, r3, r4, r5, r6)) :
    Calls Try.prog 16 #[.pointer (some ⟨g, 0, none⟩), .int .i64 a1, .int .i64 a2, .int .i64 a3] w fun e w' => ∃ v3_ v4_ : Value, e = .returned (.agg #[.int .i64 r1, .int .i64 r2, .string r3, v3_, v4_]) ∧ Kd.R k23 23 w' w.heap.size (fun _ => True) v3_ r4 ∧ Kd.R (Kd.int .i64) 3 w' w.heap.size (fun _ => True) v4_ r5 ∧ IsS54 w0 w' g s0_0 r6 ∧ Below w0.heap.size w0 w' ∧ KeepBut w w' g none := by
 have hu33 := Try.underlying33
 have hu23 := Try.underlying23
 have HI0 := za hI
 have HK := za (KeepBut.refl w g none)
 have HL := za hB.size
 clear hI
 have HW0 := za hB.size
 have HB := za hB
 clear hB
 have H : ((awardingbodymake_Tape_Word.f k s0_0 s0_1 3).bind fun bt246 => (if 1 + bt246.1.size ≤ 9223372036854775807 then ((awardingbodymake_Tape_Range.f s0_0 bt246.2 1 3).bind fun bt249 => (awardingbodymake_Tape_Item.l0 k a1 a3 bt249.1 s0_0 bt249.2 a1 a2 ((⟨#[113]⟩ : ByteArray) ++ bt246.1) ([] : List (S23)))) else (none))) = some (r1, r2, r3, r4, r5, r6) := h
 clear h
 replace H := Option.bind_eq_some_iff.mp H
 obtain ⟨⟨t246, t247⟩, A50, H⟩ := H
 replace H : (if 1 + t246.size ≤ 9223372036854775807 then ((awardingbodymake_Tape_Range.f s0_0 t247 1 3).bind fun bt249 => (awardingbodymake_Tape_Item.l0 k a1 a3 bt249.1 s0_0 bt249.2 a1 a2 ((⟨#[113]⟩ : ByteArray) ++ t246) ([] : List (S23)))) else (none)) = some (r1, r2, r3, r4, r5, r6) := H
 have A5 := za A50
 clear A50
 by_cases c6 : 1 + t246.size ≤ 9223372036854775807
 ·rw [if_pos c6] at H
  have c6b0 := eq_true c6
  have c6b1 : decide (1 + t246.size ≤ 9223372036854775807) = true := decide_eq_true c6
  try have c6b2 : (9223372036854775807 < 1 + t246.size) = False := eq_false (Nat.not_lt.2 c6)
  replace H := Option.bind_eq_some_iff.mp H
  obtain ⟨⟨t249, t250⟩, A70, H⟩ := H
  replace H : (awardingbodymake_Tape_Item.l0 k a1 a3 t249 s0_0 t250 a1 a2 ((⟨#[113]⟩ : ByteArray) ++ t246) ([] : List (S23))) = some (r1, r2, r3, r4, r5, r6) := H
  have A7 := za A70
  clear A70
  have H' := za H
  clear H
  go_enter Try.func16, Try.ntmps16
  go_wp2_with (first | ((with_reducible refine gate_dst (N := 8) rfl ?_); refine zE 8 #[.int .i64 0, .int .i64 0, .string (⟨#[]⟩ : ByteArray), .slice none 0 0, .slice none 0 0] 33 ?_; intro gb245 hg w8 hbox hb; have BK245 := za (hbox); have GW245 := za ((by rw [hg]; exact (keep_size (w := w) (g := g) (row := none) (by repeat (first | (with_reducible first | exact HK.out | apply KeepBut.set_ | apply keep_drewN | apply keep_drew | apply keep_alloc) | exact HK.out))) : w.heap.size ≤ gb245)); have GE245 := za ((Nat.le_trans HW0.out (by rw [hg]; exact (keep_size (w := w) (g := g) (row := none) (by repeat (first | (with_reducible first | exact HK.out | apply KeepBut.set_ | apply keep_drewN | apply keep_drew | apply keep_alloc) | exact HK.out))) : w.heap.size ≤ gb245) : w0.heap.size ≤ gb245)); have NB0_245 := za ((by rw [hg]; exact Nat.ne_of_lt (IsS54.lt (show IsS54 w0 _ g s0_0 s0_1 from by repeat (first | (with_reducible first | exact HI0.out | apply IsS54.alloc | apply IsS54.drewN | apply IsS54.drew | apply IsS54.set_1) | exact HI0.out))) : g ≠ gb245)); have NB245_0 := za ((by rw [hg]; exact Nat.ne_of_gt (IsS54.lt (show IsS54 w0 _ g s0_0 s0_1 from by repeat (first | (with_reducible first | exact HI0.out | apply IsS54.alloc | apply IsS54.drewN | apply IsS54.drew | apply IsS54.set_1) | exact HI0.out))) : gb245 ≠ g)); replace HI0 := za (IsS54.below (by repeat (first | (with_reducible first | exact HI0.out | apply IsS54.alloc | apply IsS54.drewN | apply IsS54.drew | apply IsS54.set_1) | exact HI0.out)) hb); replace HK := zu HK hb; replace HB := zs HB hb; clear hb hbox hg) | ((with_reducible refine gate_callee (f := 37) rfl ?_); refine zL (some 15) Try.func37 #[.pointer (some ⟨g, 0, none⟩), .int .i64 3] ?_; (with_reducible refine (awardingbodymake_Tape_Word.calls k g s0_0 s0_1 3 t246 t247 w0 _ ?side1 ?side2 A5.out).mono ?_); (case side1 => exact (by repeat (first | (with_reducible first | exact HI0.out | apply IsS54.alloc | apply IsS54.drewN | apply IsS54.drew | apply IsS54.set_1 | refine IsS54.far ?_ NB0_245.out _) | exact HI0.out))); (case side2 => exact (by repeat (first | (with_reducible first | exact HB.out | apply below_alloc | apply pw_below_drewN | apply below_drew1 | refine below_set ?_ (IsS54.ge HI0.out) | refine below_set ?_ GE245.out) | exact HB.out))); rintro e w9 ⟨rfl, hi, hb, hk⟩; refine ⟨_, rfl, ?_⟩; replace BK245 := zk hk BK245 NB245_0; replace HK := zt HK hk; replace HB := za (hb); replace HI0 := za (hi); (try clear hb); (try clear hb2); (try clear hk); (try clear hi)) | ((with_reducible refine gate_dst (N := 9) rfl ?_); refine zE 9 #[.int .i64 0, .int .i64 0, .string (⟨#[]⟩ : ByteArray), .slice none 0 0, .slice none 0 0] 33 ?_; intro gb248 hg w10 hbox hb; have BK248 := za (hbox); have GW248 := za ((by rw [hg]; exact (keep_size (w := w) (g := g) (row := none) (by repeat (first | (with_reducible first | exact HK.out | apply KeepBut.set_ | apply keep_drewN | apply keep_drew | apply keep_alloc | refine keep_far ?_ GW245.out _) | exact HK.out))) : w.heap.size ≤ gb248)); have GE248 := za ((Nat.le_trans HW0.out (by rw [hg]; exact (keep_size (w := w) (g := g) (row := none) (by repeat (first | (with_reducible first | exact HK.out | apply KeepBut.set_ | apply keep_drewN | apply keep_drew | apply keep_alloc | refine keep_far ?_ GW245.out _) | exact HK.out))) : w.heap.size ≤ gb248) : w0.heap.size ≤ gb248)); have NB245_248 := zl BK245 hg; have NB248_245 := zr BK245 hg; have NB0_248 := za ((by rw [hg]; exact Nat.ne_of_lt (IsS54.lt (show IsS54 w0 _ g s0_0 t247 from by repeat (first | (with_reducible first | exact HI0.out | apply IsS54.alloc | apply IsS54.drewN | apply IsS54.drew | apply IsS54.set_1 | refine IsS54.far ?_ NB0_245.out _) | exact HI0.out))) : g ≠ gb248)); have NB248_0 := za ((by rw [hg]; exact Nat.ne_of_gt (IsS54.lt (show IsS54 w0 _ g s0_0 t247 from by repeat (first | (with_reducible first | exact HI0.out | apply IsS54.alloc | apply IsS54.drewN | apply IsS54.drew | apply IsS54.set_1 | refine IsS54.far ?_ NB0_245.out _) | exact HI0.out))) : gb248 ≠ g)); replace HI0 := za (IsS54.below (by repeat (first | (with_reducible first | exact HI0.out | apply IsS54.alloc | apply IsS54.drewN | apply IsS54.drew | apply IsS54.set_1 | refine IsS54.far ?_ NB0_245.out _) | exact HI0.out)) hb); replace BK245 := zb BK245 hb; replace HK := zu HK hb; replace HB := zs HB hb; clear hb hbox hg; have hnb11 := NB248_245.out; have hnc11 := NB245_248.out; have hnb12 := NB248_0.out; have hnc12 := NB0_248.out; obtain ⟨hcz13_0, hcz13_1, hcz13_2, hcz13_3, hcz13_4, hfz13_0, hfz13_1, hfz13_2, hfz13_3, hfz13_4⟩ := z5 BK248) | ((with_reducible refine gate_callee (f := 18) rfl ?_); refine zL (some 19) Try.func18 #[.pointer (some ⟨g, 0, none⟩), .int .i64 1, .int .i64 3] ?_; (with_reducible refine (awardingbodymake_Tape_Range.calls g s0_0 t247 1 3 t249 t250 w0 _ ?side1 ?side2 A7.out).mono ?_); (case side1 => exact (by repeat (first | (with_reducible first | exact HI0.out | apply IsS54.alloc | apply IsS54.drewN | apply IsS54.drew | apply IsS54.set_1 | refine IsS54.far ?_ NB0_245.out _ | refine IsS54.far ?_ NB0_248.out _) | exact HI0.out))); (case side2 => exact (by repeat (first | (with_reducible first | exact HB.out | apply below_alloc | apply pw_below_drewN | apply below_drew1 | refine below_set ?_ (IsS54.ge HI0.out) | refine below_set ?_ GE245.out | refine below_set ?_ GE248.out) | exact HB.out))); rintro e w14 ⟨rfl, hi, hb, hk⟩; refine ⟨_, rfl, ?_⟩; replace BK245 := zk hk BK245 NB245_0; replace BK248 := za (KeepBut.blk hk (g' := gb248) (o := .cells #[.int .i64 a1, .int .i64 a2, .string ((⟨#[113]⟩ : ByteArray) ++ t246), .slice none 0 0, .slice none 0 0] 33 (0, 0)) (by (with_reducible repeat (first | refine blk_drewN ?_ _ | refine blk_drew ?_ | refine blk_alloc ?_ _)); refine blk_put (cs := #[.int .i64 a1, .int .i64 a2, .string ((⟨#[113]⟩ : ByteArray) ++ t246), .slice none 0 0, .slice none 0 0]) ?_ 4 _ rfl; (with_reducible repeat (first | refine blk_drewN ?_ _ | refine blk_drew ?_ | refine blk_alloc ?_ _)); refine blk_put (cs := #[.int .i64 a1, .int .i64 a2, .string ((⟨#[113]⟩ : ByteArray) ++ t246), .slice none 0 0, .slice none 0 0]) ?_ 3 _ rfl; (with_reducible repeat (first | refine blk_drewN ?_ _ | refine blk_drew ?_ | refine blk_alloc ?_ _)); refine blk_put (cs := #[.int .i64 a1, .int .i64 a2, .string (⟨#[]⟩ : ByteArray), .slice none 0 0, .slice none 0 0]) ?_ 2 _ rfl; (with_reducible repeat (first | refine blk_drewN ?_ _ | refine blk_drew ?_ | refine blk_alloc ?_ _)); refine blk_put (cs := #[.int .i64 a1, .int .i64 0, .string (⟨#[]⟩ : ByteArray), .slice none 0 0, .slice none 0 0]) ?_ 1 _ rfl; (with_reducible repeat (first | refine blk_drewN ?_ _ | refine blk_drew ?_ | refine blk_alloc ?_ _)); refine blk_put (cs := #[.int .i64 0, .int .i64 0, .string (⟨#[]⟩ : ByteArray), .slice none 0 0, .slice none 0 0]) ?_ 0 _ rfl; (with_reducible repeat (first | refine blk_drewN ?_ _ | refine blk_drew ?_ | refine blk_alloc ?_ _)); exact BK248.out) NB248_0.out (by simp)); replace HK := zt HK hk; replace HB := za (hb); replace HI0 := za (hi); (try clear hb); (try clear hb2); (try clear hk); (try clear hi)))
  go_loopg [10] k (fun kq v10 w' => ∃ (x10_1 : Int) (x1001_1 : Int) (x249003_1 : List (S23)) (u249003 : Value), v10 = .int .i64 x10_1 ∧ Aside0 (awardingbodymake_Tape_Item.l0 kq a1 a3 x10_1 s0_0 x1001_1 a1 a2 ((⟨#[113]⟩ : ByteArray) ++ t246) x249003_1 = some (r1, r2, r3, r4, r5, r6)) ∧ Aside0 (kq ≤ k) ∧ Aside0 (Kd.R k23 23 w' w.heap.size (fun _ => True) u249003 x249003_1) ∧ Aside0 (w'.heap[gb245]? = some (.cells #[.int .i64 0, .int .i64 0, .string (⟨#[]⟩ : ByteArray), (.slice none 0 0), (.slice none 0 0)] 33 (0, 0))) ∧ Aside0 (w'.heap[gb248]? = some (.cells #[.int .i64 a1, .int .i64 a2, .string ((⟨#[113]⟩ : ByteArray) ++ t246), u249003, (.slice none 0 0)] 33 (0, 0))) ∧ Aside0 (IsS54 w0 w' g s0_0 x1001_1) ∧ Aside0 (KeepBut w w' g none) ∧ Aside0 (Below w0.heap.size w0 w'))
  case atStart => exact ⟨(t249), (t250), (([] : List (S23))), (.slice none 0 0), (by first | rfl | (simp; done) | (simp [*]; done)), H', ⟨Nat.le_refl _⟩, ⟨by first | exact Kd.R_nil _ _ _ _ _ | exact Kd.N_nil _ _ _ _ _ | exact Kd.V_nil _ _ _ _ _ | exact Kd.Q_nil _ _ _ _ _ | exact Kd.S_nil _ _ _ _ _⟩, ⟨by (with_reducible repeat (first | refine blk_drewN ?_ _ | refine blk_drew ?_ | refine blk_alloc ?_ _)); exact BK245.out⟩, ⟨by (with_reducible repeat (first | refine blk_drewN ?_ _ | refine blk_drew ?_ | refine blk_alloc ?_ _)); exact BK248.out⟩, ⟨by repeat (first | (with_reducible first | exact HI0.out | apply IsS54.alloc | apply IsS54.drewN | apply IsS54.drew | apply IsS54.set_1 | refine IsS54.far ?_ NB0_245.out _ | refine IsS54.far ?_ NB0_248.out _) | exact HI0.out)⟩, ⟨by repeat (first | (with_reducible first | exact HK.out | apply KeepBut.set_ | apply keep_drewN | apply keep_drew | apply keep_alloc | refine keep_far ?_ GW245.out _ | refine keep_far ?_ GW248.out _) | exact HK.out)⟩, ⟨zm HB⟩⟩
  case round =>
   clear H'
   try clear c1
   try clear p2
   try clear c3
   try clear c6
   try clear c6b0
   try clear c6b1
   try clear c6b2
   try clear c11
   try clear c12
   try clear hcz13_0
   try clear hcz13_1
   try clear hcz13_2
   try clear hcz13_3
   try clear hcz13_4
   try clear hfz13_0
   try clear hfz13_1
   try clear hfz13_2
   try clear hfz13_3
   try clear hfz13_4
   obtain ⟨x10_1, x1001_1, x249003_1, u249003, rfl, HA, HK1, HO_249003, BK245, BK248, HI0, HK, HB⟩ := hrel
   cases gk with
   | zero => exact absurd HA.out (by simp [awardingbodymake_Tape_Item.l0])
   | succ k1 =>
    have H := HA.out
    clear HA
    simp only [awardingbodymake_Tape_Item.l0] at H
    by_cases c15 : x10_1 > 0
    ·rw [if_pos c15] at H
     have c15b0 : decide (0 < x10_1) = true := decide_eq_true c15
     clear c15
     replace H := Option.bind_eq_some_iff.mp H
     obtain ⟨⟨t251, t252, t253, t254, t255, t256, t257⟩, A160, H⟩ := H
     replace H : (if x249003_1.length < 2932031007402 then (awardingbodymake_Tape_Item.l0 k1 a1 a3 (wrap64 (x10_1 - 1)) s0_0 t257 a1 a2 ((⟨#[113]⟩ : ByteArray) ++ t246) (x249003_1 ++ [(⟨t251, t252, t253, t254, t255, t256⟩ : S23)])) else (none)) = some (r1, r2, r3, r4, r5, r6) := H
     have A16 := za A160
     clear A160
     by_cases c17 : x249003_1.length < 2932031007402
     ·rw [if_pos c17] at H
      have LMc17 := za c17
      clear c17
      obtain ⟨y258, hy258⟩ : ∃ y_ : List (S23), y_ = (x249003_1 ++ [(⟨t251, t252, t253, t254, t255, t256⟩ : S23)]) := ⟨_, rfl⟩
      replace H : (awardingbodymake_Tape_Item.l0 k1 a1 a3 (wrap64 (x10_1 - 1)) s0_0 t257 a1 a2 ((⟨#[113]⟩ : ByteArray) ++ t246) y258) = some (r1, r2, r3, r4, r5, r6) := by first | (rw [hy258]; with_reducible exact H) | (have H2_ := (Option.bind_some _ _).symm.trans H; rw [hy258]; with_reducible exact H2_) | (have H2_ := (Option.bind_some _ _).symm.trans H; with_reducible exact H2_) | with_reducible exact H | (rw [hy258]; exact H) | exact H
      have Ny258 := za hy258
      clear hy258
      have H' := za H
      clear H
      try go_wp2
      replace HO_249003 := za (Kd.R_drew HO_249003.out)
      replace BK245 := za (blk_drew BK245.out)
      replace BK248 := za (blk_drew BK248.out)
      replace HI0 := za (IsS54.drew HI0.out)
      replace HK := za (keep_drew HK.out)
      replace HB := za (below_drew1 HB.out)
      refine start_ (n := 8) (S := fun w' => w'.cell? ⟨gb248, 0, none⟩ = some (.int .i64 a1) ∧ w'.cell? ⟨gb248, 1, none⟩ = some (.int .i64 a2) ∧ w'.cell? ⟨gb248, 2, none⟩ = some (.string ((⟨#[113]⟩ : ByteArray) ++ t246)) ∧ w'.cell? ⟨gb248, 3, none⟩ = some (u249003) ∧ w'.cell? ⟨gb248, 4, none⟩ = some (.slice none 0 0)) (ds := [7]) #[false, false, false, false, false, false, false, false] (by kernel_rfl) rfl rfl ⟨(blk_cell BK248.out 0).trans rfl, (blk_cell BK248.out 1).trans rfl, (blk_cell BK248.out 2).trans rfl, (blk_cell BK248.out 3).trans rfl, (blk_cell BK248.out 4).trans rfl⟩ (fun hHeld => ?_); refine with_tabW awardingbodymake_Tape_Item.tab5 awardingbodymake_Tape_Item.bits5 (fun HT_ HW_ => ?_)
      generalize wr.drew = w18 at HO_249003 BK245 BK248 HI0 HK HB hHeld ⊢
      refine pure_ (i := 0) (N := some 24) (v := ?_) (a' := ?_) #[true, false, false, false, false, false, false, false] rfl rfl (any_of HT_.out (by kernel_rfl)) (fun _ _ _ h => h) (Or.inl ⟨by rfl, ?_⟩) ?_ ?_
      rotate_left
      ·intro w'
       go_simp
       with_reducible rfl
      rotate_left
      ·simp only [Act.put, List.setIfInBounds_toArray, List.set_cons_zero, List.set_cons_succ, i64_w, i32_w]
       rfl
      refine pure_ (i := 2) (N := some 26) (v := ?_) (a' := ?_) #[true, false, true, false, false, false, false, false] rfl rfl (any_of HT_.out (by kernel_rfl)) (fun _ _ _ h => h) (Or.inl ⟨by rfl, ?_⟩) ?_ ?_
      rotate_left
      ·intro w'
       go_simp
       with_reducible rfl
      rotate_left
      ·simp only [Act.put, List.setIfInBounds_toArray, List.set_cons_zero, List.set_cons_succ, i64_w, i32_w]
       rfl
      refine take_ (i := 1) (N := some 25) (v := ?_) (a' := ?_) #[true, true, true, false, false, false, false, false] rfl rfl (take_ofW HT_.out HW_.out (by kernel_rfl)) (fun _ _ _ h => h) (Or.inl ⟨by rfl, ?_⟩) hHeld ?_ ?_
      rotate_left
      ·rintro w' ⟨s0, s1, s2, s3, s4⟩
       go_simp
       with_reducible rfl
      rotate_left
      ·simp only [Act.put, List.setIfInBounds_toArray, List.set_cons_zero, List.set_cons_succ, i64_w, i32_w]
       rfl
      refine one_ (i := 3) (N := some 27) #[true, true, true, true, false, false, false, false] rfl rfl (one_of HT_.out (by kernel_rfl)) (by decide) (fun K hK => ?_)
      refine goes_ Try.func23 (by kernel_rfl) rfl #[.pointer (some ⟨g, 0, none⟩), .int .i64 0] (by rfl) rfl rfl (by (try simp only [List.map_toArray, List.map_cons, List.map_nil]); first | done | rfl | (simp only [List.length_drop, List.length_take]; rfl)) ?_
      with_reducible refine (awardingbodymake_Tape_Part.calls k1 g s0_0 x1001_1 0 t251 t252 t253 t254 t255 t256 t257 w0 _ ?side1 ?side2 A16.out).mono ?_
      (case side1 => exact (by repeat (first | (with_reducible first | exact HI0.out | apply IsS54.alloc | apply IsS54.drewN | apply IsS54.drew | apply IsS54.set_1 | refine IsS54.far ?_ NB0_245.out _ | refine IsS54.far ?_ NB0_248.out _) | exact HI0.out)))
      (case side2 => exact (by repeat (first | (with_reducible first | exact HB.out | apply below_alloc | apply pw_below_drewN | apply below_drew1 | refine below_set ?_ (IsS54.ge HI0.out) | refine below_set ?_ GE245.out | refine below_set ?_ GE248.out) | exact HB.out)))
      rintro e w19 ⟨rfl, hi, hb, hk⟩
      refine ⟨_, rfl, ?_⟩
      replace HO_249003 := za (Kd.R_mono (Kd.R_keep (IsS54.apart (show IsS54 w0 _ g s0_0 x1001_1 from by repeat (first | (with_reducible first | exact HI0.out | apply IsS54.alloc | apply IsS54.drewN | apply IsS54.drew | apply IsS54.set_1 | refine IsS54.far ?_ NB0_245.out _ | refine IsS54.far ?_ NB0_248.out _) | exact HI0.out)) (by (with_reducible repeat (first | apply Kd.R_alloc | apply Kd.R_drewN | apply Kd.R_drew)); exact HO_249003.out) (by decide)) hk (fun _ h => h.2)) (fun _ h => h.1))
      replace BK245 := zk hk BK245 NB245_0
      replace BK248 := zk hk BK248 NB248_0
      replace HK := zt HK hk
      replace HB := za (hb)
      replace HI0 := za (hi)
      (try clear hb)
      (try clear hb2)
      (try clear hk)
      (try clear hi)
      refine hK.out _ _ ⟨(blk_cell BK248.out 0).trans rfl, (blk_cell BK248.out 1).trans rfl, (blk_cell BK248.out 2).trans rfl, (blk_cell BK248.out 3).trans rfl, (blk_cell BK248.out 4).trans rfl⟩ (fun hHeld => ?_)
      clear hK K
      refine norm_ (a' := ?_) ?_ ?_
      rotate_left
      ·show Act.put _ (some 27) _ = _
       simp only [Act.put, List.setIfInBounds_toArray, List.set_cons_zero, List.set_cons_succ, i64_w, i32_w]
       rfl
      refine one_ (i := 4) (N := some 28) #[true, true, true, true, true, false, false, false] rfl rfl (one_of HT_.out (by kernel_rfl)) (by decide) (fun K hK => ?_)
      refine value_ (w1 := ?_) (v := ?_) (by rfl) rfl ?_ ?_
      rotate_left 2
      ·go_simp
       constructor
       ·rfl
       ·rfl
      refine hK.out _ _ ⟨(blk_cell (blk_alloc BK248.out _) 0).trans rfl, (blk_cell (blk_alloc BK248.out _) 1).trans rfl, (blk_cell (blk_alloc BK248.out _) 2).trans rfl, (blk_cell (blk_alloc BK248.out _) 3).trans rfl, (blk_cell (blk_alloc BK248.out _) 4).trans rfl⟩ (fun hHeld => ?_)
      clear hK K
      refine norm_ (a' := ?_) ?_ ?_
      rotate_left
      ·show Act.put _ (some 28) _ = _
       simp only [Act.put, List.setIfInBounds_toArray, List.set_cons_zero, List.set_cons_succ, i64_w, i32_w]
       rfl
      refine one_ (i := 5) (N := some 29) #[true, true, true, true, true, true, false, false] rfl rfl (one_of HT_.out (by kernel_rfl)) (by decide) (fun K hK => ?_)
      refine Kd.R_append_step k23 w.heap.size (by rfl) (.tmp 25) (.tmp 28) 31 23 (.agg #[(.int .i64 0), (.int .i64 0), (.int .i64 0), (.int .i64 0), (.int .i64 0), (.int .i64 0)]) 48 rfl Try.underlying31 info23 rfl (by decide) (by omega) u249003 x249003_1 (⟨t251, t252, t253, t254, t255, t256⟩ : S23) [.int .i64 t251, .int .i64 t252, .int .i64 t253, .int .i64 t254, .int .i64 t255, .int .i64 t256] (fun _ => True) (fun _ => False) rfl rfl ?aP (fun _ hk => hk.elim) ?aF ?aO (Below.refl _ _) ?aS ?aL ?_
      (case aP => exact k23_mkM _ _ _ (⟨t251, t252, t253, t254, t255, t256⟩ : S23))
      (case aF => exact (fun _ _ => trivial))
      (case aO => exact (by (with_reducible repeat (first | apply Kd.R_alloc | apply Kd.R_drewN | apply Kd.R_drew)); exact HO_249003.out))
      (case aS => exact (keep_size (w := w) (g := g) (row := none) (by repeat (first | (with_reducible first | exact HK.out | apply KeepBut.set_ | apply keep_drewN | apply keep_drew | apply keep_alloc | refine keep_far ?_ GW245.out _ | refine keep_far ?_ GW248.out _) | exact HK.out))))
      (case aL => have := LMc17.out; omega)
      intro v259 w20 ho hb hg hat
      rw [← Ny258.out] at ho
      have HO260 := za (ho)
      replace BK245 := (zw BK245 hg (Kd.R_ne HO_249003.out BK245.out (by decide)))
      replace BK248 := (zw BK248 hg (Kd.R_ne HO_249003.out BK248.out (by decide)))
      replace HI0 := za (IsS54.grown (by repeat (first | (with_reducible first | exact HI0.out | apply IsS54.alloc | apply IsS54.drewN | apply IsS54.drew | apply IsS54.set_1 | refine IsS54.far ?_ NB0_245.out _ | refine IsS54.far ?_ NB0_248.out _) | exact HI0.out)) hg (IsS54.own_ne HI0.out HO_249003.out (by decide)))
      replace HB := za (below_weaken (zm HB) HL.out hb)
      replace HK := za (KeepBut.trans (by repeat (first | (with_reducible first | exact HK.out | apply KeepBut.set_ | apply keep_drewN | apply keep_drew | apply keep_alloc | refine keep_far ?_ GW245.out _ | refine keep_far ?_ GW248.out _) | exact HK.out)) (KeepBut.of_grown hg g) (Kd.R_base2 HO_249003.out))
      clear HO_249003 ho hb hg hat
      obtain ⟨Ao21, co21, eo21⟩ := Kd.R_slice HO260.out
      (first | subst eo21 | (injection eo21 with f1_ f2_ f3_; have f4_ := f1_.symm; have f5_ := f3_.symm; clear f1_ f2_ f3_; subst f4_; subst f5_))
      refine hK.out _ _ ⟨(blk_cell BK248.out 0).trans rfl, (blk_cell BK248.out 1).trans rfl, (blk_cell BK248.out 2).trans rfl, (blk_cell BK248.out 3).trans rfl, (blk_cell BK248.out 4).trans rfl⟩ (fun hHeld => ?_)
      clear hK K
      refine norm_ (a' := ?_) ?_ ?_
      rotate_left
      ·show Act.put _ (some 29) _ = _
       simp only [Act.put, List.setIfInBounds_toArray, List.set_cons_zero, List.set_cons_succ, i64_w, i32_w]
       rfl
      refine pure_ (i := 6) (N := some 30) (v := ?_) (a' := ?_) #[true, true, true, true, true, true, true, false] rfl rfl (any_of HT_.out (by kernel_rfl)) (fun _ _ _ h => h) (Or.inl ⟨by rfl, ?_⟩) ?_ ?_
      rotate_left
      ·intro w'
       go_simp
       with_reducible rfl
      rotate_left
      ·simp only [Act.put, List.setIfInBounds_toArray, List.set_cons_zero, List.set_cons_succ, i64_w, i32_w]
       rfl
      refine last_ (i := 7) (N := none) #[true, true, true, true, true, true, true, true] rfl rfl (one_of HT_.out (by kernel_rfl)) (by decide) (fun K hK => ?_)
      have hs22 : w20.cell? ⟨gb248, 3, none⟩ = some (u249003) := (blk_cell BK248.out 3).trans rfl
      have hfs22 := blk_frozen BK248.out 3
      have hns22_0 := NB245_248.out
      have hms22_0 := NB248_245.out
      refine skip_ (w1 := ?_) (by rfl) rfl ?_ ?_
      rotate_left
      ·go_simp
       rfl
      refine hK.out _ _ ?_
      clear hK K
      refine done_ (done_of HT_.out (by kernel_rfl)) ?_
      try go_wp2
      go_roundg k1
      case measure => have := HK1.out; omega
      case rel => exact ⟨(wrap64 (x10_1 - 1)), (t257), (y258), (.slice Ao21 y258.length co21), (by first | rfl | (simp; done) | (simp [*]; done)), H', ⟨by have := HK1.out; omega⟩, ⟨by (with_reducible repeat (first | apply Kd.R_alloc | apply Kd.R_drewN | apply Kd.R_drew)); exact Kd.R_mono (Kd.R_far (p := ⟨gb248, 3, none⟩) (Kd.R_types HO260.out BK248.out (by decide)) (fun _ hk => hk.2) (.slice Ao21 y258.length co21)) (fun _ hk => trivial)⟩, ⟨by (with_reducible repeat (first | refine blk_drewN ?_ _ | refine blk_drew ?_ | refine blk_alloc ?_ _)); refine blk_far ?_ NB245_248.out _; (with_reducible repeat (first | refine blk_drewN ?_ _ | refine blk_drew ?_ | refine blk_alloc ?_ _)); exact BK245.out⟩, ⟨by (with_reducible repeat (first | refine blk_drewN ?_ _ | refine blk_drew ?_ | refine blk_alloc ?_ _)); refine blk_put (cs := #[.int .i64 a1, .int .i64 a2, .string ((⟨#[113]⟩ : ByteArray) ++ t246), u249003, .slice none 0 0]) ?_ 3 _ rfl; (with_reducible repeat (first | refine blk_drewN ?_ _ | refine blk_drew ?_ | refine blk_alloc ?_ _)); exact BK248.out⟩, ⟨by repeat (first | (with_reducible first | exact HI0.out | apply IsS54.alloc | apply IsS54.drewN | apply IsS54.drew | apply IsS54.set_1 | refine IsS54.far ?_ NB0_245.out _ | refine IsS54.far ?_ NB0_248.out _) | exact HI0.out)⟩, ⟨by repeat (first | (with_reducible first | exact HK.out | apply KeepBut.set_ | apply keep_drewN | apply keep_drew | apply keep_alloc | refine keep_far ?_ GW245.out _ | refine keep_far ?_ GW248.out _) | exact HK.out)⟩, ⟨zm HB⟩⟩
     ·rw [if_neg c17] at H
      exact absurd H (by simp)
    ·rw [if_neg c15] at H
     have c15b0 : decide (0 < x10_1) = false := decide_eq_false c15
     clear c15
     have H' := za H
     clear H
     go_wp2
     go_loopg [11] k1 (fun kq v11 w' => ∃ (x11_2 : Int) (x1001_2 : Int) (x249004_2 : List Int) (u249004 : Value), v11 = .int .i64 x11_2 ∧ Aside0 (awardingbodymake_Tape_Item.l1 kq a1 a3 x11_2 s0_0 x1001_2 a1 a2 ((⟨#[113]⟩ : ByteArray) ++ t246) x249003_1 x249004_2 = some (r1, r2, r3, r4, r5, r6)) ∧ Aside0 (kq ≤ k1) ∧ Aside0 (Kd.R k23 23 w' w.heap.size (fun _ => True) u249003 x249003_1) ∧ Aside0 (Kd.R (Kd.int .i64) 3 w' w.heap.size (fun _ => True) u249004 x249004_2) ∧ Aside0 (w'.heap[gb245]? = some (.cells #[.int .i64 0, .int .i64 0, .string (⟨#[]⟩ : ByteArray), (.slice none 0 0), (.slice none 0 0)] 33 (0, 0))) ∧ Aside0 (w'.heap[gb248]? = some (.cells #[.int .i64 a1, .int .i64 a2, .string ((⟨#[113]⟩ : ByteArray) ++ t246), u249003, u249004] 33 (0, 0))) ∧ Aside0 (IsS54 w0 w' g s0_0 x1001_2) ∧ Aside0 (KeepBut w w' g none) ∧ Aside0 (Below w0.heap.size w0 w'))
     case atStart => exact ⟨(0), (x1001_1), (([] : List Int)), (.slice none 0 0), (by first | rfl | (simp; done) | (simp [*]; done)), H', ⟨Nat.le_refl _⟩, ⟨by (with_reducible repeat (first | apply Kd.R_alloc | apply Kd.R_drewN | apply Kd.R_drew)); exact HO_249003.out⟩, ⟨by first | exact Kd.R_nil _ _ _ _ _ | exact Kd.N_nil _ _ _ _ _ | exact Kd.V_nil _ _ _ _ _ | exact Kd.Q_nil _ _ _ _ _ | exact Kd.S_nil _ _ _ _ _⟩, ⟨by (with_reducible repeat (first | refine blk_drewN ?_ _ | refine blk_drew ?_ | refine blk_alloc ?_ _)); exact BK245.out⟩, ⟨by (with_reducible repeat (first | refine blk_drewN ?_ _ | refine blk_drew ?_ | refine blk_alloc ?_ _)); exact BK248.out⟩, ⟨by repeat (first | (with_reducible first | exact HI0.out | apply IsS54.alloc | apply IsS54.drewN | apply IsS54.drew | apply IsS54.set_1 | refine IsS54.far ?_ NB0_245.out _ | refine IsS54.far ?_ NB0_248.out _) | exact HI0.out)⟩, ⟨by repeat (first | (with_reducible first | exact HK.out | apply KeepBut.set_ | apply keep_drewN | apply keep_drew | apply keep_alloc | refine keep_far ?_ GW245.out _ | refine keep_far ?_ GW248.out _) | exact HK.out)⟩, ⟨zm HB⟩⟩
     case round =>
      clear H'
      try clear c1
      try clear c2
      try clear p2
      try clear c3
      try clear c6
      try clear c6b0
      try clear c6b1
      try clear c6b2
      try clear p6
      try clear c11
      try clear c12
      try clear c15
      try clear c15b0
      try clear c16
      try clear c17
      try clear c18
      try clear hcz13_0
      try clear hcz13_1
      try clear hcz13_2
      try clear hcz13_3
      try clear hcz13_4
      try clear hfz13_0
      try clear hfz13_1
      try clear hfz13_2
      try clear hfz13_3
      try clear hfz13_4
      try clear p2
      obtain ⟨x11_2, x1001_2, x249004_2, u249004, rfl, HA, HK2, HO_249003, HO_249004, BK245, BK248, HI0, HK, HB⟩ := hrel
      cases gk with
      | zero => exact absurd HA.out (by simp [awardingbodymake_Tape_Item.l1])
      | succ k2 =>
       have H := HA.out
       clear HA
       simp only [awardingbodymake_Tape_Item.l1] at H
       by_cases c23 : x11_2 < 6
       ·rw [if_pos c23] at H
        have c23b0 : decide (x11_2 < 6) = true := decide_eq_true c23
        clear c23
        by_cases c24 : x11_2 = a1
        ·rw [if_pos c24] at H
         have c24b0 : (x11_2 == a1) = true := beq_iff_eq.mpr c24
         have c24b1 : (x11_2 != a1) = false := bne_eq_false_iff_eq.mpr c24
         clear c24
         have H' := za H
         clear H
         go_wp2
         go_roundg k2
         case measure => have := HK1.out; have := HK2.out; omega
         case rel => exact ⟨(wrap64 (x11_2 + 1)), (x1001_2), (x249004_2), (u249004), (by first | rfl | (simp; done) | (simp [*]; done)), H', ⟨by have := HK1.out; have := HK2.out; omega⟩, ⟨by (with_reducible repeat (first | apply Kd.R_alloc | apply Kd.R_drewN | apply Kd.R_drew)); exact HO_249003.out⟩, ⟨by (with_reducible repeat (first | apply Kd.R_alloc | apply Kd.R_drewN | apply Kd.R_drew)); exact HO_249004.out⟩, ⟨by (with_reducible repeat (first | refine blk_drewN ?_ _ | refine blk_drew ?_ | refine blk_alloc ?_ _)); exact BK245.out⟩, ⟨by (with_reducible repeat (first | refine blk_drewN ?_ _ | refine blk_drew ?_ | refine blk_alloc ?_ _)); exact BK248.out⟩, ⟨by repeat (first | (with_reducible first | exact HI0.out | apply IsS54.alloc | apply IsS54.drewN | apply IsS54.drew | apply IsS54.set_1 | refine IsS54.far ?_ NB0_245.out _ | refine IsS54.far ?_ NB0_248.out _) | exact HI0.out)⟩, ⟨by repeat (first | (with_reducible first | exact HK.out | apply KeepBut.set_ | apply keep_drewN | apply keep_drew | apply keep_alloc | refine keep_far ?_ GW245.out _ | refine keep_far ?_ GW248.out _) | exact HK.out)⟩, ⟨zm HB⟩⟩
        ·rw [if_neg c24] at H
         have c24b0 : (x11_2 == a1) = false := beq_eq_false_iff_ne.mpr c24
         have c24b1 : (x11_2 != a1) = true := bne_iff_ne.mpr c24
         replace H := Option.bind_eq_some_iff.mp H
         obtain ⟨⟨t261, t262⟩, A250, H⟩ := H
         replace H : (if t261 = true then (if x249004_2.length < 17592186044416 then (awardingbodymake_Tape_Item.l1 k2 a1 a3 (wrap64 (x11_2 + 1)) s0_0 t262 a1 a2 ((⟨#[113]⟩ : ByteArray) ++ t246) x249003_1 (x249004_2 ++ [x11_2])) else (none)) else (awardingbodymake_Tape_Item.l1 k2 a1 a3 (wrap64 (x11_2 + 1)) s0_0 t262 a1 a2 ((⟨#[113]⟩ : ByteArray) ++ t246) x249003_1 x249004_2)) = some (r1, r2, r3, r4, r5, r6) := H
         have A25 := za A250
         clear A250
         by_cases c26 : t261 = true
         ·subst c26
          have H1 : (if x249004_2.length < 17592186044416 then (awardingbodymake_Tape_Item.l1 k2 a1 a3 (wrap64 (x11_2 + 1)) s0_0 t262 a1 a2 ((⟨#[113]⟩ : ByteArray) ++ t246) x249003_1 (x249004_2 ++ [x11_2])) else (none)) = some (r1, r2, r3, r4, r5, r6) := by rw [if_pos rfl] at H; exact H
          clear H
          have H := H1
          clear H1
          by_cases c27 : x249004_2.length < 17592186044416
          ·rw [if_pos c27] at H
           have LMc27 := za c27
           clear c27
           obtain ⟨y263, hy263⟩ : ∃ y_ : List Int, y_ = (x249004_2 ++ [x11_2]) := ⟨_, rfl⟩
           replace H : (awardingbodymake_Tape_Item.l1 k2 a1 a3 (wrap64 (x11_2 + 1)) s0_0 t262 a1 a2 ((⟨#[113]⟩ : ByteArray) ++ t246) x249003_1 y263) = some (r1, r2, r3, r4, r5, r6) := by first | (rw [hy263]; with_reducible exact H) | (have H2_ := (Option.bind_some _ _).symm.trans H; rw [hy263]; with_reducible exact H2_) | (have H2_ := (Option.bind_some _ _).symm.trans H; with_reducible exact H2_) | with_reducible exact H | (rw [hy263]; exact H) | exact H
           have Ny263 := za hy263
           clear hy263
           have H' := za H
           clear H
           go_wp2_with (first | (go_at_call 38; (with_reducible refine (awardingbodymake_Tape_One.calls g s0_0 x1001_2 8 true t262 w0 _ ?side1 ?side2 A25.out).mono ?_); (case side1 => exact (by repeat (first | (with_reducible first | exact HI0.out | apply IsS54.alloc | apply IsS54.drewN | apply IsS54.drew | apply IsS54.set_1 | refine IsS54.far ?_ NB0_245.out _ | refine IsS54.far ?_ NB0_248.out _) | exact HI0.out))); (case side2 => exact (by repeat (first | (with_reducible first | exact HB.out | apply below_alloc | apply pw_below_drewN | apply below_drew1 | refine below_set ?_ (IsS54.ge HI0.out) | refine below_set ?_ GE245.out | refine below_set ?_ GE248.out) | exact HB.out))); rintro e w28 ⟨rfl, hi, hb, hk⟩; replace HO_249003 := za (Kd.R_mono (Kd.R_keep (IsS54.apart (show IsS54 w0 _ g s0_0 x1001_2 from by repeat (first | (with_reducible first | exact HI0.out | apply IsS54.alloc | apply IsS54.drewN | apply IsS54.drew | apply IsS54.set_1 | refine IsS54.far ?_ NB0_245.out _ | refine IsS54.far ?_ NB0_248.out _) | exact HI0.out)) (by (with_reducible repeat (first | apply Kd.R_alloc | apply Kd.R_drewN | apply Kd.R_drew)); exact HO_249003.out) (by decide)) hk (fun _ h => h.2)) (fun _ h => h.1)); replace HO_249004 := za (Kd.R_mono (Kd.R_keep (IsS54.apart (show IsS54 w0 _ g s0_0 x1001_2 from by repeat (first | (with_reducible first | exact HI0.out | apply IsS54.alloc | apply IsS54.drewN | apply IsS54.drew | apply IsS54.set_1 | refine IsS54.far ?_ NB0_245.out _ | refine IsS54.far ?_ NB0_248.out _) | exact HI0.out)) (by (with_reducible repeat (first | apply Kd.R_alloc | apply Kd.R_drewN | apply Kd.R_drew)); exact HO_249004.out) (by decide)) hk (fun _ h => h.2)) (fun _ h => h.1)); replace BK245 := zk hk BK245 NB245_0; replace BK248 := zk hk BK248 NB248_0; replace HK := zt HK hk; replace HB := za (hb); replace HI0 := za (hi); (try clear hb); (try clear hb2); (try clear hk); (try clear hi); have hnb29 := NB248_245.out; have hnc29 := NB245_248.out; have hnb30 := NB248_0.out; have hnc30 := NB0_248.out; obtain ⟨hcz31_0, hcz31_1, hcz31_2, hcz31_3, hcz31_4, hfz31_0, hfz31_1, hfz31_2, hfz31_3, hfz31_4⟩ := z5 BK248) | ((with_reducible refine gate_builtin (b := .append) (xs := #[.tmp 43, .tmp 45]) rfl ?_); at_builtin; refine Kd.R_append (Kd.int .i64) w.heap.size rfl (.tmp 43) (.tmp 45) 28 3 (.int .i64 0) 8 rfl Try.underlying28 info3 rfl (by decide) (by omega) u249004 x249004_2 x11_2 [.int .i64 x11_2] (fun _ => True) (fun _ => False) rfl rfl ?aP (fun _ hk => hk.elim) ?aF ?aO (Below.refl _ _) ?aS ?aL ?_; (case aP => exact rfl); (case aF => exact (fun _ _ => trivial)); (case aO => exact (by (with_reducible repeat (first | apply Kd.R_alloc | apply Kd.R_drewN | apply Kd.R_drew)); exact HO_249004.out)); (case aS => exact (keep_size (w := w) (g := g) (row := none) (by repeat (first | (with_reducible first | exact HK.out | apply KeepBut.set_ | apply keep_drewN | apply keep_drew | apply keep_alloc | refine keep_far ?_ GW245.out _ | refine keep_far ?_ GW248.out _) | exact HK.out)))); (case aL => have := LMc27.out; omega); intro v264 w32 ho hb hg hat; rw [← Ny263.out] at ho; have HO265 := za (ho); replace HO_249003 := za (Kd.R_over' (by (with_reducible repeat (first | apply Kd.R_alloc | apply Kd.R_drewN | apply Kd.R_drew)); exact HO_249003.out) (Kd.R_typed (by (with_reducible repeat (first | apply Kd.R_alloc | apply Kd.R_drewN | apply Kd.R_drew)); exact HO_249004.out)) (by decide) hg); replace BK245 := (zw BK245 hg (Kd.R_ne HO_249004.out BK245.out (by decide))); replace BK248 := (zw BK248 hg (Kd.R_ne HO_249004.out BK248.out (by decide))); replace HI0 := za (IsS54.grown (by repeat (first | (with_reducible first | exact HI0.out | apply IsS54.alloc | apply IsS54.drewN | apply IsS54.drew | apply IsS54.set_1 | refine IsS54.far ?_ NB0_245.out _ | refine IsS54.far ?_ NB0_248.out _) | exact HI0.out)) hg (IsS54.own_ne HI0.out HO_249004.out (by decide))); replace HB := za (below_weaken (zm HB) HL.out hb); replace HK := za (KeepBut.trans (by repeat (first | (with_reducible first | exact HK.out | apply KeepBut.set_ | apply keep_drewN | apply keep_drew | apply keep_alloc | refine keep_far ?_ GW245.out _ | refine keep_far ?_ GW248.out _) | exact HK.out)) (KeepBut.of_grown hg g) (Kd.R_base2 HO_249004.out)); clear HO_249004 ho hb hg hat; obtain ⟨Ao33, co33, eo33⟩ := Kd.R_slice HO265.out; subst eo33; obtain ⟨hcz34_0, hcz34_1, hcz34_2, hcz34_3, hcz34_4, hfz34_0, hfz34_1, hfz34_2, hfz34_3, hfz34_4⟩ := z5 BK248))
           go_roundg k2
           case measure => have := HK1.out; have := HK2.out; omega
           case rel => exact ⟨(wrap64 (x11_2 + 1)), (t262), (y263), (.slice Ao33 y263.length co33), (by first | rfl | (simp; done) | (simp [*]; done)), H', ⟨by have := HK1.out; have := HK2.out; omega⟩, ⟨by (with_reducible repeat (first | apply Kd.R_alloc | apply Kd.R_drewN | apply Kd.R_drew)); exact Kd.R_mono (Kd.R_far (p := ⟨gb248, 4, none⟩) (Kd.R_types HO_249003.out BK248.out (by decide)) (fun _ hk => hk.2) (.slice Ao33 y263.length co33)) (fun _ hk => trivial)⟩, ⟨by (with_reducible repeat (first | apply Kd.R_alloc | apply Kd.R_drewN | apply Kd.R_drew)); exact Kd.R_mono (Kd.R_far (p := ⟨gb248, 4, none⟩) (Kd.R_types HO265.out BK248.out (by decide)) (fun _ hk => hk.2) (.slice Ao33 y263.length co33)) (fun _ hk => trivial)⟩, ⟨by (with_reducible repeat (first | refine blk_drewN ?_ _ | refine blk_drew ?_ | refine blk_alloc ?_ _)); refine blk_far ?_ NB245_248.out _; (with_reducible repeat (first | refine blk_drewN ?_ _ | refine blk_drew ?_ | refine blk_alloc ?_ _)); exact BK245.out⟩, ⟨by (with_reducible repeat (first | refine blk_drewN ?_ _ | refine blk_drew ?_ | refine blk_alloc ?_ _)); refine blk_put (cs := #[.int .i64 a1, .int .i64 a2, .string ((⟨#[113]⟩ : ByteArray) ++ t246), u249003, u249004]) ?_ 4 _ rfl; (with_reducible repeat (first | refine blk_drewN ?_ _ | refine blk_drew ?_ | refine blk_alloc ?_ _)); exact BK248.out⟩, ⟨by repeat (first | (with_reducible first | exact HI0.out | apply IsS54.alloc | apply IsS54.drewN | apply IsS54.drew | apply IsS54.set_1 | refine IsS54.far ?_ NB0_245.out _ | refine IsS54.far ?_ NB0_248.out _) | exact HI0.out)⟩, ⟨by repeat (first | (with_reducible first | exact HK.out | apply KeepBut.set_ | apply keep_drewN | apply keep_drew | apply keep_alloc | refine keep_far ?_ GW245.out _ | refine keep_far ?_ GW248.out _) | exact HK.out)⟩, ⟨zm HB⟩⟩
          ·rw [if_neg c27] at H
           exact absurd H (by simp)
         ·replace c26 := Bool.eq_false_iff.mpr c26
          subst c26
          have H1 : (awardingbodymake_Tape_Item.l1 k2 a1 a3 (wrap64 (x11_2 + 1)) s0_0 t262 a1 a2 ((⟨#[113]⟩ : ByteArray) ++ t246) x249003_1 x249004_2) = some (r1, r2, r3, r4, r5, r6) := by rw [if_neg (show ¬ (false = true) by decide)] at H; exact H
          clear H
          have H := H1
          clear H1
          have H' := za H
          clear H
          go_wp2_with (first | (go_at_call 38; (with_reducible refine (awardingbodymake_Tape_One.calls g s0_0 x1001_2 8 false t262 w0 _ ?side1 ?side2 A25.out).mono ?_); (case side1 => exact (by repeat (first | (with_reducible first | exact HI0.out | apply IsS54.alloc | apply IsS54.drewN | apply IsS54.drew | apply IsS54.set_1 | refine IsS54.far ?_ NB0_245.out _ | refine IsS54.far ?_ NB0_248.out _) | exact HI0.out))); (case side2 => exact (by repeat (first | (with_reducible first | exact HB.out | apply below_alloc | apply pw_below_drewN | apply below_drew1 | refine below_set ?_ (IsS54.ge HI0.out) | refine below_set ?_ GE245.out | refine below_set ?_ GE248.out) | exact HB.out))); rintro e w35 ⟨rfl, hi, hb, hk⟩; replace HO_249003 := za (Kd.R_mono (Kd.R_keep (IsS54.apart (show IsS54 w0 _ g s0_0 x1001_2 from by repeat (first | (with_reducible first | exact HI0.out | apply IsS54.alloc | apply IsS54.drewN | apply IsS54.drew | apply IsS54.set_1 | refine IsS54.far ?_ NB0_245.out _ | refine IsS54.far ?_ NB0_248.out _) | exact HI0.out)) (by (with_reducible repeat (first | apply Kd.R_alloc | apply Kd.R_drewN | apply Kd.R_drew)); exact HO_249003.out) (by decide)) hk (fun _ h => h.2)) (fun _ h => h.1)); replace HO_249004 := za (Kd.R_mono (Kd.R_keep (IsS54.apart (show IsS54 w0 _ g s0_0 x1001_2 from by repeat (first | (with_reducible first | exact HI0.out | apply IsS54.alloc | apply IsS54.drewN | apply IsS54.drew | apply IsS54.set_1 | refine IsS54.far ?_ NB0_245.out _ | refine IsS54.far ?_ NB0_248.out _) | exact HI0.out)) (by (with_reducible repeat (first | apply Kd.R_alloc | apply Kd.R_drewN | apply Kd.R_drew)); exact HO_249004.out) (by decide)) hk (fun _ h => h.2)) (fun _ h => h.1)); replace BK245 := zk hk BK245 NB245_0; replace BK248 := zk hk BK248 NB248_0; replace HK := zt HK hk; replace HB := za (hb); replace HI0 := za (hi); (try clear hb); (try clear hb2); (try clear hk); (try clear hi)))
          go_roundg k2
          case measure => have := HK1.out; have := HK2.out; omega
          case rel => exact ⟨(wrap64 (x11_2 + 1)), (t262), (x249004_2), (u249004), (by first | rfl | (simp; done) | (simp [*]; done)), H', ⟨by have := HK1.out; have := HK2.out; omega⟩, ⟨by (with_reducible repeat (first | apply Kd.R_alloc | apply Kd.R_drewN | apply Kd.R_drew)); exact HO_249003.out⟩, ⟨by (with_reducible repeat (first | apply Kd.R_alloc | apply Kd.R_drewN | apply Kd.R_drew)); exact HO_249004.out⟩, ⟨by (with_reducible repeat (first | refine blk_drewN ?_ _ | refine blk_drew ?_ | refine blk_alloc ?_ _)); exact BK245.out⟩, ⟨by (with_reducible repeat (first | refine blk_drewN ?_ _ | refine blk_drew ?_ | refine blk_alloc ?_ _)); exact BK248.out⟩, ⟨by repeat (first | (with_reducible first | exact HI0.out | apply IsS54.alloc | apply IsS54.drewN | apply IsS54.drew | apply IsS54.set_1 | refine IsS54.far ?_ NB0_245.out _ | refine IsS54.far ?_ NB0_248.out _) | exact HI0.out)⟩, ⟨by repeat (first | (with_reducible first | exact HK.out | apply KeepBut.set_ | apply keep_drewN | apply keep_drew | apply keep_alloc | refine keep_far ?_ GW245.out _ | refine keep_far ?_ GW248.out _) | exact HK.out)⟩, ⟨zm HB⟩⟩
       ·rw [if_neg c23] at H
        have c23b0 : decide (x11_2 < 6) = false := decide_eq_false c23
        clear c23
        have HC36 := za H
        clear H
        go_upto_region 11 with (fail)
        go_cut [54] (fun v54 wc => ∃ (kq : Nat) (x54_35 : Bool) (x1001_35 : Int), v54 = .bool x54_35 ∧ Aside0 (awardingbodymake_Tape_Item.j2 kq a1 x54_35 s0_0 x1001_35 a1 a2 ((⟨#[113]⟩ : ByteArray) ++ t246) x249003_1 x249004_2 = some (r1, r2, r3, r4, r5, r6)) ∧ Aside0 (kq ≤ k2) ∧ Aside0 (Kd.R k23 23 wc w.heap.size (fun _ => True) u249003 x249003_1) ∧ Aside0 (Kd.R (Kd.int .i64) 3 wc w.heap.size (fun _ => True) u249004 x249004_2) ∧ Aside0 (wc.heap[gb245]? = some (.cells #[.int .i64 0, .int .i64 0, .string (⟨#[]⟩ : ByteArray), (.slice none 0 0), (.slice none 0 0)] 33 (0, 0))) ∧ Aside0 (wc.heap[gb248]? = some (.cells #[.int .i64 a1, .int .i64 a2, .string ((⟨#[113]⟩ : ByteArray) ++ t246), u249003, u249004] 33 (0, 0))) ∧ Aside0 (IsS54 w0 wc g s0_0 x1001_35) ∧ Aside0 (KeepBut w wc g none) ∧ Aside0 (Below w0.heap.size w0 wc))
        case first =>
         have H := HC36.out
         clear HC36
         by_cases c37 : a3 > 0
         ·rw [if_pos c37] at H
          have c37b0 : decide (0 < a3) = true := decide_eq_true c37
          clear c37
          (first | rw [c37b0] | (simp only [i64_w, i32_w]; rw [c37b0]) | skip)
          replace H := Option.bind_eq_some_iff.mp H
          obtain ⟨⟨t266, t267⟩, A380, H⟩ := H
          replace H : (awardingbodymake_Tape_Item.j2 k2 a1 t266 s0_0 t267 a1 a2 ((⟨#[113]⟩ : ByteArray) ++ t246) x249003_1 x249004_2) = some (r1, r2, r3, r4, r5, r6) := H
          have A38 := za A380
          clear A380
          have H' := za H
          clear H
          go_wp2_with (first | (go_at_call 38; (with_reducible refine (awardingbodymake_Tape_One.calls g s0_0 x1001_2 a3 t266 t267 w0 _ ?side1 ?side2 A38.out).mono ?_); (case side1 => exact (by repeat (first | (with_reducible first | exact HI0.out | apply IsS54.alloc | apply IsS54.drewN | apply IsS54.drew | apply IsS54.set_1 | refine IsS54.far ?_ NB0_245.out _ | refine IsS54.far ?_ NB0_248.out _) | exact HI0.out))); (case side2 => exact (by repeat (first | (with_reducible first | exact HB.out | apply below_alloc | apply pw_below_drewN | apply below_drew1 | refine below_set ?_ (IsS54.ge HI0.out) | refine below_set ?_ GE245.out | refine below_set ?_ GE248.out) | exact HB.out))); rintro e w39 ⟨rfl, hi, hb, hk⟩; replace HO_249003 := za (Kd.R_mono (Kd.R_keep (IsS54.apart (show IsS54 w0 _ g s0_0 x1001_2 from by repeat (first | (with_reducible first | exact HI0.out | apply IsS54.alloc | apply IsS54.drewN | apply IsS54.drew | apply IsS54.set_1 | refine IsS54.far ?_ NB0_245.out _ | refine IsS54.far ?_ NB0_248.out _) | exact HI0.out)) (by (with_reducible repeat (first | apply Kd.R_alloc | apply Kd.R_drewN | apply Kd.R_drew)); exact HO_249003.out) (by decide)) hk (fun _ h => h.2)) (fun _ h => h.1)); replace HO_249004 := za (Kd.R_mono (Kd.R_keep (IsS54.apart (show IsS54 w0 _ g s0_0 x1001_2 from by repeat (first | (with_reducible first | exact HI0.out | apply IsS54.alloc | apply IsS54.drewN | apply IsS54.drew | apply IsS54.set_1 | refine IsS54.far ?_ NB0_245.out _ | refine IsS54.far ?_ NB0_248.out _) | exact HI0.out)) (by (with_reducible repeat (first | apply Kd.R_alloc | apply Kd.R_drewN | apply Kd.R_drew)); exact HO_249004.out) (by decide)) hk (fun _ h => h.2)) (fun _ h => h.1)); replace BK245 := zk hk BK245 NB245_0; replace BK248 := zk hk BK248 NB248_0; replace HK := zt HK hk; replace HB := za (hb); replace HI0 := za (hi); (try clear hb); (try clear hb2); (try clear hk); (try clear hi)))
          go_meet
          case rel => exact ⟨_, (t266), (t267), (by first | rfl | (simp; done) | (simp [*]; done)), H', ⟨by have := HK1.out; have := HK2.out; first | omega | exact Nat.le_refl _⟩, ⟨by (with_reducible repeat (first | apply Kd.R_alloc | apply Kd.R_drewN | apply Kd.R_drew)); exact HO_249003.out⟩, ⟨by (with_reducible repeat (first | apply Kd.R_alloc | apply Kd.R_drewN | apply Kd.R_drew)); exact HO_249004.out⟩, ⟨by (with_reducible repeat (first | refine blk_drewN ?_ _ | refine blk_drew ?_ | refine blk_alloc ?_ _)); exact BK245.out⟩, ⟨by (with_reducible repeat (first | refine blk_drewN ?_ _ | refine blk_drew ?_ | refine blk_alloc ?_ _)); exact BK248.out⟩, ⟨by repeat (first | (with_reducible first | exact HI0.out | apply IsS54.alloc | apply IsS54.drewN | apply IsS54.drew | apply IsS54.set_1 | refine IsS54.far ?_ NB0_245.out _ | refine IsS54.far ?_ NB0_248.out _) | exact HI0.out)⟩, ⟨by repeat (first | (with_reducible first | exact HK.out | apply KeepBut.set_ | apply keep_drewN | apply keep_drew | apply keep_alloc | refine keep_far ?_ GW245.out _ | refine keep_far ?_ GW248.out _) | exact HK.out)⟩, ⟨zm HB⟩⟩
         ·rw [if_neg c37] at H
          have c37b0 : decide (0 < a3) = false := decide_eq_false c37
          clear c37
          (first | rw [c37b0] | (simp only [i64_w, i32_w]; rw [c37b0]) | skip)
          have H' := za H
          clear H
          go_wp2
          go_meet
          case rel => exact ⟨_, (false), (x1001_2), (by first | rfl | (simp; done) | (simp [*]; done)), H', ⟨by have := HK1.out; have := HK2.out; first | omega | exact Nat.le_refl _⟩, ⟨by (with_reducible repeat (first | apply Kd.R_alloc | apply Kd.R_drewN | apply Kd.R_drew)); exact HO_249003.out⟩, ⟨by (with_reducible repeat (first | apply Kd.R_alloc | apply Kd.R_drewN | apply Kd.R_drew)); exact HO_249004.out⟩, ⟨by (with_reducible repeat (first | refine blk_drewN ?_ _ | refine blk_drew ?_ | refine blk_alloc ?_ _)); exact BK245.out⟩, ⟨by (with_reducible repeat (first | refine blk_drewN ?_ _ | refine blk_drew ?_ | refine blk_alloc ?_ _)); exact BK248.out⟩, ⟨by repeat (first | (with_reducible first | exact HI0.out | apply IsS54.alloc | apply IsS54.drewN | apply IsS54.drew | apply IsS54.set_1 | refine IsS54.far ?_ NB0_245.out _ | refine IsS54.far ?_ NB0_248.out _) | exact HI0.out)⟩, ⟨by repeat (first | (with_reducible first | exact HK.out | apply KeepBut.set_ | apply keep_drewN | apply keep_drew | apply keep_alloc | refine keep_far ?_ GW245.out _ | refine keep_far ?_ GW248.out _) | exact HK.out)⟩, ⟨zm HB⟩⟩
        case rest =>
         clear HC36
         try clear c1
         try clear c2
         try clear p2
         try clear c3
         try clear c6
         try clear c6b0
         try clear c6b1
         try clear c6b2
         try clear p6
         try clear c11
         try clear c12
         try clear c15
         try clear c15b0
         try clear c16
         try clear c17
         try clear c18
         try clear c23
         try clear c23b0
         try clear c24
         try clear c24b0
         try clear c24b1
         try clear c26
         try clear c27
         try clear c29
         try clear c30
         try clear c37
         try clear c37b0
         try clear hcz13_0
         try clear hcz13_1
         try clear hcz13_2
         try clear hcz13_3
         try clear hcz13_4
         try clear hcz31_0
         try clear hcz31_1
         try clear hcz31_2
         try clear hcz31_3
         try clear hcz31_4
         try clear hcz34_0
         try clear hcz34_1
         try clear hcz34_2
         try clear hcz34_3
         try clear hcz34_4
         try clear hfz13_0
         try clear hfz13_1
         try clear hfz13_2
         try clear hfz13_3
         try clear hfz13_4
         try clear hfz31_0
         try clear hfz31_1
         try clear hfz31_2
         try clear hfz31_3
         try clear hfz31_4
         try clear hfz34_0
         try clear hfz34_1
         try clear hfz34_2
         try clear hfz34_3
         try clear hfz34_4
         try clear p2
         try clear p6
         obtain ⟨kq, x54_35, x1001_35, rfl, HA, HJ35, HO_249003, HO_249004, BK245, BK248, HI0, HK, HB⟩ := hcut
         cases kq with
         | zero => exact absurd HA.out (by simp [awardingbodymake_Tape_Item.j2])
         | succ kj35 =>
          have H := HA.out
          clear HA
          simp only [awardingbodymake_Tape_Item.j2] at H
          by_cases c40 : x54_35 = true
          ·subst c40
           have H1 : ((awardingbodymake_Tape_Next.f s0_0 x1001_35 7).bind fun bt268 => (if bt268.1 = 0 then ((awardingbodymake_Tape_Wild.f s0_0 bt268.2).bind fun bt270 => (some (bt270.1, a2, ((⟨#[113]⟩ : ByteArray) ++ t246), x249003_1, x249004_2, bt270.2))) else (if bt268.1 = 1 then ((awardingbodymake_Tape_Pick.f s0_0 bt268.2 (([0, 8, 9, (-1)] : List Int))).bind fun bt275 => (some (a1, bt275.1, ((⟨#[113]⟩ : ByteArray) ++ t246), x249003_1, x249004_2, bt275.2))) else (if bt268.1 = 2 then ((some (([(⟨#[]⟩ : ByteArray), (⟨#[116, 97, 98, 9]⟩ : ByteArray), (⟨#[48, 49, 50, 51, 52, 53, 54, 55, 56, 57, 48, 49, 50, 51, 52, 53, 54, 55, 56, 57, 48, 49, 50, 51, 52, 53, 54, 55, 56, 57, 48, 49, 50, 51, 52, 53, 54, 55, 56, 57, 120]⟩ : ByteArray)] : List ByteArray) : List ByteArray)).bind fun y277 => ((awardingbodymake_Tape_Next.f s0_0 bt268.2 3).bind fun bt280 => (if 0 ≤ bt280.1 then (if bt280.1 < (y277.length : Int) then (some (a1, a2, rdOf ByteArray.empty y277 bt280.1, x249003_1, x249004_2, bt280.2)) else (none)) else (none)))) else (if bt268.1 = 3 then (some (a1, a2, ((⟨#[113]⟩ : ByteArray) ++ t246), ([] : List (S23)), x249004_2, bt268.2)) else (if bt268.1 = 4 then ((awardingbodymake_Tape_Part.f kj35 s0_0 bt268.2 1).bind fun bt283 => (if x249003_1.length < 2932031007402 then (some (a1, a2, ((⟨#[113]⟩ : ByteArray) ++ t246), (x249003_1 ++ [(⟨bt283.1, bt283.2.1, bt283.2.2.1, bt283.2.2.2.1, bt283.2.2.2.2.1, bt283.2.2.2.2.2.1⟩ : S23)]), x249004_2, bt283.2.2.2.2.2.2)) else (none))) else (if bt268.1 = 5 then ((awardingbodymake_Tape_Pick.f s0_0 bt268.2 (([0, a1, (-1), 10000, 3] : List Int))).bind fun bt296 => (if x249004_2.length < 17592186044416 then (some (a1, a2, ((⟨#[113]⟩ : ByteArray) ++ t246), x249003_1, (x249004_2 ++ [bt296.1]), bt296.2)) else (none))) else (if 0 < (x249003_1.length : Int) then ((some (([(⟨(rd_T23 x249003_1 0).f0, (rd_T23 x249003_1 0).f1, (rd_T23 x249003_1 0).f2, (rd_T23 x249003_1 0).f3, (rd_T23 x249003_1 0).f4, (rd_T23 x249003_1 0).f5⟩ : S23), (⟨(rd_T23 x249003_1 0).f0, (rd_T23 x249003_1 0).f1, (rd_T23 x249003_1 0).f2, (rd_T23 x249003_1 0).f3, (rd_T23 x249003_1 0).f4, (rd_T23 x249003_1 0).f5⟩ : S23), (⟨(rd_T23 x249003_1 0).f0, (rd_T23 x249003_1 0).f1, (rd_T23 x249003_1 0).f2, (rd_T23 x249003_1 0).f3, (rd_T23 x249003_1 0).f4, (rd_T23 x249003_1 0).f5⟩ : S23), (⟨(rd_T23 x249003_1 0).f0, (rd_T23 x249003_1 0).f1, (rd_T23 x249003_1 0).f2, (rd_T23 x249003_1 0).f3, (rd_T23 x249003_1 0).f4, (rd_T23 x249003_1 0).f5⟩ : S23), (⟨(rd_T23 x249003_1 0).f0, (rd_T23 x249003_1 0).f1, (rd_T23 x249003_1 0).f2, (rd_T23 x249003_1 0).f3, (rd_T23 x249003_1 0).f4, (rd_T23 x249003_1 0).f5⟩ : S23), (⟨(rd_T23 x249003_1 0).f0, (rd_T23 x249003_1 0).f1, (rd_T23 x249003_1 0).f2, (rd_T23 x249003_1 0).f3, (rd_T23 x249003_1 0).f4, (rd_T23 x249003_1 0).f5⟩ : S23)] : List (S23)) : List (S23))).bind fun y307 => (if x249003_1.length + y307.length < 2932031007402 then (some (a1, a2, ((⟨#[113]⟩ : ByteArray) ++ t246), (x249003_1 ++ y307), x249004_2, bt268.2)) else (none))) else (none))))))))) = some (r1, r2, r3, r4, r5, r6) := by rw [if_pos rfl] at H; exact H
           clear H
           have H := H1
           clear H1
           replace H := Option.bind_eq_some_iff.mp H
           obtain ⟨⟨t268, t269⟩, A410, H⟩ := H
           replace H : (if t268 = 0 then ((awardingbodymake_Tape_Wild.f s0_0 t269).bind fun bt270 => (some (bt270.1, a2, ((⟨#[113]⟩ : ByteArray) ++ t246), x249003_1, x249004_2, bt270.2))) else (if t268 = 1 then ((awardingbodymake_Tape_Pick.f s0_0 t269 (([0, 8, 9, (-1)] : List Int))).bind fun bt275 => (some (a1, bt275.1, ((⟨#[113]⟩ : ByteArray) ++ t246), x249003_1, x249004_2, bt275.2))) else (if t268 = 2 then ((some (([(⟨#[]⟩ : ByteArray), (⟨#[116, 97, 98, 9]⟩ : ByteArray), (⟨#[48, 49, 50, 51, 52, 53, 54, 55, 56, 57, 48, 49, 50, 51, 52, 53, 54, 55, 56, 57, 48, 49, 50, 51, 52, 53, 54, 55, 56, 57, 48, 49, 50, 51, 52, 53, 54, 55, 56, 57, 120]⟩ : ByteArray)] : List ByteArray) : List ByteArray)).bind fun y277 => ((awardingbodymake_Tape_Next.f s0_0 t269 3).bind fun bt280 => (if 0 ≤ bt280.1 then (if bt280.1 < (y277.length : Int) then (some (a1, a2, rdOf ByteArray.empty y277 bt280.1, x249003_1, x249004_2, bt280.2)) else (none)) else (none)))) else (if t268 = 3 then (some (a1, a2, ((⟨#[113]⟩ : ByteArray) ++ t246), ([] : List (S23)), x249004_2, t269)) else (if t268 = 4 then ((awardingbodymake_Tape_Part.f kj35 s0_0 t269 1).bind fun bt283 => (if x249003_1.length < 2932031007402 then (some (a1, a2, ((⟨#[113]⟩ : ByteArray) ++ t246), (x249003_1 ++ [(⟨bt283.1, bt283.2.1, bt283.2.2.1, bt283.2.2.2.1, bt283.2.2.2.2.1, bt283.2.2.2.2.2.1⟩ : S23)]), x249004_2, bt283.2.2.2.2.2.2)) else (none))) else (if t268 = 5 then ((awardingbodymake_Tape_Pick.f s0_0 t269 (([0, a1, (-1), 10000, 3] : List Int))).bind fun bt296 => (if x249004_2.length < 17592186044416 then (some (a1, a2, ((⟨#[113]⟩ : ByteArray) ++ t246), x249003_1, (x249004_2 ++ [bt296.1]), bt296.2)) else (none))) else (if 0 < (x249003_1.length : Int) then ((some (([(⟨(rd_T23 x249003_1 0).f0, (rd_T23 x249003_1 0).f1, (rd_T23 x249003_1 0).f2, (rd_T23 x249003_1 0).f3, (rd_T23 x249003_1 0).f4, (rd_T23 x249003_1 0).f5⟩ : S23), (⟨(rd_T23 x249003_1 0).f0, (rd_T23 x249003_1 0).f1, (rd_T23 x249003_1 0).f2, (rd_T23 x249003_1 0).f3, (rd_T23 x249003_1 0).f4, (rd_T23 x249003_1 0).f5⟩ : S23), (⟨(rd_T23 x249003_1 0).f0, (rd_T23 x249003_1 0).f1, (rd_T23 x249003_1 0).f2, (rd_T23 x249003_1 0).f3, (rd_T23 x249003_1 0).f4, (rd_T23 x249003_1 0).f5⟩ : S23), (⟨(rd_T23 x249003_1 0).f0, (rd_T23 x249003_1 0).f1, (rd_T23 x249003_1 0).f2, (rd_T23 x249003_1 0).f3, (rd_T23 x249003_1 0).f4, (rd_T23 x249003_1 0).f5⟩ : S23), (⟨(rd_T23 x249003_1 0).f0, (rd_T23 x249003_1 0).f1, (rd_T23 x249003_1 0).f2, (rd_T23 x249003_1 0).f3, (rd_T23 x249003_1 0).f4, (rd_T23 x249003_1 0).f5⟩ : S23), (⟨(rd_T23 x249003_1 0).f0, (rd_T23 x249003_1 0).f1, (rd_T23 x249003_1 0).f2, (rd_T23 x249003_1 0).f3, (rd_T23 x249003_1 0).f4, (rd_T23 x249003_1 0).f5⟩ : S23)] : List (S23)) : List (S23))).bind fun y307 => (if x249003_1.length + y307.length < 2932031007402 then (some (a1, a2, ((⟨#[113]⟩ : ByteArray) ++ t246), (x249003_1 ++ y307), x249004_2, t269)) else (none))) else (none)))))))) = some (r1, r2, r3, r4, r5, r6) := H
           have A41 := za A410
           clear A410
           by_cases c42 : t268 = 0
           ·rw [if_pos c42] at H
            have c42b0 : (t268 == 0) = true := beq_iff_eq.mpr c42
            have c42b1 : (t268 != 0) = false := bne_eq_false_iff_eq.mpr c42
            clear c42
            replace H := Option.bind_eq_some_iff.mp H
            obtain ⟨⟨t270, t271⟩, A430, H⟩ := H
            replace H : (some (t270, a2, ((⟨#[113]⟩ : ByteArray) ++ t246), x249003_1, x249004_2, t271)) = some (r1, r2, r3, r4, r5, r6) := H
            have A43 := za A430
            clear A430
            simp only [Option.some.injEq, Prod.mk.injEq] at H
            obtain ⟨rfl, rfl, rfl, rfl, rfl, rfl⟩ := H
            go_wp2_with (first | ((with_reducible refine gate_callee (f := 17) rfl ?_); refine zL (some 56) Try.func17 #[.pointer (some ⟨g, 0, none⟩), .int .i64 7] ?_; (with_reducible refine (awardingbodymake_Tape_Next.calls g s0_0 x1001_35 7 t268 t269 w0 _ ?side1 ?side2 A41.out).mono ?_); (case side1 => exact (by repeat (first | (with_reducible first | exact HI0.out | apply IsS54.alloc | apply IsS54.drewN | apply IsS54.drew | apply IsS54.set_1 | refine IsS54.far ?_ NB0_245.out _ | refine IsS54.far ?_ NB0_248.out _) | exact HI0.out))); (case side2 => exact (by repeat (first | (with_reducible first | exact HB.out | apply below_alloc | apply pw_below_drewN | apply below_drew1 | refine below_set ?_ (IsS54.ge HI0.out) | refine below_set ?_ GE245.out | refine below_set ?_ GE248.out) | exact HB.out))); rintro e w44 ⟨rfl, hi, hb, hk⟩; refine ⟨_, rfl, ?_⟩; replace HO_249003 := za (Kd.R_mono (Kd.R_keep (IsS54.apart (show IsS54 w0 _ g s0_0 x1001_35 from by repeat (first | (with_reducible first | exact HI0.out | apply IsS54.alloc | apply IsS54.drewN | apply IsS54.drew | apply IsS54.set_1 | refine IsS54.far ?_ NB0_245.out _ | refine IsS54.far ?_ NB0_248.out _) | exact HI0.out)) (by (with_reducible repeat (first | apply Kd.R_alloc | apply Kd.R_drewN | apply Kd.R_drew)); exact HO_249003.out) (by decide)) hk (fun _ h => h.2)) (fun _ h => h.1)); replace HO_249004 := za (Kd.R_mono (Kd.R_keep (IsS54.apart (show IsS54 w0 _ g s0_0 x1001_35 from by repeat (first | (with_reducible first | exact HI0.out | apply IsS54.alloc | apply IsS54.drewN | apply IsS54.drew | apply IsS54.set_1 | refine IsS54.far ?_ NB0_245.out _ | refine IsS54.far ?_ NB0_248.out _) | exact HI0.out)) (by (with_reducible repeat (first | apply Kd.R_alloc | apply Kd.R_drewN | apply Kd.R_drew)); exact HO_249004.out) (by decide)) hk (fun _ h => h.2)) (fun _ h => h.1)); replace BK245 := zk hk BK245 NB245_0; replace BK248 := zk hk BK248 NB248_0; replace HK := zt HK hk; replace HB := za (hb); replace HI0 := za (hi); (try clear hb); (try clear hb2); (try clear hk); (try clear hi)) | ((with_reducible refine gate_callee (f := 39) rfl ?_); refine zL (some 89) Try.func39 #[.pointer (some ⟨g, 0, none⟩)] ?_; (with_reducible refine (awardingbodymake_Tape_Wild.calls g s0_0 t269 t270 t271 w0 _ ?side1 ?side2 A43.out).mono ?_); (case side1 => exact (by repeat (first | (with_reducible first | exact HI0.out | apply IsS54.alloc | apply IsS54.drewN | apply IsS54.drew | apply IsS54.set_1 | refine IsS54.far ?_ NB0_245.out _ | refine IsS54.far ?_ NB0_248.out _) | exact HI0.out))); (case side2 => exact (by repeat (first | (with_reducible first | exact HB.out | apply below_alloc | apply pw_below_drewN | apply below_drew1 | refine below_set ?_ (IsS54.ge HI0.out) | refine below_set ?_ GE245.out | refine below_set ?_ GE248.out) | exact HB.out))); rintro e w45 ⟨rfl, hi, hb, hk⟩; refine ⟨_, rfl, ?_⟩; replace HO_249003 := za (Kd.R_mono (Kd.R_keep (IsS54.apart (show IsS54 w0 _ g s0_0 t269 from by repeat (first | (with_reducible first | exact HI0.out | apply IsS54.alloc | apply IsS54.drewN | apply IsS54.drew | apply IsS54.set_1 | refine IsS54.far ?_ NB0_245.out _ | refine IsS54.far ?_ NB0_248.out _) | exact HI0.out)) (by (with_reducible repeat (first | apply Kd.R_alloc | apply Kd.R_drewN | apply Kd.R_drew)); exact HO_249003.out) (by decide)) hk (fun _ h => h.2)) (fun _ h => h.1)); replace HO_249004 := za (Kd.R_mono (Kd.R_keep (IsS54.apart (show IsS54 w0 _ g s0_0 t269 from by repeat (first | (with_reducible first | exact HI0.out | apply IsS54.alloc | apply IsS54.drewN | apply IsS54.drew | apply IsS54.set_1 | refine IsS54.far ?_ NB0_245.out _ | refine IsS54.far ?_ NB0_248.out _) | exact HI0.out)) (by (with_reducible repeat (first | apply Kd.R_alloc | apply Kd.R_drewN | apply Kd.R_drew)); exact HO_249004.out) (by decide)) hk (fun _ h => h.2)) (fun _ h => h.1)); replace BK245 := zk hk BK245 NB245_0; replace BK248 := zk hk BK248 NB248_0; replace HK := zt HK hk; replace HB := za (hb); replace HI0 := za (hi); (try clear hb); (try clear hb2); (try clear hk); (try clear hi); have hnb46 := NB248_245.out; have hnc46 := NB245_248.out; have hnb47 := NB248_0.out; have hnc47 := NB0_248.out; obtain ⟨hcz48_0, hcz48_1, hcz48_2, hcz48_3, hcz48_4, hfz48_0, hfz48_1, hfz48_2, hfz48_3, hfz48_4⟩ := z5 BK248; have hnb49 := NB245_0.out; have hnc49 := NB0_245.out; obtain ⟨hcz50_0, hcz50_1, hcz50_2, hcz50_3, hcz50_4, hfz50_0, hfz50_1, hfz50_2, hfz50_3, hfz50_4⟩ := z5 BK245; obtain ⟨Ao51, co51, eo51⟩ := Kd.R_slice HO_249003.out; subst eo51; obtain ⟨Ao52, co52, eo52⟩ := Kd.R_slice HO_249004.out; subst eo52))
            refine bodyPost_ret (results_cell_row rfl _ _ gb245 33 #[.int .i64 t270, .int .i64 a2, .string ((⟨#[113]⟩ : ByteArray) ++ t246), .slice Ao51 x249003_1.length co51, .slice Ao52 x249004_2.length co52] (0, 0) _ rfl (by (with_reducible repeat (first | refine blk_drewN ?_ _ | refine blk_drew ?_ | refine blk_alloc ?_ _)); refine blk_put (cs := #[.int .i64 t270, .int .i64 a2, .string ((⟨#[113]⟩ : ByteArray) ++ t246), .slice Ao51 x249003_1.length co51, .slice none 0 0]) ?_ 4 _ rfl; (with_reducible repeat (first | refine blk_drewN ?_ _ | refine blk_drew ?_ | refine blk_alloc ?_ _)); refine blk_put (cs := #[.int .i64 t270, .int .i64 a2, .string ((⟨#[113]⟩ : ByteArray) ++ t246), .slice none 0 0, .slice none 0 0]) ?_ 3 _ rfl; (with_reducible repeat (first | refine blk_drewN ?_ _ | refine blk_drew ?_ | refine blk_alloc ?_ _)); refine blk_put (cs := #[.int .i64 t270, .int .i64 a2, .string (⟨#[]⟩ : ByteArray), .slice none 0 0, .slice none 0 0]) ?_ 2 _ rfl; (with_reducible repeat (first | refine blk_drewN ?_ _ | refine blk_drew ?_ | refine blk_alloc ?_ _)); refine blk_put (cs := #[.int .i64 t270, .int .i64 0, .string (⟨#[]⟩ : ByteArray), .slice none 0 0, .slice none 0 0]) ?_ 1 _ rfl; (with_reducible repeat (first | refine blk_drewN ?_ _ | refine blk_drew ?_ | refine blk_alloc ?_ _)); refine blk_put (cs := #[.int .i64 0, .int .i64 0, .string (⟨#[]⟩ : ByteArray), .slice none 0 0, .slice none 0 0]) ?_ 0 _ rfl; (with_reducible repeat (first | refine blk_drewN ?_ _ | refine blk_drew ?_ | refine blk_alloc ?_ _)); refine blk_far ?_ NB245_248.out _; (with_reducible repeat (first | refine blk_drewN ?_ _ | refine blk_drew ?_ | refine blk_alloc ?_ _)); exact BK245.out) Try.underlying33 rfl (by kernel_rfl)) rfl ?_
            exact ⟨_, _, zf, by (with_reducible repeat (first | apply Kd.R_alloc | apply Kd.R_drewN | apply Kd.R_drew)); exact Kd.R_mono (Kd.R_far (p := ⟨gb245, 4, none⟩) (Kd.R_far (p := ⟨gb245, 3, none⟩) (Kd.R_far (p := ⟨gb245, 2, none⟩) (Kd.R_far (p := ⟨gb245, 1, none⟩) (Kd.R_far (p := ⟨gb245, 0, none⟩) (Kd.R_far (p := ⟨gb248, 0, none⟩) (Kd.R_types (Kd.R_types HO_249003.out BK248.out (by decide)) BK245.out (by decide)) (fun _ hk => hk.1.2) (.int .i64 t270)) (fun _ hk => hk.2) (.int .i64 t270)) (fun _ hk => hk.2) (.int .i64 a2)) (fun _ hk => hk.2) (.string ((⟨#[113]⟩ : ByteArray) ++ t246))) (fun _ hk => hk.2) (.slice Ao51 x249003_1.length co51)) (fun _ hk => hk.2) (.slice Ao52 x249004_2.length co52)) (fun _ hk => trivial), by (with_reducible repeat (first | apply Kd.R_alloc | apply Kd.R_drewN | apply Kd.R_drew)); exact Kd.R_mono (Kd.R_far (p := ⟨gb245, 4, none⟩) (Kd.R_far (p := ⟨gb245, 3, none⟩) (Kd.R_far (p := ⟨gb245, 2, none⟩) (Kd.R_far (p := ⟨gb245, 1, none⟩) (Kd.R_far (p := ⟨gb245, 0, none⟩) (Kd.R_far (p := ⟨gb248, 0, none⟩) (Kd.R_types (Kd.R_types HO_249004.out BK248.out (by decide)) BK245.out (by decide)) (fun _ hk => hk.1.2) (.int .i64 t270)) (fun _ hk => hk.2) (.int .i64 t270)) (fun _ hk => hk.2) (.int .i64 a2)) (fun _ hk => hk.2) (.string ((⟨#[113]⟩ : ByteArray) ++ t246))) (fun _ hk => hk.2) (.slice Ao51 x249003_1.length co51)) (fun _ hk => hk.2) (.slice Ao52 x249004_2.length co52)) (fun _ hk => trivial), by repeat (first | (with_reducible first | exact HI0.out | apply IsS54.alloc | apply IsS54.drewN | apply IsS54.drew | apply IsS54.set_1 | refine IsS54.far ?_ NB0_245.out _ | refine IsS54.far ?_ NB0_248.out _) | exact HI0.out), zm HB, by repeat (first | (with_reducible first | exact HK.out | apply KeepBut.set_ | apply keep_drewN | apply keep_drew | apply keep_alloc | refine keep_far ?_ GW245.out _ | refine keep_far ?_ GW248.out _) | exact HK.out)⟩
           ·rw [if_neg c42] at H
            have c42b0 : (t268 == 0) = false := beq_eq_false_iff_ne.mpr c42
            have c42b1 : (t268 != 0) = true := bne_iff_ne.mpr c42
            by_cases c53 : t268 = 1
            ·rw [if_pos c53] at H
             have c53b0 : (t268 == 1) = true := beq_iff_eq.mpr c53
             have c53b1 : (t268 != 1) = false := bne_eq_false_iff_eq.mpr c53
             clear c53
             obtain ⟨y272, hy272⟩ : ∃ y_ : List Int, y_ = (([0, 8, 9, (-1)] : List Int)) := ⟨_, rfl⟩
             replace H : ((awardingbodymake_Tape_Pick.f s0_0 t269 y272).bind fun bt275 => (some (a1, bt275.1, ((⟨#[113]⟩ : ByteArray) ++ t246), x249003_1, x249004_2, bt275.2))) = some (r1, r2, r3, r4, r5, r6) := by first | (rw [hy272]; with_reducible exact H) | (have H2_ := (Option.bind_some _ _).symm.trans H; rw [hy272]; with_reducible exact H2_) | (have H2_ := (Option.bind_some _ _).symm.trans H; with_reducible exact H2_) | with_reducible exact H | (rw [hy272]; exact H) | exact H
             have Ny272 := za hy272
             clear hy272
             replace H := Option.bind_eq_some_iff.mp H
             obtain ⟨⟨t275, t276⟩, A540, H⟩ := H
             replace H : (some (a1, t275, ((⟨#[113]⟩ : ByteArray) ++ t246), x249003_1, x249004_2, t276)) = some (r1, r2, r3, r4, r5, r6) := H
             have A54 := za A540
             clear A540
             simp only [Option.some.injEq, Prod.mk.injEq] at H
             obtain ⟨rfl, rfl, rfl, rfl, rfl, rfl⟩ := H
             go_wp2_with (first | ((with_reducible refine gate_callee (f := 17) rfl ?_); refine zL (some 56) Try.func17 #[.pointer (some ⟨g, 0, none⟩), .int .i64 7] ?_; (with_reducible refine (awardingbodymake_Tape_Next.calls g s0_0 x1001_35 7 t268 t269 w0 _ ?side1 ?side2 A41.out).mono ?_); (case side1 => exact (by repeat (first | (with_reducible first | exact HI0.out | apply IsS54.alloc | apply IsS54.drewN | apply IsS54.drew | apply IsS54.set_1 | refine IsS54.far ?_ NB0_245.out _ | refine IsS54.far ?_ NB0_248.out _) | exact HI0.out))); (case side2 => exact (by repeat (first | (with_reducible first | exact HB.out | apply below_alloc | apply pw_below_drewN | apply below_drew1 | refine below_set ?_ (IsS54.ge HI0.out) | refine below_set ?_ GE245.out | refine below_set ?_ GE248.out) | exact HB.out))); rintro e w55 ⟨rfl, hi, hb, hk⟩; refine ⟨_, rfl, ?_⟩; replace HO_249003 := za (Kd.R_mono (Kd.R_keep (IsS54.apart (show IsS54 w0 _ g s0_0 x1001_35 from by repeat (first | (with_reducible first | exact HI0.out | apply IsS54.alloc | apply IsS54.drewN | apply IsS54.drew | apply IsS54.set_1 | refine IsS54.far ?_ NB0_245.out _ | refine IsS54.far ?_ NB0_248.out _) | exact HI0.out)) (by (with_reducible repeat (first | apply Kd.R_alloc | apply Kd.R_drewN | apply Kd.R_drew)); exact HO_249003.out) (by decide)) hk (fun _ h => h.2)) (fun _ h => h.1)); replace HO_249004 := za (Kd.R_mono (Kd.R_keep (IsS54.apart (show IsS54 w0 _ g s0_0 x1001_35 from by repeat (first | (with_reducible first | exact HI0.out | apply IsS54.alloc | apply IsS54.drewN | apply IsS54.drew | apply IsS54.set_1 | refine IsS54.far ?_ NB0_245.out _ | refine IsS54.far ?_ NB0_248.out _) | exact HI0.out)) (by (with_reducible repeat (first | apply Kd.R_alloc | apply Kd.R_drewN | apply Kd.R_drew)); exact HO_249004.out) (by decide)) hk (fun _ h => h.2)) (fun _ h => h.1)); replace BK245 := zk hk BK245 NB245_0; replace BK248 := zk hk BK248 NB248_0; replace HK := zt HK hk; replace HB := za (hb); replace HI0 := za (hi); (try clear hb); (try clear hb2); (try clear hk); (try clear hi)) | ((with_reducible refine gate_dst (N := 94) rfl ?_); refine Kd.R_lit (Kd.int .i64) _ 3 ?hg (N := 94) ?hd (xs := ([0, 8, 9, (-1)] : List Int)) (inner := [.int .i64 0, .int .i64 8, .int .i64 9, .int .i64 (-1)]) (ok := fun _ => True) (okp := fun _ => True) ?hr ?hp (fun _ hk => hk) trivial (Below.refl _ _) (Nat.le_refl _) (by simp) ?_; (case hd => rfl); (case hg => rfl); (case hr => first | (go_simp; done) | (go_simp; rfl)); (case hp => exact (Reps.one (show Kd.M (Kd.int .i64) _ _ _ 0 [.int .i64 0] from rfl) (Reps.one (show Kd.M (Kd.int .i64) _ _ _ 8 [.int .i64 8] from rfl) (Reps.one (show Kd.M (Kd.int .i64) _ _ _ 9 [.int .i64 9] from rfl) (Reps.one (show Kd.M (Kd.int .i64) _ _ _ (-1) [.int .i64 (-1)] from rfl) (Reps.none _ _)))))); intro v273 w56 ho57 hb hg_ hnew_; clear hg_ hnew_; (first | rw [← Ny272.out] at ho57 | (simp only [Int.reduceToNat] at ho57; rw [← Ny272.out] at ho57)); have HO274 := za (Kd.R_lower (Kd.R_new' ho57 (Kd.R_lt (by (with_reducible repeat (first | apply Kd.R_alloc | apply Kd.R_drewN | apply Kd.R_drew)); exact HO_249004.out))) (keep_size (w := w) (g := g) (row := none) (by repeat (first | (with_reducible first | exact HK.out | apply KeepBut.set_ | apply keep_drewN | apply keep_drew | apply keep_alloc | refine keep_far ?_ GW245.out _ | refine keep_far ?_ GW248.out _) | exact HK.out)))); replace HO_249003 := zR HO_249003 hb; replace HO_249004 := za (Kd.R_elder' (by (with_reducible repeat (first | apply Kd.R_alloc | apply Kd.R_drewN | apply Kd.R_drew)); exact HO_249004.out) (Kd.R_base ho57) hb); replace BK245 := zb BK245 hb; replace BK248 := zb BK248 hb; replace HI0 := za (IsS54.below (by repeat (first | (with_reducible first | exact HI0.out | apply IsS54.alloc | apply IsS54.drewN | apply IsS54.drew | apply IsS54.set_1 | refine IsS54.far ?_ NB0_245.out _ | refine IsS54.far ?_ NB0_248.out _) | exact HI0.out)) hb); replace HK := zu HK hb; replace HB := zs HB hb; clear hb ho57; obtain ⟨Ao58, co58, eo58⟩ := Kd.R_slice HO274.out; subst eo58) | ((with_reducible refine gate_callee (f := 40) rfl ?_); refine zL (some 95) Try.func40 #[.pointer (some ⟨g, 0, none⟩), .slice Ao58 y272.length co58] ?_; (with_reducible refine (awardingbodymake_Tape_Pick.calls g s0_0 t269 _ _ y272 t275 t276 w0 _ ?side1 ?side2 ?side3 ?side4 ?side5 A54.out).mono ?_); (case side1 => exact (by repeat (first | (with_reducible first | exact HI0.out | apply IsS54.alloc | apply IsS54.drewN | apply IsS54.drew | apply IsS54.set_1 | refine IsS54.far ?_ NB0_245.out _ | refine IsS54.far ?_ NB0_248.out _) | exact HI0.out))); (case side2 => exact (by repeat (first | (with_reducible first | exact HB.out | apply below_alloc | apply pw_below_drewN | apply below_drew1 | refine below_set ?_ (IsS54.ge HI0.out) | refine below_set ?_ GE245.out | refine below_set ?_ GE248.out) | exact HB.out))); (case side3 => exact zD HO274); (case side4 => exact (Kd.R_reads' HO274.out).2.1); (case side5 => exact far_slice (IsS54.own_ne HI0.out HO274.out (by decide))); rintro e w59 ⟨rfl, hi, hb, hk⟩; refine ⟨_, rfl, ?_⟩; replace HO_249003 := za (Kd.R_mono (Kd.R_keep (IsS54.apart (show IsS54 w0 _ g s0_0 t269 from by repeat (first | (with_reducible first | exact HI0.out | apply IsS54.alloc | apply IsS54.drewN | apply IsS54.drew | apply IsS54.set_1 | refine IsS54.far ?_ NB0_245.out _ | refine IsS54.far ?_ NB0_248.out _) | exact HI0.out)) (by (with_reducible repeat (first | apply Kd.R_alloc | apply Kd.R_drewN | apply Kd.R_drew)); exact HO_249003.out) (by decide)) hk (fun _ h => h.2)) (fun _ h => h.1)); replace HO_249004 := za (Kd.R_mono (Kd.R_keep (IsS54.apart (show IsS54 w0 _ g s0_0 t269 from by repeat (first | (with_reducible first | exact HI0.out | apply IsS54.alloc | apply IsS54.drewN | apply IsS54.drew | apply IsS54.set_1 | refine IsS54.far ?_ NB0_245.out _ | refine IsS54.far ?_ NB0_248.out _) | exact HI0.out)) (by (with_reducible repeat (first | apply Kd.R_alloc | apply Kd.R_drewN | apply Kd.R_drew)); exact HO_249004.out) (by decide)) hk (fun _ h => h.2)) (fun _ h => h.1)); replace BK245 := zk hk BK245 NB245_0; replace BK248 := zk hk BK248 NB248_0; replace HO274 := za (Kd.R_mono (Kd.R_keep (IsS54.apart (show IsS54 w0 _ g s0_0 t269 from by repeat (first | (with_reducible first | exact HI0.out | apply IsS54.alloc | apply IsS54.drewN | apply IsS54.drew | apply IsS54.set_1 | refine IsS54.far ?_ NB0_245.out _ | refine IsS54.far ?_ NB0_248.out _) | exact HI0.out)) (by (with_reducible repeat (first | apply Kd.R_alloc | apply Kd.R_drewN | apply Kd.R_drew)); exact HO274.out) (by decide)) hk (fun _ h => h.2)) (fun _ h => h.1)); replace HK := zt HK hk; replace HB := za (hb); replace HI0 := za (hi); (try clear hb); (try clear hb2); (try clear hk); (try clear hi); have hnb60 := NB248_245.out; have hnc60 := NB245_248.out; have hnb61 := NB248_0.out; have hnc61 := NB0_248.out; obtain ⟨hcz62_0, hcz62_1, hcz62_2, hcz62_3, hcz62_4, hfz62_0, hfz62_1, hfz62_2, hfz62_3, hfz62_4⟩ := z5 BK248; have hnb63 := NB245_0.out; have hnc63 := NB0_245.out; obtain ⟨hcz64_0, hcz64_1, hcz64_2, hcz64_3, hcz64_4, hfz64_0, hfz64_1, hfz64_2, hfz64_3, hfz64_4⟩ := z5 BK245; obtain ⟨Ao65, co65, eo65⟩ := Kd.R_slice HO_249003.out; subst eo65; obtain ⟨Ao66, co66, eo66⟩ := Kd.R_slice HO_249004.out; subst eo66))
             refine bodyPost_ret (results_cell_row rfl _ _ gb245 33 #[.int .i64 a1, .int .i64 t275, .string ((⟨#[113]⟩ : ByteArray) ++ t246), .slice Ao65 x249003_1.length co65, .slice Ao66 x249004_2.length co66] (0, 0) _ rfl (by (with_reducible repeat (first | refine blk_drewN ?_ _ | refine blk_drew ?_ | refine blk_alloc ?_ _)); refine blk_put (cs := #[.int .i64 a1, .int .i64 t275, .string ((⟨#[113]⟩ : ByteArray) ++ t246), .slice Ao65 x249003_1.length co65, .slice none 0 0]) ?_ 4 _ rfl; (with_reducible repeat (first | refine blk_drewN ?_ _ | refine blk_drew ?_ | refine blk_alloc ?_ _)); refine blk_put (cs := #[.int .i64 a1, .int .i64 t275, .string ((⟨#[113]⟩ : ByteArray) ++ t246), .slice none 0 0, .slice none 0 0]) ?_ 3 _ rfl; (with_reducible repeat (first | refine blk_drewN ?_ _ | refine blk_drew ?_ | refine blk_alloc ?_ _)); refine blk_put (cs := #[.int .i64 a1, .int .i64 t275, .string (⟨#[]⟩ : ByteArray), .slice none 0 0, .slice none 0 0]) ?_ 2 _ rfl; (with_reducible repeat (first | refine blk_drewN ?_ _ | refine blk_drew ?_ | refine blk_alloc ?_ _)); refine blk_put (cs := #[.int .i64 a1, .int .i64 0, .string (⟨#[]⟩ : ByteArray), .slice none 0 0, .slice none 0 0]) ?_ 1 _ rfl; (with_reducible repeat (first | refine blk_drewN ?_ _ | refine blk_drew ?_ | refine blk_alloc ?_ _)); refine blk_put (cs := #[.int .i64 0, .int .i64 0, .string (⟨#[]⟩ : ByteArray), .slice none 0 0, .slice none 0 0]) ?_ 0 _ rfl; (with_reducible repeat (first | refine blk_drewN ?_ _ | refine blk_drew ?_ | refine blk_alloc ?_ _)); refine blk_far ?_ NB245_248.out _; (with_reducible repeat (first | refine blk_drewN ?_ _ | refine blk_drew ?_ | refine blk_alloc ?_ _)); exact BK245.out) Try.underlying33 rfl (by kernel_rfl)) rfl ?_
             exact ⟨_, _, zf, by (with_reducible repeat (first | apply Kd.R_alloc | apply Kd.R_drewN | apply Kd.R_drew)); exact Kd.R_mono (Kd.R_far (p := ⟨gb245, 4, none⟩) (Kd.R_far (p := ⟨gb245, 3, none⟩) (Kd.R_far (p := ⟨gb245, 2, none⟩) (Kd.R_far (p := ⟨gb245, 1, none⟩) (Kd.R_far (p := ⟨gb245, 0, none⟩) (Kd.R_far (p := ⟨gb248, 1, none⟩) (Kd.R_types (Kd.R_types HO_249003.out BK248.out (by decide)) BK245.out (by decide)) (fun _ hk => hk.1.2) (.int .i64 t275)) (fun _ hk => hk.2) (.int .i64 a1)) (fun _ hk => hk.2) (.int .i64 t275)) (fun _ hk => hk.2) (.string ((⟨#[113]⟩ : ByteArray) ++ t246))) (fun _ hk => hk.2) (.slice Ao65 x249003_1.length co65)) (fun _ hk => hk.2) (.slice Ao66 x249004_2.length co66)) (fun _ hk => trivial), by (with_reducible repeat (first | apply Kd.R_alloc | apply Kd.R_drewN | apply Kd.R_drew)); exact Kd.R_mono (Kd.R_far (p := ⟨gb245, 4, none⟩) (Kd.R_far (p := ⟨gb245, 3, none⟩) (Kd.R_far (p := ⟨gb245, 2, none⟩) (Kd.R_far (p := ⟨gb245, 1, none⟩) (Kd.R_far (p := ⟨gb245, 0, none⟩) (Kd.R_far (p := ⟨gb248, 1, none⟩) (Kd.R_types (Kd.R_types HO_249004.out BK248.out (by decide)) BK245.out (by decide)) (fun _ hk => hk.1.2) (.int .i64 t275)) (fun _ hk => hk.2) (.int .i64 a1)) (fun _ hk => hk.2) (.int .i64 t275)) (fun _ hk => hk.2) (.string ((⟨#[113]⟩ : ByteArray) ++ t246))) (fun _ hk => hk.2) (.slice Ao65 x249003_1.length co65)) (fun _ hk => hk.2) (.slice Ao66 x249004_2.length co66)) (fun _ hk => trivial), by repeat (first | (with_reducible first | exact HI0.out | apply IsS54.alloc | apply IsS54.drewN | apply IsS54.drew | apply IsS54.set_1 | refine IsS54.far ?_ NB0_245.out _ | refine IsS54.far ?_ NB0_248.out _) | exact HI0.out), zm HB, by repeat (first | (with_reducible first | exact HK.out | apply KeepBut.set_ | apply keep_drewN | apply keep_drew | apply keep_alloc | refine keep_far ?_ GW245.out _ | refine keep_far ?_ GW248.out _) | exact HK.out)⟩
            ·rw [if_neg c53] at H
             have c53b0 : (t268 == 1) = false := beq_eq_false_iff_ne.mpr c53
             have c53b1 : (t268 != 1) = true := bne_iff_ne.mpr c53
             by_cases c67 : t268 = 2
             ·rw [if_pos c67] at H
              have c67b0 : (t268 == 2) = true := beq_iff_eq.mpr c67
              have c67b1 : (t268 != 2) = false := bne_eq_false_iff_eq.mpr c67
              clear c67
              obtain ⟨y277, hy277⟩ : ∃ y_ : List ByteArray, y_ = (([(⟨#[]⟩ : ByteArray), (⟨#[116, 97, 98, 9]⟩ : ByteArray), (⟨#[48, 49, 50, 51, 52, 53, 54, 55, 56, 57, 48, 49, 50, 51, 52, 53, 54, 55, 56, 57, 48, 49, 50, 51, 52, 53, 54, 55, 56, 57, 48, 49, 50, 51, 52, 53, 54, 55, 56, 57, 120]⟩ : ByteArray)] : List ByteArray)) := ⟨_, rfl⟩
              replace H : ((awardingbodymake_Tape_Next.f s0_0 t269 3).bind fun bt280 => (if 0 ≤ bt280.1 then (if bt280.1 < (y277.length : Int) then (some (a1, a2, rdOf ByteArray.empty y277 bt280.1, x249003_1, x249004_2, bt280.2)) else (none)) else (none))) = some (r1, r2, r3, r4, r5, r6) := by first | (rw [hy277]; with_reducible exact H) | (have H2_ := (Option.bind_some _ _).symm.trans H; rw [hy277]; with_reducible exact H2_) | (have H2_ := (Option.bind_some _ _).symm.trans H; with_reducible exact H2_) | with_reducible exact H | (rw [hy277]; exact H) | exact H
              have Ny277 := za hy277
              clear hy277
              replace H := Option.bind_eq_some_iff.mp H
              obtain ⟨⟨t280, t281⟩, A680, H⟩ := H
              replace H : (if 0 ≤ t280 then (if t280 < (y277.length : Int) then (some (a1, a2, rdOf ByteArray.empty y277 t280, x249003_1, x249004_2, t281)) else (none)) else (none)) = some (r1, r2, r3, r4, r5, r6) := H
              have A68 := za A680
              clear A680
              by_cases c69 : 0 ≤ t280
              ·rw [if_pos c69] at H
               have c69b0 : decide (0 ≤ t280) = true := decide_eq_true c69
               clear c69
               by_cases c70 : t280 < (y277.length : Int)
               ·rw [if_pos c70] at H
                have c70b0 : decide (t280 < (y277.length : Int)) = true := decide_eq_true c70
                clear c70
                simp only [Option.some.injEq, Prod.mk.injEq] at H
                obtain ⟨rfl, rfl, rfl, rfl, rfl, rfl⟩ := H
                go_wp2_with (first | ((with_reducible refine gate_callee (f := 17) rfl ?_); refine zL (some 56) Try.func17 #[.pointer (some ⟨g, 0, none⟩), .int .i64 7] ?_; (with_reducible refine (awardingbodymake_Tape_Next.calls g s0_0 x1001_35 7 t268 t269 w0 _ ?side1 ?side2 A41.out).mono ?_); (case side1 => exact (by repeat (first | (with_reducible first | exact HI0.out | apply IsS54.alloc | apply IsS54.drewN | apply IsS54.drew | apply IsS54.set_1 | refine IsS54.far ?_ NB0_245.out _ | refine IsS54.far ?_ NB0_248.out _) | exact HI0.out))); (case side2 => exact (by repeat (first | (with_reducible first | exact HB.out | apply below_alloc | apply pw_below_drewN | apply below_drew1 | refine below_set ?_ (IsS54.ge HI0.out) | refine below_set ?_ GE245.out | refine below_set ?_ GE248.out) | exact HB.out))); rintro e w71 ⟨rfl, hi, hb, hk⟩; refine ⟨_, rfl, ?_⟩; replace HO_249003 := za (Kd.R_mono (Kd.R_keep (IsS54.apart (show IsS54 w0 _ g s0_0 x1001_35 from by repeat (first | (with_reducible first | exact HI0.out | apply IsS54.alloc | apply IsS54.drewN | apply IsS54.drew | apply IsS54.set_1 | refine IsS54.far ?_ NB0_245.out _ | refine IsS54.far ?_ NB0_248.out _) | exact HI0.out)) (by (with_reducible repeat (first | apply Kd.R_alloc | apply Kd.R_drewN | apply Kd.R_drew)); exact HO_249003.out) (by decide)) hk (fun _ h => h.2)) (fun _ h => h.1)); replace HO_249004 := za (Kd.R_mono (Kd.R_keep (IsS54.apart (show IsS54 w0 _ g s0_0 x1001_35 from by repeat (first | (with_reducible first | exact HI0.out | apply IsS54.alloc | apply IsS54.drewN | apply IsS54.drew | apply IsS54.set_1 | refine IsS54.far ?_ NB0_245.out _ | refine IsS54.far ?_ NB0_248.out _) | exact HI0.out)) (by (with_reducible repeat (first | apply Kd.R_alloc | apply Kd.R_drewN | apply Kd.R_drew)); exact HO_249004.out) (by decide)) hk (fun _ h => h.2)) (fun _ h => h.1)); replace BK245 := zk hk BK245 NB245_0; replace BK248 := zk hk BK248 NB248_0; replace HK := zt HK hk; replace HB := za (hb); replace HI0 := za (hi); (try clear hb); (try clear hb2); (try clear hk); (try clear hi)) | ((with_reducible refine gate_dst (N := 99) rfl ?_); refine Kd.R_lit Kd.string _ 9 ?hg (N := 99) ?hd (xs := ([(⟨#[]⟩ : ByteArray), (⟨#[116, 97, 98, 9]⟩ : ByteArray), (⟨#[48, 49, 50, 51, 52, 53, 54, 55, 56, 57, 48, 49, 50, 51, 52, 53, 54, 55, 56, 57, 48, 49, 50, 51, 52, 53, 54, 55, 56, 57, 48, 49, 50, 51, 52, 53, 54, 55, 56, 57, 120]⟩ : ByteArray)] : List ByteArray)) (inner := [.string (⟨#[]⟩ : ByteArray), .string (⟨#[116, 97, 98, 9]⟩ : ByteArray), .string (⟨#[48, 49, 50, 51, 52, 53, 54, 55, 56, 57, 48, 49, 50, 51, 52, 53, 54, 55, 56, 57, 48, 49, 50, 51, 52, 53, 54, 55, 56, 57, 48, 49, 50, 51, 52, 53, 54, 55, 56, 57, 120]⟩ : ByteArray)]) (ok := fun _ => True) (okp := fun _ => True) ?hr ?hp (fun _ hk => hk) trivial (Below.refl _ _) (Nat.le_refl _) (by simp) ?_; (case hd => rfl); (case hg => rfl); (case hr => first | (go_simp; done) | (go_simp; rfl)); (case hp => exact (Reps.one (show Kd.M Kd.string _ _ _ (⟨#[]⟩ : ByteArray) [.string (⟨#[]⟩ : ByteArray)] from rfl) (Reps.one (show Kd.M Kd.string _ _ _ (⟨#[116, 97, 98, 9]⟩ : ByteArray) [.string (⟨#[116, 97, 98, 9]⟩ : ByteArray)] from rfl) (Reps.one (show Kd.M Kd.string _ _ _ (⟨#[48, 49, 50, 51, 52, 53, 54, 55, 56, 57, 48, 49, 50, 51, 52, 53, 54, 55, 56, 57, 48, 49, 50, 51, 52, 53, 54, 55, 56, 57, 48, 49, 50, 51, 52, 53, 54, 55, 56, 57, 120]⟩ : ByteArray) [.string (⟨#[48, 49, 50, 51, 52, 53, 54, 55, 56, 57, 48, 49, 50, 51, 52, 53, 54, 55, 56, 57, 48, 49, 50, 51, 52, 53, 54, 55, 56, 57, 48, 49, 50, 51, 52, 53, 54, 55, 56, 57, 120]⟩ : ByteArray)] from rfl) (Reps.none _ _))))); intro v278 w72 ho73 hb hg_ hnew_; clear hg_ hnew_; (first | rw [← Ny277.out] at ho73 | (simp only [Int.reduceToNat] at ho73; rw [← Ny277.out] at ho73)); have HO279 := za (Kd.R_lower ho73 (keep_size (w := w) (g := g) (row := none) (by repeat (first | (with_reducible first | exact HK.out | apply KeepBut.set_ | apply keep_drewN | apply keep_drew | apply keep_alloc | refine keep_far ?_ GW245.out _ | refine keep_far ?_ GW248.out _) | exact HK.out)))); replace HO_249003 := zR HO_249003 hb; replace HO_249004 := zR HO_249004 hb; replace BK245 := zb BK245 hb; replace BK248 := zb BK248 hb; replace HI0 := za (IsS54.below (by repeat (first | (with_reducible first | exact HI0.out | apply IsS54.alloc | apply IsS54.drewN | apply IsS54.drew | apply IsS54.set_1 | refine IsS54.far ?_ NB0_245.out _ | refine IsS54.far ?_ NB0_248.out _) | exact HI0.out)) hb); replace HK := zu HK hb; replace HB := zs HB hb; clear hb ho73) | ((with_reducible refine gate_callee (f := 17) rfl ?_); refine zL (some 101) Try.func17 #[.pointer (some ⟨g, 0, none⟩), .int .i64 3] ?_; (with_reducible refine (awardingbodymake_Tape_Next.calls g s0_0 t269 3 t280 t281 w0 _ ?side1 ?side2 A68.out).mono ?_); (case side1 => exact (by repeat (first | (with_reducible first | exact HI0.out | apply IsS54.alloc | apply IsS54.drewN | apply IsS54.drew | apply IsS54.set_1 | refine IsS54.far ?_ NB0_245.out _ | refine IsS54.far ?_ NB0_248.out _) | exact HI0.out))); (case side2 => exact (by repeat (first | (with_reducible first | exact HB.out | apply below_alloc | apply pw_below_drewN | apply below_drew1 | refine below_set ?_ (IsS54.ge HI0.out) | refine below_set ?_ GE245.out | refine below_set ?_ GE248.out) | exact HB.out))); rintro e w74 ⟨rfl, hi, hb, hk⟩; refine ⟨_, rfl, ?_⟩; replace HO_249003 := za (Kd.R_mono (Kd.R_keep (IsS54.apart (show IsS54 w0 _ g s0_0 t269 from by repeat (first | (with_reducible first | exact HI0.out | apply IsS54.alloc | apply IsS54.drewN | apply IsS54.drew | apply IsS54.set_1 | refine IsS54.far ?_ NB0_245.out _ | refine IsS54.far ?_ NB0_248.out _) | exact HI0.out)) (by (with_reducible repeat (first | apply Kd.R_alloc | apply Kd.R_drewN | apply Kd.R_drew)); exact HO_249003.out) (by decide)) hk (fun _ h => h.2)) (fun _ h => h.1)); replace HO_249004 := za (Kd.R_mono (Kd.R_keep (IsS54.apart (show IsS54 w0 _ g s0_0 t269 from by repeat (first | (with_reducible first | exact HI0.out | apply IsS54.alloc | apply IsS54.drewN | apply IsS54.drew | apply IsS54.set_1 | refine IsS54.far ?_ NB0_245.out _ | refine IsS54.far ?_ NB0_248.out _) | exact HI0.out)) (by (with_reducible repeat (first | apply Kd.R_alloc | apply Kd.R_drewN | apply Kd.R_drew)); exact HO_249004.out) (by decide)) hk (fun _ h => h.2)) (fun _ h => h.1)); replace BK245 := zk hk BK245 NB245_0; replace BK248 := zk hk BK248 NB248_0; replace HO279 := za (Kd.R_mono (Kd.R_keep (IsS54.apart (show IsS54 w0 _ g s0_0 t269 from by repeat (first | (with_reducible first | exact HI0.out | apply IsS54.alloc | apply IsS54.drewN | apply IsS54.drew | apply IsS54.set_1 | refine IsS54.far ?_ NB0_245.out _ | refine IsS54.far ?_ NB0_248.out _) | exact HI0.out)) (by (with_reducible repeat (first | apply Kd.R_alloc | apply Kd.R_drewN | apply Kd.R_drew)); exact HO279.out) (by decide)) hk (fun _ h => h.2)) (fun _ h => h.1)); replace HK := zt HK hk; replace HB := za (hb); replace HI0 := za (hi); (try clear hb); (try clear hb2); (try clear hk); (try clear hi); obtain ⟨Ao75, co75, eo75⟩ := Kd.R_slice HO279.out; subst eo75; have p282 : 0 ≤ (t280 : Int) := of_decide_eq_true (by first | (with_reducible assumption) | assumption); have q282 : t280 < (y277.length : Int) := of_decide_eq_true (by first | (with_reducible assumption) | assumption); obtain ⟨ad282, e282, hx282_0⟩ := Kd.at_string (Kd.R_reads' HO279.out).2.2 t280 p282 q282; cases e282; replace p282 := eq_true p282; replace q282 := eq_true q282; have hnb76 := NB248_245.out; have hnc76 := NB245_248.out; have hnb77 := NB248_0.out; have hnc77 := NB0_248.out; obtain ⟨hcz78_0, hcz78_1, hcz78_2, hcz78_3, hcz78_4, hfz78_0, hfz78_1, hfz78_2, hfz78_3, hfz78_4⟩ := z5 BK248; have hnb79 := NB245_0.out; have hnc79 := NB0_245.out; obtain ⟨hcz80_0, hcz80_1, hcz80_2, hcz80_3, hcz80_4, hfz80_0, hfz80_1, hfz80_2, hfz80_3, hfz80_4⟩ := z5 BK245; obtain ⟨Ao81, co81, eo81⟩ := Kd.R_slice HO_249003.out; subst eo81; obtain ⟨Ao82, co82, eo82⟩ := Kd.R_slice HO_249004.out; subst eo82))
                refine bodyPost_ret (results_cell_row rfl _ _ gb245 33 #[.int .i64 a1, .int .i64 a2, .string (rdOf ByteArray.empty y277 t280), .slice Ao81 x249003_1.length co81, .slice Ao82 x249004_2.length co82] (0, 0) _ rfl (by (with_reducible repeat (first | refine blk_drewN ?_ _ | refine blk_drew ?_ | refine blk_alloc ?_ _)); refine blk_put (cs := #[.int .i64 a1, .int .i64 a2, .string (rdOf ByteArray.empty y277 t280), .slice Ao81 x249003_1.length co81, .slice none 0 0]) ?_ 4 _ rfl; (with_reducible repeat (first | refine blk_drewN ?_ _ | refine blk_drew ?_ | refine blk_alloc ?_ _)); refine blk_put (cs := #[.int .i64 a1, .int .i64 a2, .string (rdOf ByteArray.empty y277 t280), .slice none 0 0, .slice none 0 0]) ?_ 3 _ rfl; (with_reducible repeat (first | refine blk_drewN ?_ _ | refine blk_drew ?_ | refine blk_alloc ?_ _)); refine blk_put (cs := #[.int .i64 a1, .int .i64 a2, .string (⟨#[]⟩ : ByteArray), .slice none 0 0, .slice none 0 0]) ?_ 2 _ rfl; (with_reducible repeat (first | refine blk_drewN ?_ _ | refine blk_drew ?_ | refine blk_alloc ?_ _)); refine blk_put (cs := #[.int .i64 a1, .int .i64 0, .string (⟨#[]⟩ : ByteArray), .slice none 0 0, .slice none 0 0]) ?_ 1 _ rfl; (with_reducible repeat (first | refine blk_drewN ?_ _ | refine blk_drew ?_ | refine blk_alloc ?_ _)); refine blk_put (cs := #[.int .i64 0, .int .i64 0, .string (⟨#[]⟩ : ByteArray), .slice none 0 0, .slice none 0 0]) ?_ 0 _ rfl; (with_reducible repeat (first | refine blk_drewN ?_ _ | refine blk_drew ?_ | refine blk_alloc ?_ _)); refine blk_far ?_ NB245_248.out _; (with_reducible repeat (first | refine blk_drewN ?_ _ | refine blk_drew ?_ | refine blk_alloc ?_ _)); exact BK245.out) Try.underlying33 rfl (by kernel_rfl)) rfl ?_
                exact ⟨_, _, zf, by (with_reducible repeat (first | apply Kd.R_alloc | apply Kd.R_drewN | apply Kd.R_drew)); exact Kd.R_mono (Kd.R_far (p := ⟨gb245, 4, none⟩) (Kd.R_far (p := ⟨gb245, 3, none⟩) (Kd.R_far (p := ⟨gb245, 2, none⟩) (Kd.R_far (p := ⟨gb245, 1, none⟩) (Kd.R_far (p := ⟨gb245, 0, none⟩) (Kd.R_far (p := ⟨gb248, 2, none⟩) (Kd.R_types (Kd.R_types HO_249003.out BK248.out (by decide)) BK245.out (by decide)) (fun _ hk => hk.1.2) (.string (rdOf ByteArray.empty y277 t280))) (fun _ hk => hk.2) (.int .i64 a1)) (fun _ hk => hk.2) (.int .i64 a2)) (fun _ hk => hk.2) (.string (rdOf ByteArray.empty y277 t280))) (fun _ hk => hk.2) (.slice Ao81 x249003_1.length co81)) (fun _ hk => hk.2) (.slice Ao82 x249004_2.length co82)) (fun _ hk => trivial), by (with_reducible repeat (first | apply Kd.R_alloc | apply Kd.R_drewN | apply Kd.R_drew)); exact Kd.R_mono (Kd.R_far (p := ⟨gb245, 4, none⟩) (Kd.R_far (p := ⟨gb245, 3, none⟩) (Kd.R_far (p := ⟨gb245, 2, none⟩) (Kd.R_far (p := ⟨gb245, 1, none⟩) (Kd.R_far (p := ⟨gb245, 0, none⟩) (Kd.R_far (p := ⟨gb248, 2, none⟩) (Kd.R_types (Kd.R_types HO_249004.out BK248.out (by decide)) BK245.out (by decide)) (fun _ hk => hk.1.2) (.string (rdOf ByteArray.empty y277 t280))) (fun _ hk => hk.2) (.int .i64 a1)) (fun _ hk => hk.2) (.int .i64 a2)) (fun _ hk => hk.2) (.string (rdOf ByteArray.empty y277 t280))) (fun _ hk => hk.2) (.slice Ao81 x249003_1.length co81)) (fun _ hk => hk.2) (.slice Ao82 x249004_2.length co82)) (fun _ hk => trivial), by repeat (first | (with_reducible first | exact HI0.out | apply IsS54.alloc | apply IsS54.drewN | apply IsS54.drew | apply IsS54.set_1 | refine IsS54.far ?_ NB0_245.out _ | refine IsS54.far ?_ NB0_248.out _) | exact HI0.out), zm HB, by repeat (first | (with_reducible first | exact HK.out | apply KeepBut.set_ | apply keep_drewN | apply keep_drew | apply keep_alloc | refine keep_far ?_ GW245.out _ | refine keep_far ?_ GW248.out _) | exact HK.out)⟩
               ·rw [if_neg c70] at H
                exact absurd H (by simp)
              ·rw [if_neg c69] at H
               exact absurd H (by simp)
             ·rw [if_neg c67] at H
              have c67b0 : (t268 == 2) = false := beq_eq_false_iff_ne.mpr c67
              have c67b1 : (t268 != 2) = true := bne_iff_ne.mpr c67
              by_cases c83 : t268 = 3
              ·rw [if_pos c83] at H
               have c83b0 : (t268 == 3) = true := beq_iff_eq.mpr c83
               have c83b1 : (t268 != 3) = false := bne_eq_false_iff_eq.mpr c83
               clear c83
               simp only [Option.some.injEq, Prod.mk.injEq] at H
               obtain ⟨rfl, rfl, rfl, rfl, rfl, rfl⟩ := H
               go_wp2_with (first | ((with_reducible refine gate_callee (f := 17) rfl ?_); refine zL (some 56) Try.func17 #[.pointer (some ⟨g, 0, none⟩), .int .i64 7] ?_; (with_reducible refine (awardingbodymake_Tape_Next.calls g s0_0 x1001_35 7 t268 t269 w0 _ ?side1 ?side2 A41.out).mono ?_); (case side1 => exact (by repeat (first | (with_reducible first | exact HI0.out | apply IsS54.alloc | apply IsS54.drewN | apply IsS54.drew | apply IsS54.set_1 | refine IsS54.far ?_ NB0_245.out _ | refine IsS54.far ?_ NB0_248.out _) | exact HI0.out))); (case side2 => exact (by repeat (first | (with_reducible first | exact HB.out | apply below_alloc | apply pw_below_drewN | apply below_drew1 | refine below_set ?_ (IsS54.ge HI0.out) | refine below_set ?_ GE245.out | refine below_set ?_ GE248.out) | exact HB.out))); rintro e w84 ⟨rfl, hi, hb, hk⟩; refine ⟨_, rfl, ?_⟩; replace HO_249003 := za (Kd.R_mono (Kd.R_keep (IsS54.apart (show IsS54 w0 _ g s0_0 x1001_35 from by repeat (first | (with_reducible first | exact HI0.out | apply IsS54.alloc | apply IsS54.drewN | apply IsS54.drew | apply IsS54.set_1 | refine IsS54.far ?_ NB0_245.out _ | refine IsS54.far ?_ NB0_248.out _) | exact HI0.out)) (by (with_reducible repeat (first | apply Kd.R_alloc | apply Kd.R_drewN | apply Kd.R_drew)); exact HO_249003.out) (by decide)) hk (fun _ h => h.2)) (fun _ h => h.1)); replace HO_249004 := za (Kd.R_mono (Kd.R_keep (IsS54.apart (show IsS54 w0 _ g s0_0 x1001_35 from by repeat (first | (with_reducible first | exact HI0.out | apply IsS54.alloc | apply IsS54.drewN | apply IsS54.drew | apply IsS54.set_1 | refine IsS54.far ?_ NB0_245.out _ | refine IsS54.far ?_ NB0_248.out _) | exact HI0.out)) (by (with_reducible repeat (first | apply Kd.R_alloc | apply Kd.R_drewN | apply Kd.R_drew)); exact HO_249004.out) (by decide)) hk (fun _ h => h.2)) (fun _ h => h.1)); replace BK245 := zk hk BK245 NB245_0; replace BK248 := zk hk BK248 NB248_0; replace HK := zt HK hk; replace HB := za (hb); replace HI0 := za (hi); (try clear hb); (try clear hb2); (try clear hk); (try clear hi); have hnb85 := NB248_245.out; have hnc85 := NB245_248.out; have hnb86 := NB248_0.out; have hnc86 := NB0_248.out; obtain ⟨hcz87_0, hcz87_1, hcz87_2, hcz87_3, hcz87_4, hfz87_0, hfz87_1, hfz87_2, hfz87_3, hfz87_4⟩ := z5 BK248; have hnb88 := NB245_0.out; have hnc88 := NB0_245.out; obtain ⟨hcz89_0, hcz89_1, hcz89_2, hcz89_3, hcz89_4, hfz89_0, hfz89_1, hfz89_2, hfz89_3, hfz89_4⟩ := z5 BK245; obtain ⟨Ao90, co90, eo90⟩ := Kd.R_slice HO_249004.out; subst eo90))
               refine bodyPost_ret (results_cell_row rfl _ _ gb245 33 #[.int .i64 a1, .int .i64 a2, .string ((⟨#[113]⟩ : ByteArray) ++ t246), .slice none 0 0, .slice Ao90 x249004_2.length co90] (0, 0) _ rfl (by (with_reducible repeat (first | refine blk_drewN ?_ _ | refine blk_drew ?_ | refine blk_alloc ?_ _)); refine blk_put (cs := #[.int .i64 a1, .int .i64 a2, .string ((⟨#[113]⟩ : ByteArray) ++ t246), .slice none 0 0, .slice none 0 0]) ?_ 4 _ rfl; (with_reducible repeat (first | refine blk_drewN ?_ _ | refine blk_drew ?_ | refine blk_alloc ?_ _)); refine blk_put (cs := #[.int .i64 a1, .int .i64 a2, .string ((⟨#[113]⟩ : ByteArray) ++ t246), .slice none 0 0, .slice none 0 0]) ?_ 3 _ rfl; (with_reducible repeat (first | refine blk_drewN ?_ _ | refine blk_drew ?_ | refine blk_alloc ?_ _)); refine blk_put (cs := #[.int .i64 a1, .int .i64 a2, .string (⟨#[]⟩ : ByteArray), .slice none 0 0, .slice none 0 0]) ?_ 2 _ rfl; (with_reducible repeat (first | refine blk_drewN ?_ _ | refine blk_drew ?_ | refine blk_alloc ?_ _)); refine blk_put (cs := #[.int .i64 a1, .int .i64 0, .string (⟨#[]⟩ : ByteArray), .slice none 0 0, .slice none 0 0]) ?_ 1 _ rfl; (with_reducible repeat (first | refine blk_drewN ?_ _ | refine blk_drew ?_ | refine blk_alloc ?_ _)); refine blk_put (cs := #[.int .i64 0, .int .i64 0, .string (⟨#[]⟩ : ByteArray), .slice none 0 0, .slice none 0 0]) ?_ 0 _ rfl; (with_reducible repeat (first | refine blk_drewN ?_ _ | refine blk_drew ?_ | refine blk_alloc ?_ _)); refine blk_far ?_ NB245_248.out _; (with_reducible repeat (first | refine blk_drewN ?_ _ | refine blk_drew ?_ | refine blk_alloc ?_ _)); exact BK245.out) Try.underlying33 rfl (by kernel_rfl)) rfl ?_
               exact ⟨_, _, zf, by first | exact Kd.R_nil _ _ _ _ _ | exact Kd.N_nil _ _ _ _ _ | exact Kd.V_nil _ _ _ _ _ | exact Kd.Q_nil _ _ _ _ _ | exact Kd.S_nil _ _ _ _ _, by (with_reducible repeat (first | apply Kd.R_alloc | apply Kd.R_drewN | apply Kd.R_drew)); exact Kd.R_mono (Kd.R_far (p := ⟨gb245, 4, none⟩) (Kd.R_far (p := ⟨gb245, 3, none⟩) (Kd.R_far (p := ⟨gb245, 2, none⟩) (Kd.R_far (p := ⟨gb245, 1, none⟩) (Kd.R_far (p := ⟨gb245, 0, none⟩) (Kd.R_far (p := ⟨gb248, 3, none⟩) (Kd.R_types (Kd.R_types HO_249004.out BK248.out (by decide)) BK245.out (by decide)) (fun _ hk => hk.1.2) (.slice none 0 0)) (fun _ hk => hk.2) (.int .i64 a1)) (fun _ hk => hk.2) (.int .i64 a2)) (fun _ hk => hk.2) (.string ((⟨#[113]⟩ : ByteArray) ++ t246))) (fun _ hk => hk.2) (.slice none 0 0)) (fun _ hk => hk.2) (.slice Ao90 x249004_2.length co90)) (fun _ hk => trivial), by repeat (first | (with_reducible first | exact HI0.out | apply IsS54.alloc | apply IsS54.drewN | apply IsS54.drew | apply IsS54.set_1 | refine IsS54.far ?_ NB0_245.out _ | refine IsS54.far ?_ NB0_248.out _) | exact HI0.out), zm HB, by repeat (first | (with_reducible first | exact HK.out | apply KeepBut.set_ | apply keep_drewN | apply keep_drew | apply keep_alloc | refine keep_far ?_ GW245.out _ | refine keep_far ?_ GW248.out _) | exact HK.out)⟩
              ·rw [if_neg c83] at H
               have c83b0 : (t268 == 3) = false := beq_eq_false_iff_ne.mpr c83
               have c83b1 : (t268 != 3) = true := bne_iff_ne.mpr c83
               by_cases c91 : t268 = 4
               ·rw [if_pos c91] at H
                have c91b0 : (t268 == 4) = true := beq_iff_eq.mpr c91
                have c91b1 : (t268 != 4) = false := bne_eq_false_iff_eq.mpr c91
                clear c91
                replace H := Option.bind_eq_some_iff.mp H
                obtain ⟨⟨t283, t284, t285, t286, t287, t288, t289⟩, A920, H⟩ := H
                replace H : (if x249003_1.length < 2932031007402 then (some (a1, a2, ((⟨#[113]⟩ : ByteArray) ++ t246), (x249003_1 ++ [(⟨t283, t284, t285, t286, t287, t288⟩ : S23)]), x249004_2, t289)) else (none)) = some (r1, r2, r3, r4, r5, r6) := H
                have A92 := za A920
                clear A920
                by_cases c93 : x249003_1.length < 2932031007402
                ·rw [if_pos c93] at H
                 have LMc93 := za c93
                 clear c93
                 obtain ⟨y290, hy290⟩ : ∃ y_ : List (S23), y_ = (x249003_1 ++ [(⟨t283, t284, t285, t286, t287, t288⟩ : S23)]) := ⟨_, rfl⟩
                 replace H : (some (a1, a2, ((⟨#[113]⟩ : ByteArray) ++ t246), y290, x249004_2, t289)) = some (r1, r2, r3, r4, r5, r6) := by first | (rw [hy290]; with_reducible exact H) | (have H2_ := (Option.bind_some _ _).symm.trans H; rw [hy290]; with_reducible exact H2_) | (have H2_ := (Option.bind_some _ _).symm.trans H; with_reducible exact H2_) | with_reducible exact H | (rw [hy290]; exact H) | exact H
                 have Ny290 := za hy290
                 clear hy290
                 simp only [Option.some.injEq, Prod.mk.injEq] at H
                 obtain ⟨rfl, rfl, rfl, rfl, rfl, rfl⟩ := H
                 try go_wp2_with (first | ((with_reducible refine gate_callee (f := 17) rfl ?_); refine zL (some 56) Try.func17 #[.pointer (some ⟨g, 0, none⟩), .int .i64 7] ?_; (with_reducible refine (awardingbodymake_Tape_Next.calls g s0_0 x1001_35 7 t268 t269 w0 _ ?side1 ?side2 A41.out).mono ?_); (case side1 => exact (by repeat (first | (with_reducible first | exact HI0.out | apply IsS54.alloc | apply IsS54.drewN | apply IsS54.drew | apply IsS54.set_1 | refine IsS54.far ?_ NB0_245.out _ | refine IsS54.far ?_ NB0_248.out _) | exact HI0.out))); (case side2 => exact (by repeat (first | (with_reducible first | exact HB.out | apply below_alloc | apply pw_below_drewN | apply below_drew1 | refine below_set ?_ (IsS54.ge HI0.out) | refine below_set ?_ GE245.out | refine below_set ?_ GE248.out) | exact HB.out))); rintro e w94 ⟨rfl, hi, hb, hk⟩; refine ⟨_, rfl, ?_⟩; replace HO_249003 := za (Kd.R_mono (Kd.R_keep (IsS54.apart (show IsS54 w0 _ g s0_0 x1001_35 from by repeat (first | (with_reducible first | exact HI0.out | apply IsS54.alloc | apply IsS54.drewN | apply IsS54.drew | apply IsS54.set_1 | refine IsS54.far ?_ NB0_245.out _ | refine IsS54.far ?_ NB0_248.out _) | exact HI0.out)) (by (with_reducible repeat (first | apply Kd.R_alloc | apply Kd.R_drewN | apply Kd.R_drew)); exact HO_249003.out) (by decide)) hk (fun _ h => h.2)) (fun _ h => h.1)); replace HO_249004 := za (Kd.R_mono (Kd.R_keep (IsS54.apart (show IsS54 w0 _ g s0_0 x1001_35 from by repeat (first | (with_reducible first | exact HI0.out | apply IsS54.alloc | apply IsS54.drewN | apply IsS54.drew | apply IsS54.set_1 | refine IsS54.far ?_ NB0_245.out _ | refine IsS54.far ?_ NB0_248.out _) | exact HI0.out)) (by (with_reducible repeat (first | apply Kd.R_alloc | apply Kd.R_drewN | apply Kd.R_drew)); exact HO_249004.out) (by decide)) hk (fun _ h => h.2)) (fun _ h => h.1)); replace BK245 := zk hk BK245 NB245_0; replace BK248 := zk hk BK248 NB248_0; replace HK := zt HK hk; replace HB := za (hb); replace HI0 := za (hi); (try clear hb); (try clear hb2); (try clear hk); (try clear hi)))
                 replace HO_249003 := za (Kd.R_drew HO_249003.out)
                 replace HO_249004 := za (Kd.R_drew HO_249004.out)
                 replace BK245 := za (blk_drew BK245.out)
                 replace BK248 := za (blk_drew BK248.out)
                 replace HI0 := za (IsS54.drew HI0.out)
                 replace HK := za (keep_drew HK.out)
                 replace HB := za (below_drew1 HB.out)
                 refine start_ (n := 8) (S := fun w' => w'.cell? ⟨gb248, 0, none⟩ = some (.int .i64 a1) ∧ w'.cell? ⟨gb248, 1, none⟩ = some (.int .i64 a2) ∧ w'.cell? ⟨gb248, 2, none⟩ = some (.string ((⟨#[113]⟩ : ByteArray) ++ t246)) ∧ w'.cell? ⟨gb248, 3, none⟩ = some (u249003) ∧ w'.cell? ⟨gb248, 4, none⟩ = some (u249004)) (ds := [7]) #[false, false, false, false, false, false, false, false] (by kernel_rfl) rfl rfl ⟨(blk_cell BK248.out 0).trans rfl, (blk_cell BK248.out 1).trans rfl, (blk_cell BK248.out 2).trans rfl, (blk_cell BK248.out 3).trans rfl, (blk_cell BK248.out 4).trans rfl⟩ (fun hHeld => ?_); refine with_tabW awardingbodymake_Tape_Item.tab23 awardingbodymake_Tape_Item.bits23 (fun HT_ HW_ => ?_)
                 generalize w94.drew = w95 at HO_249003 HO_249004 BK245 BK248 HI0 HK HB hHeld ⊢
                 refine pure_ (i := 0) (N := some 110) (v := ?_) (a' := ?_) #[true, false, false, false, false, false, false, false] rfl rfl (any_of HT_.out (by kernel_rfl)) (fun _ _ _ h => h) (Or.inl ⟨by rfl, ?_⟩) ?_ ?_
                 rotate_left
                 ·intro w'
                  go_simp
                  with_reducible rfl
                 rotate_left
                 ·simp only [Act.put, List.setIfInBounds_toArray, List.set_cons_zero, List.set_cons_succ, i64_w, i32_w]
                  rfl
                 refine pure_ (i := 2) (N := some 112) (v := ?_) (a' := ?_) #[true, false, true, false, false, false, false, false] rfl rfl (any_of HT_.out (by kernel_rfl)) (fun _ _ _ h => h) (Or.inl ⟨by rfl, ?_⟩) ?_ ?_
                 rotate_left
                 ·intro w'
                  go_simp
                  with_reducible rfl
                 rotate_left
                 ·simp only [Act.put, List.setIfInBounds_toArray, List.set_cons_zero, List.set_cons_succ, i64_w, i32_w]
                  rfl
                 refine take_ (i := 1) (N := some 111) (v := ?_) (a' := ?_) #[true, true, true, false, false, false, false, false] rfl rfl (take_ofW HT_.out HW_.out (by kernel_rfl)) (fun _ _ _ h => h) (Or.inl ⟨by rfl, ?_⟩) hHeld ?_ ?_
                 rotate_left
                 ·rintro w' ⟨s0, s1, s2, s3, s4⟩
                  go_simp
                  with_reducible rfl
                 rotate_left
                 ·simp only [Act.put, List.setIfInBounds_toArray, List.set_cons_zero, List.set_cons_succ, i64_w, i32_w]
                  rfl
                 refine one_ (i := 3) (N := some 113) #[true, true, true, true, false, false, false, false] rfl rfl (one_of HT_.out (by kernel_rfl)) (by decide) (fun K hK => ?_)
                 refine goes_ Try.func23 (by kernel_rfl) rfl #[.pointer (some ⟨g, 0, none⟩), .int .i64 1] (by rfl) rfl rfl (by (try simp only [List.map_toArray, List.map_cons, List.map_nil]); first | done | rfl | (simp only [List.length_drop, List.length_take]; rfl)) ?_
                 with_reducible refine (awardingbodymake_Tape_Part.calls kj35 g s0_0 t269 1 t283 t284 t285 t286 t287 t288 t289 w0 _ ?side1 ?side2 A92.out).mono ?_
                 (case side1 => exact (by repeat (first | (with_reducible first | exact HI0.out | apply IsS54.alloc | apply IsS54.drewN | apply IsS54.drew | apply IsS54.set_1 | refine IsS54.far ?_ NB0_245.out _ | refine IsS54.far ?_ NB0_248.out _) | exact HI0.out)))
                 (case side2 => exact (by repeat (first | (with_reducible first | exact HB.out | apply below_alloc | apply pw_below_drewN | apply below_drew1 | refine below_set ?_ (IsS54.ge HI0.out) | refine below_set ?_ GE245.out | refine below_set ?_ GE248.out) | exact HB.out)))
                 rintro e w96 ⟨rfl, hi, hb, hk⟩
                 refine ⟨_, rfl, ?_⟩
                 replace HO_249003 := za (Kd.R_mono (Kd.R_keep (IsS54.apart (show IsS54 w0 _ g s0_0 t269 from by repeat (first | (with_reducible first | exact HI0.out | apply IsS54.alloc | apply IsS54.drewN | apply IsS54.drew | apply IsS54.set_1 | refine IsS54.far ?_ NB0_245.out _ | refine IsS54.far ?_ NB0_248.out _) | exact HI0.out)) (by (with_reducible repeat (first | apply Kd.R_alloc | apply Kd.R_drewN | apply Kd.R_drew)); exact HO_249003.out) (by decide)) hk (fun _ h => h.2)) (fun _ h => h.1))
                 replace HO_249004 := za (Kd.R_mono (Kd.R_keep (IsS54.apart (show IsS54 w0 _ g s0_0 t269 from by repeat (first | (with_reducible first | exact HI0.out | apply IsS54.alloc | apply IsS54.drewN | apply IsS54.drew | apply IsS54.set_1 | refine IsS54.far ?_ NB0_245.out _ | refine IsS54.far ?_ NB0_248.out _) | exact HI0.out)) (by (with_reducible repeat (first | apply Kd.R_alloc | apply Kd.R_drewN | apply Kd.R_drew)); exact HO_249004.out) (by decide)) hk (fun _ h => h.2)) (fun _ h => h.1))
                 replace BK245 := zk hk BK245 NB245_0
                 replace BK248 := zk hk BK248 NB248_0
                 replace HK := zt HK hk
                 replace HB := za (hb)
                 replace HI0 := za (hi)
                 (try clear hb)
                 (try clear hb2)
                 (try clear hk)
                 (try clear hi)
                 refine hK.out _ _ ⟨(blk_cell BK248.out 0).trans rfl, (blk_cell BK248.out 1).trans rfl, (blk_cell BK248.out 2).trans rfl, (blk_cell BK248.out 3).trans rfl, (blk_cell BK248.out 4).trans rfl⟩ (fun hHeld => ?_)
                 clear hK K
                 refine norm_ (a' := ?_) ?_ ?_
                 rotate_left
                 ·show Act.put _ (some 113) _ = _
                  simp only [Act.put, List.setIfInBounds_toArray, List.set_cons_zero, List.set_cons_succ, i64_w, i32_w]
                  rfl
                 refine one_ (i := 4) (N := some 114) #[true, true, true, true, true, false, false, false] rfl rfl (one_of HT_.out (by kernel_rfl)) (by decide) (fun K hK => ?_)
                 refine value_ (w1 := ?_) (v := ?_) (by rfl) rfl ?_ ?_
                 rotate_left 2
                 ·go_simp
                  constructor
                  ·rfl
                  ·rfl
                 refine hK.out _ _ ⟨(blk_cell (blk_alloc BK248.out _) 0).trans rfl, (blk_cell (blk_alloc BK248.out _) 1).trans rfl, (blk_cell (blk_alloc BK248.out _) 2).trans rfl, (blk_cell (blk_alloc BK248.out _) 3).trans rfl, (blk_cell (blk_alloc BK248.out _) 4).trans rfl⟩ (fun hHeld => ?_)
                 clear hK K
                 refine norm_ (a' := ?_) ?_ ?_
                 rotate_left
                 ·show Act.put _ (some 114) _ = _
                  simp only [Act.put, List.setIfInBounds_toArray, List.set_cons_zero, List.set_cons_succ, i64_w, i32_w]
                  rfl
                 refine one_ (i := 5) (N := some 115) #[true, true, true, true, true, true, false, false] rfl rfl (one_of HT_.out (by kernel_rfl)) (by decide) (fun K hK => ?_)
                 refine Kd.R_append_step k23 w.heap.size (by rfl) (.tmp 111) (.tmp 114) 31 23 (.agg #[(.int .i64 0), (.int .i64 0), (.int .i64 0), (.int .i64 0), (.int .i64 0), (.int .i64 0)]) 48 rfl Try.underlying31 info23 rfl (by decide) (by omega) u249003 x249003_1 (⟨t283, t284, t285, t286, t287, t288⟩ : S23) [.int .i64 t283, .int .i64 t284, .int .i64 t285, .int .i64 t286, .int .i64 t287, .int .i64 t288] (fun _ => True) (fun _ => False) rfl rfl ?aP (fun _ hk => hk.elim) ?aF ?aO (Below.refl _ _) ?aS ?aL ?_
                 (case aP => exact k23_mkM _ _ _ (⟨t283, t284, t285, t286, t287, t288⟩ : S23))
                 (case aF => exact (fun _ _ => trivial))
                 (case aO => exact (by (with_reducible repeat (first | apply Kd.R_alloc | apply Kd.R_drewN | apply Kd.R_drew)); exact HO_249003.out))
                 (case aS => exact (keep_size (w := w) (g := g) (row := none) (by repeat (first | (with_reducible first | exact HK.out | apply KeepBut.set_ | apply keep_drewN | apply keep_drew | apply keep_alloc | refine keep_far ?_ GW245.out _ | refine keep_far ?_ GW248.out _) | exact HK.out))))
                 (case aL => have := LMc93.out; omega)
                 intro v291 w97 ho hb hg hat
                 rw [← Ny290.out] at ho
                 have HO292 := za (ho)
                 replace HO_249004 := za (Kd.R_over' (by (with_reducible repeat (first | apply Kd.R_alloc | apply Kd.R_drewN | apply Kd.R_drew)); exact HO_249004.out) (Kd.R_typed (by (with_reducible repeat (first | apply Kd.R_alloc | apply Kd.R_drewN | apply Kd.R_drew)); exact HO_249003.out)) (by decide) hg)
                 replace BK245 := (zw BK245 hg (Kd.R_ne HO_249003.out BK245.out (by decide)))
                 replace BK248 := (zw BK248 hg (Kd.R_ne HO_249003.out BK248.out (by decide)))
                 replace HI0 := za (IsS54.grown (by repeat (first | (with_reducible first | exact HI0.out | apply IsS54.alloc | apply IsS54.drewN | apply IsS54.drew | apply IsS54.set_1 | refine IsS54.far ?_ NB0_245.out _ | refine IsS54.far ?_ NB0_248.out _) | exact HI0.out)) hg (IsS54.own_ne HI0.out HO_249003.out (by decide)))
                 replace HB := za (below_weaken (zm HB) HL.out hb)
                 replace HK := za (KeepBut.trans (by repeat (first | (with_reducible first | exact HK.out | apply KeepBut.set_ | apply keep_drewN | apply keep_drew | apply keep_alloc | refine keep_far ?_ GW245.out _ | refine keep_far ?_ GW248.out _) | exact HK.out)) (KeepBut.of_grown hg g) (Kd.R_base2 HO_249003.out))
                 clear HO_249003 ho hb hg hat
                 obtain ⟨Ao98, co98, eo98⟩ := Kd.R_slice HO292.out
                 (first | subst eo98 | (injection eo98 with f1_ f2_ f3_; have f4_ := f1_.symm; have f5_ := f3_.symm; clear f1_ f2_ f3_; subst f4_; subst f5_))
                 refine hK.out _ _ ⟨(blk_cell BK248.out 0).trans rfl, (blk_cell BK248.out 1).trans rfl, (blk_cell BK248.out 2).trans rfl, (blk_cell BK248.out 3).trans rfl, (blk_cell BK248.out 4).trans rfl⟩ (fun hHeld => ?_)
                 clear hK K
                 refine norm_ (a' := ?_) ?_ ?_
                 rotate_left
                 ·show Act.put _ (some 115) _ = _
                  simp only [Act.put, List.setIfInBounds_toArray, List.set_cons_zero, List.set_cons_succ, i64_w, i32_w]
                  rfl
                 refine pure_ (i := 6) (N := some 116) (v := ?_) (a' := ?_) #[true, true, true, true, true, true, true, false] rfl rfl (any_of HT_.out (by kernel_rfl)) (fun _ _ _ h => h) (Or.inl ⟨by rfl, ?_⟩) ?_ ?_
                 rotate_left
                 ·intro w'
                  go_simp
                  with_reducible rfl
                 rotate_left
                 ·simp only [Act.put, List.setIfInBounds_toArray, List.set_cons_zero, List.set_cons_succ, i64_w, i32_w]
                  rfl
                 refine last_ (i := 7) (N := none) #[true, true, true, true, true, true, true, true] rfl rfl (one_of HT_.out (by kernel_rfl)) (by decide) (fun K hK => ?_)
                 have hs99 : w97.cell? ⟨gb248, 3, none⟩ = some (u249003) := (blk_cell BK248.out 3).trans rfl
                 have hfs99 := blk_frozen BK248.out 3
                 have hns99_0 := NB245_248.out
                 have hms99_0 := NB248_245.out
                 refine skip_ (w1 := ?_) (by rfl) rfl ?_ ?_
                 rotate_left
                 ·go_simp
                  rfl
                 refine hK.out _ _ ?_
                 clear hK K
                 refine done_ (done_of HT_.out (by kernel_rfl)) ?_
                 have hnb100 := NB248_245.out
                 have hnc100 := NB245_248.out
                 have hnb101 := NB248_0.out
                 have hnc101 := NB0_248.out
                 obtain ⟨hcz102_0, hcz102_1, hcz102_2, hcz102_3, hcz102_4, hfz102_0, hfz102_1, hfz102_2, hfz102_3, hfz102_4⟩ := z5 BK248
                 have hnb103 := NB245_0.out
                 have hnc103 := NB0_245.out
                 obtain ⟨hcz104_0, hcz104_1, hcz104_2, hcz104_3, hcz104_4, hfz104_0, hfz104_1, hfz104_2, hfz104_3, hfz104_4⟩ := z5 BK245
                 obtain ⟨Ao105, co105, eo105⟩ := Kd.R_slice HO_249004.out
                 subst eo105
                 try go_wp2
                 refine bodyPost_ret (results_cell_row rfl _ _ gb245 33 #[.int .i64 a1, .int .i64 a2, .string ((⟨#[113]⟩ : ByteArray) ++ t246), .slice Ao98 y290.length co98, .slice Ao105 x249004_2.length co105] (0, 0) _ rfl (by (with_reducible repeat (first | refine blk_drewN ?_ _ | refine blk_drew ?_ | refine blk_alloc ?_ _)); refine blk_put (cs := #[.int .i64 a1, .int .i64 a2, .string ((⟨#[113]⟩ : ByteArray) ++ t246), .slice Ao98 y290.length co98, .slice none 0 0]) ?_ 4 _ rfl; (with_reducible repeat (first | refine blk_drewN ?_ _ | refine blk_drew ?_ | refine blk_alloc ?_ _)); refine blk_put (cs := #[.int .i64 a1, .int .i64 a2, .string ((⟨#[113]⟩ : ByteArray) ++ t246), .slice none 0 0, .slice none 0 0]) ?_ 3 _ rfl; (with_reducible repeat (first | refine blk_drewN ?_ _ | refine blk_drew ?_ | refine blk_alloc ?_ _)); refine blk_put (cs := #[.int .i64 a1, .int .i64 a2, .string (⟨#[]⟩ : ByteArray), .slice none 0 0, .slice none 0 0]) ?_ 2 _ rfl; (with_reducible repeat (first | refine blk_drewN ?_ _ | refine blk_drew ?_ | refine blk_alloc ?_ _)); refine blk_put (cs := #[.int .i64 a1, .int .i64 0, .string (⟨#[]⟩ : ByteArray), .slice none 0 0, .slice none 0 0]) ?_ 1 _ rfl; (with_reducible repeat (first | refine blk_drewN ?_ _ | refine blk_drew ?_ | refine blk_alloc ?_ _)); refine blk_put (cs := #[.int .i64 0, .int .i64 0, .string (⟨#[]⟩ : ByteArray), .slice none 0 0, .slice none 0 0]) ?_ 0 _ rfl; (with_reducible repeat (first | refine blk_drewN ?_ _ | refine blk_drew ?_ | refine blk_alloc ?_ _)); refine blk_far ?_ NB245_248.out _; (with_reducible repeat (first | refine blk_drewN ?_ _ | refine blk_drew ?_ | refine blk_alloc ?_ _)); exact BK245.out) Try.underlying33 rfl (by kernel_rfl)) rfl ?_
                 exact ⟨_, _, zf, by (with_reducible repeat (first | apply Kd.R_alloc | apply Kd.R_drewN | apply Kd.R_drew)); exact Kd.R_mono (Kd.R_far (p := ⟨gb245, 4, none⟩) (Kd.R_far (p := ⟨gb245, 3, none⟩) (Kd.R_far (p := ⟨gb245, 2, none⟩) (Kd.R_far (p := ⟨gb245, 1, none⟩) (Kd.R_far (p := ⟨gb245, 0, none⟩) (Kd.R_far (p := ⟨gb248, 3, none⟩) (Kd.R_types (Kd.R_types HO292.out BK248.out (by decide)) BK245.out (by decide)) (fun _ hk => hk.1.2) (.slice Ao98 y290.length co98)) (fun _ hk => hk.2) (.int .i64 a1)) (fun _ hk => hk.2) (.int .i64 a2)) (fun _ hk => hk.2) (.string ((⟨#[113]⟩ : ByteArray) ++ t246))) (fun _ hk => hk.2) (.slice Ao98 y290.length co98)) (fun _ hk => hk.2) (.slice Ao105 x249004_2.length co105)) (fun _ hk => trivial), by (with_reducible repeat (first | apply Kd.R_alloc | apply Kd.R_drewN | apply Kd.R_drew)); exact Kd.R_mono (Kd.R_far (p := ⟨gb245, 4, none⟩) (Kd.R_far (p := ⟨gb245, 3, none⟩) (Kd.R_far (p := ⟨gb245, 2, none⟩) (Kd.R_far (p := ⟨gb245, 1, none⟩) (Kd.R_far (p := ⟨gb245, 0, none⟩) (Kd.R_far (p := ⟨gb248, 3, none⟩) (Kd.R_types (Kd.R_types HO_249004.out BK248.out (by decide)) BK245.out (by decide)) (fun _ hk => hk.1.2) (.slice Ao98 y290.length co98)) (fun _ hk => hk.2) (.int .i64 a1)) (fun _ hk => hk.2) (.int .i64 a2)) (fun _ hk => hk.2) (.string ((⟨#[113]⟩ : ByteArray) ++ t246))) (fun _ hk => hk.2) (.slice Ao98 y290.length co98)) (fun _ hk => hk.2) (.slice Ao105 x249004_2.length co105)) (fun _ hk => trivial), by repeat (first | (with_reducible first | exact HI0.out | apply IsS54.alloc | apply IsS54.drewN | apply IsS54.drew | apply IsS54.set_1 | refine IsS54.far ?_ NB0_245.out _ | refine IsS54.far ?_ NB0_248.out _) | exact HI0.out), zm HB, by repeat (first | (with_reducible first | exact HK.out | apply KeepBut.set_ | apply keep_drewN | apply keep_drew | apply keep_alloc | refine keep_far ?_ GW245.out _ | refine keep_far ?_ GW248.out _) | exact HK.out)⟩
                ·rw [if_neg c93] at H
                 exact absurd H (by simp)
               ·rw [if_neg c91] at H
                have c91b0 : (t268 == 4) = false := beq_eq_false_iff_ne.mpr c91
                have c91b1 : (t268 != 4) = true := bne_iff_ne.mpr c91
                by_cases c106 : t268 = 5
                ·rw [if_pos c106] at H
                 have c106b0 : (t268 == 5) = true := beq_iff_eq.mpr c106
                 have c106b1 : (t268 != 5) = false := bne_eq_false_iff_eq.mpr c106
                 clear c106
                 obtain ⟨y293, hy293⟩ : ∃ y_ : List Int, y_ = (([0, a1, (-1), 10000, 3] : List Int)) := ⟨_, rfl⟩
                 replace H : ((awardingbodymake_Tape_Pick.f s0_0 t269 y293).bind fun bt296 => (if x249004_2.length < 17592186044416 then (some (a1, a2, ((⟨#[113]⟩ : ByteArray) ++ t246), x249003_1, (x249004_2 ++ [bt296.1]), bt296.2)) else (none))) = some (r1, r2, r3, r4, r5, r6) := by first | (rw [hy293]; with_reducible exact H) | (have H2_ := (Option.bind_some _ _).symm.trans H; rw [hy293]; with_reducible exact H2_) | (have H2_ := (Option.bind_some _ _).symm.trans H; with_reducible exact H2_) | with_reducible exact H | (rw [hy293]; exact H) | exact H
                 have Ny293 := za hy293
                 clear hy293
                 replace H := Option.bind_eq_some_iff.mp H
                 obtain ⟨⟨t296, t297⟩, A1070, H⟩ := H
                 replace H : (if x249004_2.length < 17592186044416 then (some (a1, a2, ((⟨#[113]⟩ : ByteArray) ++ t246), x249003_1, (x249004_2 ++ [t296]), t297)) else (none)) = some (r1, r2, r3, r4, r5, r6) := H
                 have A107 := za A1070
                 clear A1070
                 by_cases c108 : x249004_2.length < 17592186044416
                 ·rw [if_pos c108] at H
                  have LMc108 := za c108
                  clear c108
                  obtain ⟨y298, hy298⟩ : ∃ y_ : List Int, y_ = (x249004_2 ++ [t296]) := ⟨_, rfl⟩
                  replace H : (some (a1, a2, ((⟨#[113]⟩ : ByteArray) ++ t246), x249003_1, y298, t297)) = some (r1, r2, r3, r4, r5, r6) := by first | (rw [hy298]; with_reducible exact H) | (have H2_ := (Option.bind_some _ _).symm.trans H; rw [hy298]; with_reducible exact H2_) | (have H2_ := (Option.bind_some _ _).symm.trans H; with_reducible exact H2_) | with_reducible exact H | (rw [hy298]; exact H) | exact H
                  have Ny298 := za hy298
                  clear hy298
                  simp only [Option.some.injEq, Prod.mk.injEq] at H
                  obtain ⟨rfl, rfl, rfl, rfl, rfl, rfl⟩ := H
                  try go_wp2_with (first | ((with_reducible refine gate_callee (f := 17) rfl ?_); refine zL (some 56) Try.func17 #[.pointer (some ⟨g, 0, none⟩), .int .i64 7] ?_; (with_reducible refine (awardingbodymake_Tape_Next.calls g s0_0 x1001_35 7 t268 t269 w0 _ ?side1 ?side2 A41.out).mono ?_); (case side1 => exact (by repeat (first | (with_reducible first | exact HI0.out | apply IsS54.alloc | apply IsS54.drewN | apply IsS54.drew | apply IsS54.set_1 | refine IsS54.far ?_ NB0_245.out _ | refine IsS54.far ?_ NB0_248.out _) | exact HI0.out))); (case side2 => exact (by repeat (first | (with_reducible first | exact HB.out | apply below_alloc | apply pw_below_drewN | apply below_drew1 | refine below_set ?_ (IsS54.ge HI0.out) | refine below_set ?_ GE245.out | refine below_set ?_ GE248.out) | exact HB.out))); rintro e w109 ⟨rfl, hi, hb, hk⟩; refine ⟨_, rfl, ?_⟩; replace HO_249003 := za (Kd.R_mono (Kd.R_keep (IsS54.apart (show IsS54 w0 _ g s0_0 x1001_35 from by repeat (first | (with_reducible first | exact HI0.out | apply IsS54.alloc | apply IsS54.drewN | apply IsS54.drew | apply IsS54.set_1 | refine IsS54.far ?_ NB0_245.out _ | refine IsS54.far ?_ NB0_248.out _) | exact HI0.out)) (by (with_reducible repeat (first | apply Kd.R_alloc | apply Kd.R_drewN | apply Kd.R_drew)); exact HO_249003.out) (by decide)) hk (fun _ h => h.2)) (fun _ h => h.1)); replace HO_249004 := za (Kd.R_mono (Kd.R_keep (IsS54.apart (show IsS54 w0 _ g s0_0 x1001_35 from by repeat (first | (with_reducible first | exact HI0.out | apply IsS54.alloc | apply IsS54.drewN | apply IsS54.drew | apply IsS54.set_1 | refine IsS54.far ?_ NB0_245.out _ | refine IsS54.far ?_ NB0_248.out _) | exact HI0.out)) (by (with_reducible repeat (first | apply Kd.R_alloc | apply Kd.R_drewN | apply Kd.R_drew)); exact HO_249004.out) (by decide)) hk (fun _ h => h.2)) (fun _ h => h.1)); replace BK245 := zk hk BK245 NB245_0; replace BK248 := zk hk BK248 NB248_0; replace HK := zt HK hk; replace HB := za (hb); replace HI0 := za (hi); (try clear hb); (try clear hb2); (try clear hk); (try clear hi)))
                  replace HO_249003 := za (Kd.R_drew HO_249003.out)
                  replace HO_249004 := za (Kd.R_drew HO_249004.out)
                  replace BK245 := za (blk_drew BK245.out)
                  replace BK248 := za (blk_drew BK248.out)
                  replace HI0 := za (IsS54.drew HI0.out)
                  replace HK := za (keep_drew HK.out)
                  replace HB := za (below_drew1 HB.out)
                  refine start_ (n := 10) (S := fun w' => w'.cell? ⟨gb248, 0, none⟩ = some (.int .i64 a1) ∧ w'.cell? ⟨gb248, 1, none⟩ = some (.int .i64 a2) ∧ w'.cell? ⟨gb248, 2, none⟩ = some (.string ((⟨#[113]⟩ : ByteArray) ++ t246)) ∧ w'.cell? ⟨gb248, 3, none⟩ = some (u249003) ∧ w'.cell? ⟨gb248, 4, none⟩ = some (u249004)) (ds := [9]) #[false, false, false, false, false, false, false, false, false, false] (by kernel_rfl) rfl rfl ⟨(blk_cell BK248.out 0).trans rfl, (blk_cell BK248.out 1).trans rfl, (blk_cell BK248.out 2).trans rfl, (blk_cell BK248.out 3).trans rfl, (blk_cell BK248.out 4).trans rfl⟩ (fun hHeld => ?_); refine with_tabW awardingbodymake_Tape_Item.tab25 awardingbodymake_Tape_Item.bits25 (fun HT_ HW_ => ?_)
                  generalize w109.drew = w110 at HO_249003 HO_249004 BK245 BK248 HI0 HK HB hHeld ⊢
                  refine pure_ (i := 0) (N := some 119) (v := ?_) (a' := ?_) #[true, false, false, false, false, false, false, false, false, false] rfl rfl (any_of HT_.out (by kernel_rfl)) (fun _ _ _ h => h) (Or.inl ⟨by rfl, ?_⟩) ?_ ?_
                  rotate_left
                  ·intro w'
                   go_simp
                   with_reducible rfl
                  rotate_left
                  ·simp only [Act.put, List.setIfInBounds_toArray, List.set_cons_zero, List.set_cons_succ, i64_w, i32_w]
                   rfl
                  refine pure_ (i := 2) (N := some 121) (v := ?_) (a' := ?_) #[true, false, true, false, false, false, false, false, false, false] rfl rfl (any_of HT_.out (by kernel_rfl)) (fun _ _ _ h => h) (Or.inl ⟨by rfl, ?_⟩) ?_ ?_
                  rotate_left
                  ·intro w'
                   go_simp
                   with_reducible rfl
                  rotate_left
                  ·simp only [Act.put, List.setIfInBounds_toArray, List.set_cons_zero, List.set_cons_succ, i64_w, i32_w]
                   rfl
                  refine pure_ (i := 3) (N := some 122) (v := ?_) (a' := ?_) #[true, false, true, true, false, false, false, false, false, false] rfl rfl (any_of HT_.out (by kernel_rfl)) (fun _ _ _ h => h) (Or.inl ⟨by rfl, ?_⟩) ?_ ?_
                  rotate_left
                  ·intro w'
                   go_simp
                   with_reducible rfl
                  rotate_left
                  ·simp only [Act.put, List.setIfInBounds_toArray, List.set_cons_zero, List.set_cons_succ, i64_w, i32_w]
                   rfl
                  refine take_ (i := 1) (N := some 120) (v := ?_) (a' := ?_) #[true, true, true, true, false, false, false, false, false, false] rfl rfl (take_ofW HT_.out HW_.out (by kernel_rfl)) (fun _ _ _ h => h) (Or.inl ⟨by rfl, ?_⟩) hHeld ?_ ?_
                  rotate_left
                  ·rintro w' ⟨s0, s1, s2, s3, s4⟩
                   go_simp
                   with_reducible rfl
                  rotate_left
                  ·simp only [Act.put, List.setIfInBounds_toArray, List.set_cons_zero, List.set_cons_succ, i64_w, i32_w]
                   rfl
                  refine one_ (i := 4) (N := some 123) #[true, true, true, true, true, false, false, false, false, false] rfl rfl (one_of HT_.out (by kernel_rfl)) (by decide) (fun K hK => ?_)
                  refine Kd.R_lit_step (Kd.int .i64) _ 3 ?hg (N := 123) ?hd (xs := ([0, a1, (-1), 10000, 3] : List Int)) (inner := [.int .i64 0, .int .i64 a1, .int .i64 (-1), .int .i64 10000, .int .i64 3]) (ok := fun _ => True) (okp := fun _ => True) ?hr ?hp (fun _ hk => hk) trivial (Below.refl _ _) (Nat.le_refl _) (by simp) ?_; (case hd => rfl); (case hg => rfl); (case hr => first | (go_simp; done) | (go_simp; rfl)); (case hp => exact (Reps.one (show Kd.M (Kd.int .i64) _ _ _ 0 [.int .i64 0] from rfl) (Reps.one (show Kd.M (Kd.int .i64) _ _ _ a1 [.int .i64 a1] from rfl) (Reps.one (show Kd.M (Kd.int .i64) _ _ _ (-1) [.int .i64 (-1)] from rfl) (Reps.one (show Kd.M (Kd.int .i64) _ _ _ 10000 [.int .i64 10000] from rfl) (Reps.one (show Kd.M (Kd.int .i64) _ _ _ 3 [.int .i64 3] from rfl) (Reps.none _ _)))))))
                  intro v294 w111 ho112 hb hg_ hnew_
                  clear hg_ hnew_
                  (first | rw [← Ny293.out] at ho112 | (simp only [Int.reduceToNat] at ho112; rw [← Ny293.out] at ho112))
                  have HO295 := za (Kd.R_lower (Kd.R_new' ho112 (Kd.R_lt (by (with_reducible repeat (first | apply Kd.R_alloc | apply Kd.R_drewN | apply Kd.R_drew)); exact HO_249004.out))) (keep_size (w := w) (g := g) (row := none) (by repeat (first | (with_reducible first | exact HK.out | apply KeepBut.set_ | apply keep_drewN | apply keep_drew | apply keep_alloc | refine keep_far ?_ GW245.out _ | refine keep_far ?_ GW248.out _) | exact HK.out))))
                  replace HO_249003 := zR HO_249003 hb
                  replace HO_249004 := za (Kd.R_elder' (by (with_reducible repeat (first | apply Kd.R_alloc | apply Kd.R_drewN | apply Kd.R_drew)); exact HO_249004.out) (Kd.R_base ho112) hb)
                  replace BK245 := zb BK245 hb
                  replace BK248 := zb BK248 hb
                  replace HI0 := za (IsS54.below (by repeat (first | (with_reducible first | exact HI0.out | apply IsS54.alloc | apply IsS54.drewN | apply IsS54.drew | apply IsS54.set_1 | refine IsS54.far ?_ NB0_245.out _ | refine IsS54.far ?_ NB0_248.out _) | exact HI0.out)) hb)
                  replace HK := zu HK hb
                  replace HB := zs HB hb
                  clear hb ho112
                  obtain ⟨Ao113, co113, eo113⟩ := Kd.R_slice HO295.out
                  (first | subst eo113 | (injection eo113 with f1_ f2_ f3_; have f4_ := f1_.symm; have f5_ := f3_.symm; clear f1_ f2_ f3_; subst f4_; subst f5_))
                  refine hK.out _ _ ⟨(blk_cell BK248.out 0).trans rfl, (blk_cell BK248.out 1).trans rfl, (blk_cell BK248.out 2).trans rfl, (blk_cell BK248.out 3).trans rfl, (blk_cell BK248.out 4).trans rfl⟩ (fun hHeld => ?_)
                  clear hK K
                  refine norm_ (a' := ?_) ?_ ?_
                  rotate_left
                  ·show Act.put _ (some 123) _ = _
                   simp only [Act.put, List.setIfInBounds_toArray, List.set_cons_zero, List.set_cons_succ, i64_w, i32_w]
                   rfl
                  refine one_ (i := 5) (N := some 124) #[true, true, true, true, true, true, false, false, false, false] rfl rfl (one_of HT_.out (by kernel_rfl)) (by decide) (fun K hK => ?_)
                  refine goes_ Try.func40 (by kernel_rfl) rfl #[.pointer (some ⟨g, 0, none⟩), .slice Ao113 y293.length co113] (by rfl) rfl rfl (by (try simp only [List.map_toArray, List.map_cons, List.map_nil]); first | done | rfl | (simp only [List.length_drop, List.length_take]; rfl)) ?_
                  with_reducible refine (awardingbodymake_Tape_Pick.calls g s0_0 t269 _ _ y293 t296 t297 w0 _ ?side1 ?side2 ?side3 ?side4 ?side5 A107.out).mono ?_
                  (case side1 => exact (by repeat (first | (with_reducible first | exact HI0.out | apply IsS54.alloc | apply IsS54.drewN | apply IsS54.drew | apply IsS54.set_1 | refine IsS54.far ?_ NB0_245.out _ | refine IsS54.far ?_ NB0_248.out _) | exact HI0.out)))
                  (case side2 => exact (by repeat (first | (with_reducible first | exact HB.out | apply below_alloc | apply pw_below_drewN | apply below_drew1 | refine below_set ?_ (IsS54.ge HI0.out) | refine below_set ?_ GE245.out | refine below_set ?_ GE248.out) | exact HB.out)))
                  (case side3 => exact zD HO295)
                  (case side4 => exact (Kd.R_reads' HO295.out).2.1)
                  (case side5 => exact far_slice (IsS54.own_ne HI0.out HO295.out (by decide)))
                  rintro e w114 ⟨rfl, hi, hb, hk⟩
                  refine ⟨_, rfl, ?_⟩
                  replace HO_249003 := za (Kd.R_mono (Kd.R_keep (IsS54.apart (show IsS54 w0 _ g s0_0 t269 from by repeat (first | (with_reducible first | exact HI0.out | apply IsS54.alloc | apply IsS54.drewN | apply IsS54.drew | apply IsS54.set_1 | refine IsS54.far ?_ NB0_245.out _ | refine IsS54.far ?_ NB0_248.out _) | exact HI0.out)) (by (with_reducible repeat (first | apply Kd.R_alloc | apply Kd.R_drewN | apply Kd.R_drew)); exact HO_249003.out) (by decide)) hk (fun _ h => h.2)) (fun _ h => h.1))
                  replace HO_249004 := za (Kd.R_mono (Kd.R_keep (IsS54.apart (show IsS54 w0 _ g s0_0 t269 from by repeat (first | (with_reducible first | exact HI0.out | apply IsS54.alloc | apply IsS54.drewN | apply IsS54.drew | apply IsS54.set_1 | refine IsS54.far ?_ NB0_245.out _ | refine IsS54.far ?_ NB0_248.out _) | exact HI0.out)) (by (with_reducible repeat (first | apply Kd.R_alloc | apply Kd.R_drewN | apply Kd.R_drew)); exact HO_249004.out) (by decide)) hk (fun _ h => h.2)) (fun _ h => h.1))
                  replace BK245 := zk hk BK245 NB245_0
                  replace BK248 := zk hk BK248 NB248_0
                  replace HO295 := za (Kd.R_mono (Kd.R_keep (IsS54.apart (show IsS54 w0 _ g s0_0 t269 from by repeat (first | (with_reducible first | exact HI0.out | apply IsS54.alloc | apply IsS54.drewN | apply IsS54.drew | apply IsS54.set_1 | refine IsS54.far ?_ NB0_245.out _ | refine IsS54.far ?_ NB0_248.out _) | exact HI0.out)) (by (with_reducible repeat (first | apply Kd.R_alloc | apply Kd.R_drewN | apply Kd.R_drew)); exact HO295.out) (by decide)) hk (fun _ h => h.2)) (fun _ h => h.1))
                  replace HK := zt HK hk
                  replace HB := za (hb)
                  replace HI0 := za (hi)
                  (try clear hb)
                  (try clear hb2)
                  (try clear hk)
                  (try clear hi)
                  refine hK.out _ _ ⟨(blk_cell BK248.out 0).trans rfl, (blk_cell BK248.out 1).trans rfl, (blk_cell BK248.out 2).trans rfl, (blk_cell BK248.out 3).trans rfl, (blk_cell BK248.out 4).trans rfl⟩ (fun hHeld => ?_)
                  clear hK K
                  refine norm_ (a' := ?_) ?_ ?_
                  rotate_left
                  ·show Act.put _ (some 124) _ = _
                   simp only [Act.put, List.setIfInBounds_toArray, List.set_cons_zero, List.set_cons_succ, i64_w, i32_w]
                   rfl
                  refine one_ (i := 6) (N := some 125) #[true, true, true, true, true, true, true, false, false, false] rfl rfl (one_of HT_.out (by kernel_rfl)) (by decide) (fun K hK => ?_)
                  refine value_ (w1 := ?_) (v := ?_) (by rfl) rfl ?_ ?_
                  rotate_left 2
                  ·go_simp
                   constructor
                   ·rfl
                   ·rfl
                  refine hK.out _ _ ⟨(blk_cell (blk_alloc BK248.out _) 0).trans rfl, (blk_cell (blk_alloc BK248.out _) 1).trans rfl, (blk_cell (blk_alloc BK248.out _) 2).trans rfl, (blk_cell (blk_alloc BK248.out _) 3).trans rfl, (blk_cell (blk_alloc BK248.out _) 4).trans rfl⟩ (fun hHeld => ?_)
                  clear hK K
                  refine norm_ (a' := ?_) ?_ ?_
                  rotate_left
                  ·show Act.put _ (some 125) _ = _
                   simp only [Act.put, List.setIfInBounds_toArray, List.set_cons_zero, List.set_cons_succ, i64_w, i32_w]
                   rfl
                  refine one_ (i := 7) (N := some 126) #[true, true, true, true, true, true, true, true, false, false] rfl rfl (one_of HT_.out (by kernel_rfl)) (by decide) (fun K hK => ?_)
                  refine Kd.R_append_step (Kd.int .i64) w.heap.size (by rfl) (.tmp 120) (.tmp 125) 28 3 (.int .i64 0) 8 rfl Try.underlying28 info3 rfl (by decide) (by omega) u249004 x249004_2 t296 [.int .i64 t296] (fun k_ => some k_ ≠ (.slice Ao113 y293.length co113 : Value).ownBlock) (fun _ => False) rfl rfl ?aP (fun _ hk => hk.elim) ?aF ?aO (Below.refl _ _) ?aS ?aL ?_
                  (case aP => exact rfl)
                  (case aF => exact (fun k_ hk => Kd.fresh' (Kd.R_lt (by (with_reducible repeat (first | apply Kd.R_alloc | apply Kd.R_drewN | apply Kd.R_drew)); exact HO295.out)) k_ hk))
                  (case aO => exact (by (with_reducible repeat (first | apply Kd.R_alloc | apply Kd.R_drewN | apply Kd.R_drew)); exact Kd.R_mono HO_249004.out (fun _ hk => hk.2)))
                  (case aS => exact (keep_size (w := w) (g := g) (row := none) (by repeat (first | (with_reducible first | exact HK.out | apply KeepBut.set_ | apply keep_drewN | apply keep_drew | apply keep_alloc | refine keep_far ?_ GW245.out _ | refine keep_far ?_ GW248.out _) | exact HK.out))))
                  (case aL => have := LMc108.out; omega)
                  intro v299 w115 ho hb hg hat
                  rw [← Ny298.out] at ho
                  have HO300 := za (ho)
                  replace HO_249003 := za (Kd.R_over' (by (with_reducible repeat (first | apply Kd.R_alloc | apply Kd.R_drewN | apply Kd.R_drew)); exact HO_249003.out) (Kd.R_typed (by (with_reducible repeat (first | apply Kd.R_alloc | apply Kd.R_drewN | apply Kd.R_drew)); exact HO_249004.out)) (by decide) hg)
                  replace BK245 := (zw BK245 hg (Kd.R_ne HO_249004.out BK245.out (by decide)))
                  replace BK248 := (zw BK248 hg (Kd.R_ne HO_249004.out BK248.out (by decide)))
                  replace HI0 := za (IsS54.grown (by repeat (first | (with_reducible first | exact HI0.out | apply IsS54.alloc | apply IsS54.drewN | apply IsS54.drew | apply IsS54.set_1 | refine IsS54.far ?_ NB0_245.out _ | refine IsS54.far ?_ NB0_248.out _) | exact HI0.out)) hg (IsS54.own_ne HI0.out HO_249004.out (by decide)))
                  replace HO295 := za (Kd.R_after (ok := (fun _ => True)) (by (with_reducible repeat (first | apply Kd.R_alloc | apply Kd.R_drewN | apply Kd.R_drew)); exact HO295.out) hg hat)
                  replace HB := za (below_weaken (zm HB) HL.out hb)
                  replace HK := za (KeepBut.trans (by repeat (first | (with_reducible first | exact HK.out | apply KeepBut.set_ | apply keep_drewN | apply keep_drew | apply keep_alloc | refine keep_far ?_ GW245.out _ | refine keep_far ?_ GW248.out _) | exact HK.out)) (KeepBut.of_grown hg g) (Kd.R_base2 HO_249004.out))
                  clear HO_249004 ho hb hg hat
                  obtain ⟨Ao116, co116, eo116⟩ := Kd.R_slice HO300.out
                  (first | subst eo116 | (injection eo116 with f1_ f2_ f3_; have f4_ := f1_.symm; have f5_ := f3_.symm; clear f1_ f2_ f3_; subst f4_; subst f5_))
                  refine hK.out _ _ ⟨(blk_cell BK248.out 0).trans rfl, (blk_cell BK248.out 1).trans rfl, (blk_cell BK248.out 2).trans rfl, (blk_cell BK248.out 3).trans rfl, (blk_cell BK248.out 4).trans rfl⟩ (fun hHeld => ?_)
                  clear hK K
                  refine norm_ (a' := ?_) ?_ ?_
                  rotate_left
                  ·show Act.put _ (some 126) _ = _
                   simp only [Act.put, List.setIfInBounds_toArray, List.set_cons_zero, List.set_cons_succ, i64_w, i32_w]
                   rfl
                  refine pure_ (i := 8) (N := some 127) (v := ?_) (a' := ?_) #[true, true, true, true, true, true, true, true, true, false] rfl rfl (any_of HT_.out (by kernel_rfl)) (fun _ _ _ h => h) (Or.inl ⟨by rfl, ?_⟩) ?_ ?_
                  rotate_left
                  ·intro w'
                   go_simp
                   with_reducible rfl
                  rotate_left
                  ·simp only [Act.put, List.setIfInBounds_toArray, List.set_cons_zero, List.set_cons_succ, i64_w, i32_w]
                   rfl
                  refine last_ (i := 9) (N := none) #[true, true, true, true, true, true, true, true, true, true] rfl rfl (one_of HT_.out (by kernel_rfl)) (by decide) (fun K hK => ?_)
                  have hs117 : w115.cell? ⟨gb248, 4, none⟩ = some (u249004) := (blk_cell BK248.out 4).trans rfl
                  have hfs117 := blk_frozen BK248.out 4
                  have hns117_0 := NB245_248.out
                  have hms117_0 := NB248_245.out
                  refine skip_ (w1 := ?_) (by rfl) rfl ?_ ?_
                  rotate_left
                  ·go_simp
                   rfl
                  refine hK.out _ _ ?_
                  clear hK K
                  refine done_ (done_of HT_.out (by kernel_rfl)) ?_
                  have hnb118 := NB248_245.out
                  have hnc118 := NB245_248.out
                  have hnb119 := NB248_0.out
                  have hnc119 := NB0_248.out
                  obtain ⟨hcz120_0, hcz120_1, hcz120_2, hcz120_3, hcz120_4, hfz120_0, hfz120_1, hfz120_2, hfz120_3, hfz120_4⟩ := z5 BK248
                  have hnb121 := NB245_0.out
                  have hnc121 := NB0_245.out
                  obtain ⟨hcz122_0, hcz122_1, hcz122_2, hcz122_3, hcz122_4, hfz122_0, hfz122_1, hfz122_2, hfz122_3, hfz122_4⟩ := z5 BK245
                  obtain ⟨Ao123, co123, eo123⟩ := Kd.R_slice HO_249003.out
                  subst eo123
                  try go_wp2
                  refine bodyPost_ret (results_cell_row rfl _ _ gb245 33 #[.int .i64 a1, .int .i64 a2, .string ((⟨#[113]⟩ : ByteArray) ++ t246), .slice Ao123 x249003_1.length co123, .slice Ao116 y298.length co116] (0, 0) _ rfl (by (with_reducible repeat (first | refine blk_drewN ?_ _ | refine blk_drew ?_ | refine blk_alloc ?_ _)); refine blk_put (cs := #[.int .i64 a1, .int .i64 a2, .string ((⟨#[113]⟩ : ByteArray) ++ t246), .slice Ao123 x249003_1.length co123, .slice none 0 0]) ?_ 4 _ rfl; (with_reducible repeat (first | refine blk_drewN ?_ _ | refine blk_drew ?_ | refine blk_alloc ?_ _)); refine blk_put (cs := #[.int .i64 a1, .int .i64 a2, .string ((⟨#[113]⟩ : ByteArray) ++ t246), .slice none 0 0, .slice none 0 0]) ?_ 3 _ rfl; (with_reducible repeat (first | refine blk_drewN ?_ _ | refine blk_drew ?_ | refine blk_alloc ?_ _)); refine blk_put (cs := #[.int .i64 a1, .int .i64 a2, .string (⟨#[]⟩ : ByteArray), .slice none 0 0, .slice none 0 0]) ?_ 2 _ rfl; (with_reducible repeat (first | refine blk_drewN ?_ _ | refine blk_drew ?_ | refine blk_alloc ?_ _)); refine blk_put (cs := #[.int .i64 a1, .int .i64 0, .string (⟨#[]⟩ : ByteArray), .slice none 0 0, .slice none 0 0]) ?_ 1 _ rfl; (with_reducible repeat (first | refine blk_drewN ?_ _ | refine blk_drew ?_ | refine blk_alloc ?_ _)); refine blk_put (cs := #[.int .i64 0, .int .i64 0, .string (⟨#[]⟩ : ByteArray), .slice none 0 0, .slice none 0 0]) ?_ 0 _ rfl; (with_reducible repeat (first | refine blk_drewN ?_ _ | refine blk_drew ?_ | refine blk_alloc ?_ _)); refine blk_far ?_ NB245_248.out _; (with_reducible repeat (first | refine blk_drewN ?_ _ | refine blk_drew ?_ | refine blk_alloc ?_ _)); exact BK245.out) Try.underlying33 rfl (by kernel_rfl)) rfl ?_
                  exact ⟨_, _, zf, by (with_reducible repeat (first | apply Kd.R_alloc | apply Kd.R_drewN | apply Kd.R_drew)); exact Kd.R_mono (Kd.R_far (p := ⟨gb245, 4, none⟩) (Kd.R_far (p := ⟨gb245, 3, none⟩) (Kd.R_far (p := ⟨gb245, 2, none⟩) (Kd.R_far (p := ⟨gb245, 1, none⟩) (Kd.R_far (p := ⟨gb245, 0, none⟩) (Kd.R_far (p := ⟨gb248, 4, none⟩) (Kd.R_types (Kd.R_types HO_249003.out BK248.out (by decide)) BK245.out (by decide)) (fun _ hk => hk.1.2) (.slice Ao116 y298.length co116)) (fun _ hk => hk.2) (.int .i64 a1)) (fun _ hk => hk.2) (.int .i64 a2)) (fun _ hk => hk.2) (.string ((⟨#[113]⟩ : ByteArray) ++ t246))) (fun _ hk => hk.2) (.slice Ao123 x249003_1.length co123)) (fun _ hk => hk.2) (.slice Ao116 y298.length co116)) (fun _ hk => trivial), by (with_reducible repeat (first | apply Kd.R_alloc | apply Kd.R_drewN | apply Kd.R_drew)); exact Kd.R_mono (Kd.R_far (p := ⟨gb245, 4, none⟩) (Kd.R_far (p := ⟨gb245, 3, none⟩) (Kd.R_far (p := ⟨gb245, 2, none⟩) (Kd.R_far (p := ⟨gb245, 1, none⟩) (Kd.R_far (p := ⟨gb245, 0, none⟩) (Kd.R_far (p := ⟨gb248, 4, none⟩) (Kd.R_types (Kd.R_types HO300.out BK248.out (by decide)) BK245.out (by decide)) (fun _ hk => hk.1.2) (.slice Ao116 y298.length co116)) (fun _ hk => hk.2) (.int .i64 a1)) (fun _ hk => hk.2) (.int .i64 a2)) (fun _ hk => hk.2) (.string ((⟨#[113]⟩ : ByteArray) ++ t246))) (fun _ hk => hk.2) (.slice Ao123 x249003_1.length co123)) (fun _ hk => hk.2) (.slice Ao116 y298.length co116)) (fun _ hk => trivial), by repeat (first | (with_reducible first | exact HI0.out | apply IsS54.alloc | apply IsS54.drewN | apply IsS54.drew | apply IsS54.set_1 | refine IsS54.far ?_ NB0_245.out _ | refine IsS54.far ?_ NB0_248.out _) | exact HI0.out), zm HB, by repeat (first | (with_reducible first | exact HK.out | apply KeepBut.set_ | apply keep_drewN | apply keep_drew | apply keep_alloc | refine keep_far ?_ GW245.out _ | refine keep_far ?_ GW248.out _) | exact HK.out)⟩
                 ·rw [if_neg c108] at H
                  exact absurd H (by simp)
                ·rw [if_neg c106] at H
                 have c106b0 : (t268 == 5) = false := beq_eq_false_iff_ne.mpr c106
                 have c106b1 : (t268 != 5) = true := bne_iff_ne.mpr c106
                 by_cases c124 : 0 < (x249003_1.length : Int)
                 ·rw [if_pos c124] at H
                  have c124b0 : decide (0 < (x249003_1.length : Int)) = true := decide_eq_true c124
                  have c124b1 : decide (0 < x249003_1.length) = true := decide_eq_true (by omega)
                  clear c124
                  obtain ⟨y307, hy307⟩ : ∃ y_ : List (S23), y_ = (([(⟨(rd_T23 x249003_1 0).f0, (rd_T23 x249003_1 0).f1, (rd_T23 x249003_1 0).f2, (rd_T23 x249003_1 0).f3, (rd_T23 x249003_1 0).f4, (rd_T23 x249003_1 0).f5⟩ : S23), (⟨(rd_T23 x249003_1 0).f0, (rd_T23 x249003_1 0).f1, (rd_T23 x249003_1 0).f2, (rd_T23 x249003_1 0).f3, (rd_T23 x249003_1 0).f4, (rd_T23 x249003_1 0).f5⟩ : S23), (⟨(rd_T23 x249003_1 0).f0, (rd_T23 x249003_1 0).f1, (rd_T23 x249003_1 0).f2, (rd_T23 x249003_1 0).f3, (rd_T23 x249003_1 0).f4, (rd_T23 x249003_1 0).f5⟩ : S23), (⟨(rd_T23 x249003_1 0).f0, (rd_T23 x249003_1 0).f1, (rd_T23 x249003_1 0).f2, (rd_T23 x249003_1 0).f3, (rd_T23 x249003_1 0).f4, (rd_T23 x249003_1 0).f5⟩ : S23), (⟨(rd_T23 x249003_1 0).f0, (rd_T23 x249003_1 0).f1, (rd_T23 x249003_1 0).f2, (rd_T23 x249003_1 0).f3, (rd_T23 x249003_1 0).f4, (rd_T23 x249003_1 0).f5⟩ : S23), (⟨(rd_T23 x249003_1 0).f0, (rd_T23 x249003_1 0).f1, (rd_T23 x249003_1 0).f2, (rd_T23 x249003_1 0).f3, (rd_T23 x249003_1 0).f4, (rd_T23 x249003_1 0).f5⟩ : S23)] : List (S23))) := ⟨_, rfl⟩
                  replace H : (if x249003_1.length + y307.length < 2932031007402 then (some (a1, a2, ((⟨#[113]⟩ : ByteArray) ++ t246), (x249003_1 ++ y307), x249004_2, t269)) else (none)) = some (r1, r2, r3, r4, r5, r6) := by first | (rw [hy307]; with_reducible exact H) | (have H2_ := (Option.bind_some _ _).symm.trans H; rw [hy307]; with_reducible exact H2_) | (have H2_ := (Option.bind_some _ _).symm.trans H; with_reducible exact H2_) | with_reducible exact H | (rw [hy307]; exact H) | exact H
                  have Ny307 := za hy307
                  clear hy307
                  by_cases c125 : x249003_1.length + y307.length < 2932031007402
                  ·rw [if_pos c125] at H
                   have LMc125 := za c125
                   clear c125
                   obtain ⟨y310, hy310⟩ : ∃ y_ : List (S23), y_ = (x249003_1 ++ y307) := ⟨_, rfl⟩
                   replace H : (some (a1, a2, ((⟨#[113]⟩ : ByteArray) ++ t246), y310, x249004_2, t269)) = some (r1, r2, r3, r4, r5, r6) := by first | (rw [hy310]; with_reducible exact H) | (have H2_ := (Option.bind_some _ _).symm.trans H; rw [hy310]; with_reducible exact H2_) | (have H2_ := (Option.bind_some _ _).symm.trans H; with_reducible exact H2_) | with_reducible exact H | (rw [hy310]; exact H) | exact H
                   have Ny310 := za hy310
                   clear hy310
                   simp only [Option.some.injEq, Prod.mk.injEq] at H
                   obtain ⟨rfl, rfl, rfl, rfl, rfl, rfl⟩ := H
                   try go_wp2_with (first | ((with_reducible refine gate_callee (f := 17) rfl ?_); refine zL (some 56) Try.func17 #[.pointer (some ⟨g, 0, none⟩), .int .i64 7] ?_; (with_reducible refine (awardingbodymake_Tape_Next.calls g s0_0 x1001_35 7 t268 t269 w0 _ ?side1 ?side2 A41.out).mono ?_); (case side1 => exact (by repeat (first | (with_reducible first | exact HI0.out | apply IsS54.alloc | apply IsS54.drewN | apply IsS54.drew | apply IsS54.set_1 | refine IsS54.far ?_ NB0_245.out _ | refine IsS54.far ?_ NB0_248.out _) | exact HI0.out))); (case side2 => exact (by repeat (first | (with_reducible first | exact HB.out | apply below_alloc | apply pw_below_drewN | apply below_drew1 | refine below_set ?_ (IsS54.ge HI0.out) | refine below_set ?_ GE245.out | refine below_set ?_ GE248.out) | exact HB.out))); rintro e w126 ⟨rfl, hi, hb, hk⟩; refine ⟨_, rfl, ?_⟩; replace HO_249003 := za (Kd.R_mono (Kd.R_keep (IsS54.apart (show IsS54 w0 _ g s0_0 x1001_35 from by repeat (first | (with_reducible first | exact HI0.out | apply IsS54.alloc | apply IsS54.drewN | apply IsS54.drew | apply IsS54.set_1 | refine IsS54.far ?_ NB0_245.out _ | refine IsS54.far ?_ NB0_248.out _) | exact HI0.out)) (by (with_reducible repeat (first | apply Kd.R_alloc | apply Kd.R_drewN | apply Kd.R_drew)); exact HO_249003.out) (by decide)) hk (fun _ h => h.2)) (fun _ h => h.1)); replace HO_249004 := za (Kd.R_mono (Kd.R_keep (IsS54.apart (show IsS54 w0 _ g s0_0 x1001_35 from by repeat (first | (with_reducible first | exact HI0.out | apply IsS54.alloc | apply IsS54.drewN | apply IsS54.drew | apply IsS54.set_1 | refine IsS54.far ?_ NB0_245.out _ | refine IsS54.far ?_ NB0_248.out _) | exact HI0.out)) (by (with_reducible repeat (first | apply Kd.R_alloc | apply Kd.R_drewN | apply Kd.R_drew)); exact HO_249004.out) (by decide)) hk (fun _ h => h.2)) (fun _ h => h.1)); replace BK245 := zk hk BK245 NB245_0; replace BK248 := zk hk BK248 NB248_0; replace HK := zt HK hk; replace HB := za (hb); replace HI0 := za (hi); (try clear hb); (try clear hb2); (try clear hk); (try clear hi)))
                   replace HO_249003 := za (Kd.R_drew HO_249003.out)
                   replace HO_249004 := za (Kd.R_drew HO_249004.out)
                   replace BK245 := za (blk_drew BK245.out)
                   replace BK248 := za (blk_drew BK248.out)
                   replace HI0 := za (IsS54.drew HI0.out)
                   replace HK := za (keep_drew HK.out)
                   replace HB := za (below_drew1 HB.out)
                   obtain ⟨Ao128, co128, eo128⟩ := Kd.R_slice HO_249003.out
                   (first | subst eo128 | (injection eo128 with f1_ f2_ f3_; have f4_ := f1_.symm; have f5_ := f3_.symm; clear f1_ f2_ f3_; subst f4_; subst f5_))
                   have p301 : 0 ≤ (0 : Int) := (by omega)
                   have q301 : 0 < (x249003_1.length : Int) := of_decide_eq_true (by first | (with_reducible assumption) | assumption)
                   obtain ⟨ad301, e301, hx301_0, hx301_1, hx301_2, hx301_3, hx301_4, hx301_5⟩ := at_T23 (Kd.R_reads' HO_249003.out).2.2 0 p301 q301
                   cases e301
                   have qi301 : (0 < x249003_1.length) = True := eq_true (by omega)
                   (try rw [show ((0 : Int)).toNat = 0 from rfl] at hx301_0)
                   (try rw [show 0 * 6 = 0 from rfl] at hx301_0)
                   (try rw [Addr.add_zero'] at hx301_0)
                   (try rw [show ((0 : Int)).toNat = 0 from rfl] at hx301_1)
                   (try rw [show 0 * 6 = 0 from rfl] at hx301_1)
                   (try rw [Addr.add_zero'] at hx301_1)
                   (try rw [show ((0 : Int)).toNat = 0 from rfl] at hx301_2)
                   (try rw [show 0 * 6 = 0 from rfl] at hx301_2)
                   (try rw [Addr.add_zero'] at hx301_2)
                   (try rw [show ((0 : Int)).toNat = 0 from rfl] at hx301_3)
                   (try rw [show 0 * 6 = 0 from rfl] at hx301_3)
                   (try rw [Addr.add_zero'] at hx301_3)
                   (try rw [show ((0 : Int)).toNat = 0 from rfl] at hx301_4)
                   (try rw [show 0 * 6 = 0 from rfl] at hx301_4)
                   (try rw [Addr.add_zero'] at hx301_4)
                   (try rw [show ((0 : Int)).toNat = 0 from rfl] at hx301_5)
                   (try rw [show 0 * 6 = 0 from rfl] at hx301_5)
                   (try rw [Addr.add_zero'] at hx301_5)
                   replace p301 := eq_true p301
                   replace q301 := eq_true q301
                   have p302 : 0 ≤ (0 : Int) := (by omega)
                   have q302 : 0 < (x249003_1.length : Int) := of_decide_eq_true (by first | (with_reducible assumption) | assumption)
                   obtain ⟨ad302, e302, hx302_0, hx302_1, hx302_2, hx302_3, hx302_4, hx302_5⟩ := at_T23 (Kd.R_reads' HO_249003.out).2.2 0 p302 q302
                   obtain rfl : ad301 = ad302 := (by injection e302)
                   have qi302 : (0 < x249003_1.length) = True := eq_true (by omega)
                   (try rw [show ((0 : Int)).toNat = 0 from rfl] at hx302_0)
                   (try rw [show 0 * 6 = 0 from rfl] at hx302_0)
                   (try rw [Addr.add_zero'] at hx302_0)
                   (try rw [show ((0 : Int)).toNat = 0 from rfl] at hx302_1)
                   (try rw [show 0 * 6 = 0 from rfl] at hx302_1)
                   (try rw [Addr.add_zero'] at hx302_1)
                   (try rw [show ((0 : Int)).toNat = 0 from rfl] at hx302_2)
                   (try rw [show 0 * 6 = 0 from rfl] at hx302_2)
                   (try rw [Addr.add_zero'] at hx302_2)
                   (try rw [show ((0 : Int)).toNat = 0 from rfl] at hx302_3)
                   (try rw [show 0 * 6 = 0 from rfl] at hx302_3)
                   (try rw [Addr.add_zero'] at hx302_3)
                   (try rw [show ((0 : Int)).toNat = 0 from rfl] at hx302_4)
                   (try rw [show 0 * 6 = 0 from rfl] at hx302_4)
                   (try rw [Addr.add_zero'] at hx302_4)
                   (try rw [show ((0 : Int)).toNat = 0 from rfl] at hx302_5)
                   (try rw [show 0 * 6 = 0 from rfl] at hx302_5)
                   (try rw [Addr.add_zero'] at hx302_5)
                   replace p302 := eq_true p302
                   replace q302 := eq_true q302
                   have p303 : 0 ≤ (0 : Int) := (by omega)
                   have q303 : 0 < (x249003_1.length : Int) := of_decide_eq_true (by first | (with_reducible assumption) | assumption)
                   obtain ⟨ad303, e303, hx303_0, hx303_1, hx303_2, hx303_3, hx303_4, hx303_5⟩ := at_T23 (Kd.R_reads' HO_249003.out).2.2 0 p303 q303
                   obtain rfl : ad301 = ad303 := (by injection e303)
                   have qi303 : (0 < x249003_1.length) = True := eq_true (by omega)
                   (try rw [show ((0 : Int)).toNat = 0 from rfl] at hx303_0)
                   (try rw [show 0 * 6 = 0 from rfl] at hx303_0)
                   (try rw [Addr.add_zero'] at hx303_0)
                   (try rw [show ((0 : Int)).toNat = 0 from rfl] at hx303_1)
                   (try rw [show 0 * 6 = 0 from rfl] at hx303_1)
                   (try rw [Addr.add_zero'] at hx303_1)
                   (try rw [show ((0 : Int)).toNat = 0 from rfl] at hx303_2)
                   (try rw [show 0 * 6 = 0 from rfl] at hx303_2)
                   (try rw [Addr.add_zero'] at hx303_2)
                   (try rw [show ((0 : Int)).toNat = 0 from rfl] at hx303_3)
                   (try rw [show 0 * 6 = 0 from rfl] at hx303_3)
                   (try rw [Addr.add_zero'] at hx303_3)
                   (try rw [show ((0 : Int)).toNat = 0 from rfl] at hx303_4)
                   (try rw [show 0 * 6 = 0 from rfl] at hx303_4)
                   (try rw [Addr.add_zero'] at hx303_4)
                   (try rw [show ((0 : Int)).toNat = 0 from rfl] at hx303_5)
                   (try rw [show 0 * 6 = 0 from rfl] at hx303_5)
                   (try rw [Addr.add_zero'] at hx303_5)
                   replace p303 := eq_true p303
                   replace q303 := eq_true q303
                   have p304 : 0 ≤ (0 : Int) := (by omega)
                   have q304 : 0 < (x249003_1.length : Int) := of_decide_eq_true (by first | (with_reducible assumption) | assumption)
                   obtain ⟨ad304, e304, hx304_0, hx304_1, hx304_2, hx304_3, hx304_4, hx304_5⟩ := at_T23 (Kd.R_reads' HO_249003.out).2.2 0 p304 q304
                   obtain rfl : ad301 = ad304 := (by injection e304)
                   have qi304 : (0 < x249003_1.length) = True := eq_true (by omega)
                   (try rw [show ((0 : Int)).toNat = 0 from rfl] at hx304_0)
                   (try rw [show 0 * 6 = 0 from rfl] at hx304_0)
                   (try rw [Addr.add_zero'] at hx304_0)
                   (try rw [show ((0 : Int)).toNat = 0 from rfl] at hx304_1)
                   (try rw [show 0 * 6 = 0 from rfl] at hx304_1)
                   (try rw [Addr.add_zero'] at hx304_1)
                   (try rw [show ((0 : Int)).toNat = 0 from rfl] at hx304_2)
                   (try rw [show 0 * 6 = 0 from rfl] at hx304_2)
                   (try rw [Addr.add_zero'] at hx304_2)
                   (try rw [show ((0 : Int)).toNat = 0 from rfl] at hx304_3)
                   (try rw [show 0 * 6 = 0 from rfl] at hx304_3)
                   (try rw [Addr.add_zero'] at hx304_3)
                   (try rw [show ((0 : Int)).toNat = 0 from rfl] at hx304_4)
                   (try rw [show 0 * 6 = 0 from rfl] at hx304_4)
                   (try rw [Addr.add_zero'] at hx304_4)
                   (try rw [show ((0 : Int)).toNat = 0 from rfl] at hx304_5)
                   (try rw [show 0 * 6 = 0 from rfl] at hx304_5)
                   (try rw [Addr.add_zero'] at hx304_5)
                   replace p304 := eq_true p304
                   replace q304 := eq_true q304
                   have p305 : 0 ≤ (0 : Int) := (by omega)
                   have q305 : 0 < (x249003_1.length : Int) := of_decide_eq_true (by first | (with_reducible assumption) | assumption)
                   obtain ⟨ad305, e305, hx305_0, hx305_1, hx305_2, hx305_3, hx305_4, hx305_5⟩ := at_T23 (Kd.R_reads' HO_249003.out).2.2 0 p305 q305
                   obtain rfl : ad301 = ad305 := (by injection e305)
                   have qi305 : (0 < x249003_1.length) = True := eq_true (by omega)
                   (try rw [show ((0 : Int)).toNat = 0 from rfl] at hx305_0)
                   (try rw [show 0 * 6 = 0 from rfl] at hx305_0)
                   (try rw [Addr.add_zero'] at hx305_0)
                   (try rw [show ((0 : Int)).toNat = 0 from rfl] at hx305_1)
                   (try rw [show 0 * 6 = 0 from rfl] at hx305_1)
                   (try rw [Addr.add_zero'] at hx305_1)
                   (try rw [show ((0 : Int)).toNat = 0 from rfl] at hx305_2)
                   (try rw [show 0 * 6 = 0 from rfl] at hx305_2)
                   (try rw [Addr.add_zero'] at hx305_2)
                   (try rw [show ((0 : Int)).toNat = 0 from rfl] at hx305_3)
                   (try rw [show 0 * 6 = 0 from rfl] at hx305_3)
                   (try rw [Addr.add_zero'] at hx305_3)
                   (try rw [show ((0 : Int)).toNat = 0 from rfl] at hx305_4)
                   (try rw [show 0 * 6 = 0 from rfl] at hx305_4)
                   (try rw [Addr.add_zero'] at hx305_4)
                   (try rw [show ((0 : Int)).toNat = 0 from rfl] at hx305_5)
                   (try rw [show 0 * 6 = 0 from rfl] at hx305_5)
                   (try rw [Addr.add_zero'] at hx305_5)
                   replace p305 := eq_true p305
                   replace q305 := eq_true q305
                   have p306 : 0 ≤ (0 : Int) := (by omega)
                   have q306 : 0 < (x249003_1.length : Int) := of_decide_eq_true (by first | (with_reducible assumption) | assumption)
                   obtain ⟨ad306, e306, hx306_0, hx306_1, hx306_2, hx306_3, hx306_4, hx306_5⟩ := at_T23 (Kd.R_reads' HO_249003.out).2.2 0 p306 q306
                   obtain rfl : ad301 = ad306 := (by injection e306)
                   have qi306 : (0 < x249003_1.length) = True := eq_true (by omega)
                   (try rw [show ((0 : Int)).toNat = 0 from rfl] at hx306_0)
                   (try rw [show 0 * 6 = 0 from rfl] at hx306_0)
                   (try rw [Addr.add_zero'] at hx306_0)
                   (try rw [show ((0 : Int)).toNat = 0 from rfl] at hx306_1)
                   (try rw [show 0 * 6 = 0 from rfl] at hx306_1)
                   (try rw [Addr.add_zero'] at hx306_1)
                   (try rw [show ((0 : Int)).toNat = 0 from rfl] at hx306_2)
                   (try rw [show 0 * 6 = 0 from rfl] at hx306_2)
                   (try rw [Addr.add_zero'] at hx306_2)
                   (try rw [show ((0 : Int)).toNat = 0 from rfl] at hx306_3)
                   (try rw [show 0 * 6 = 0 from rfl] at hx306_3)
                   (try rw [Addr.add_zero'] at hx306_3)
                   (try rw [show ((0 : Int)).toNat = 0 from rfl] at hx306_4)
                   (try rw [show 0 * 6 = 0 from rfl] at hx306_4)
                   (try rw [Addr.add_zero'] at hx306_4)
                   (try rw [show ((0 : Int)).toNat = 0 from rfl] at hx306_5)
                   (try rw [show 0 * 6 = 0 from rfl] at hx306_5)
                   (try rw [Addr.add_zero'] at hx306_5)
                   replace p306 := eq_true p306
                   replace q306 := eq_true q306
                   refine start_ (n := 30) (S := fun w' => w'.cell? ⟨gb248, 0, none⟩ = some (.int .i64 a1) ∧ w'.cell? ⟨gb248, 1, none⟩ = some (.int .i64 a2) ∧ w'.cell? ⟨gb248, 2, none⟩ = some (.string ((⟨#[113]⟩ : ByteArray) ++ t246)) ∧ w'.cell? ⟨gb248, 3, none⟩ = some (.slice (some ad301) x249003_1.length co128) ∧ w'.cell? ⟨gb248, 4, none⟩ = some (u249004) ∧ w'.cell? ad301 = some (.int .i64 ((rd_T23 x249003_1 0).f0)) ∧ w'.cell? ⟨ad301.block, ad301.off + 1, none⟩ = some (.int .i64 ((rd_T23 x249003_1 0).f1)) ∧ w'.cell? ⟨ad301.block, ad301.off + 2, none⟩ = some (.int .i64 ((rd_T23 x249003_1 0).f2)) ∧ w'.cell? ⟨ad301.block, ad301.off + 3, none⟩ = some (.int .i64 ((rd_T23 x249003_1 0).f3)) ∧ w'.cell? ⟨ad301.block, ad301.off + 4, none⟩ = some (.int .i64 ((rd_T23 x249003_1 0).f4)) ∧ w'.cell? ⟨ad301.block, ad301.off + 5, none⟩ = some (.int .i64 ((rd_T23 x249003_1 0).f5)) ∧ w'.cell? ad301 = some (.int .i64 ((rd_T23 x249003_1 0).f0)) ∧ w'.cell? ⟨ad301.block, ad301.off + 1, none⟩ = some (.int .i64 ((rd_T23 x249003_1 0).f1)) ∧ w'.cell? ⟨ad301.block, ad301.off + 2, none⟩ = some (.int .i64 ((rd_T23 x249003_1 0).f2)) ∧ w'.cell? ⟨ad301.block, ad301.off + 3, none⟩ = some (.int .i64 ((rd_T23 x249003_1 0).f3)) ∧ w'.cell? ⟨ad301.block, ad301.off + 4, none⟩ = some (.int .i64 ((rd_T23 x249003_1 0).f4)) ∧ w'.cell? ⟨ad301.block, ad301.off + 5, none⟩ = some (.int .i64 ((rd_T23 x249003_1 0).f5)) ∧ w'.cell? ad301 = some (.int .i64 ((rd_T23 x249003_1 0).f0)) ∧ w'.cell? ⟨ad301.block, ad301.off + 1, none⟩ = some (.int .i64 ((rd_T23 x249003_1 0).f1)) ∧ w'.cell? ⟨ad301.block, ad301.off + 2, none⟩ = some (.int .i64 ((rd_T23 x249003_1 0).f2)) ∧ w'.cell? ⟨ad301.block, ad301.off + 3, none⟩ = some (.int .i64 ((rd_T23 x249003_1 0).f3)) ∧ w'.cell? ⟨ad301.block, ad301.off + 4, none⟩ = some (.int .i64 ((rd_T23 x249003_1 0).f4)) ∧ w'.cell? ⟨ad301.block, ad301.off + 5, none⟩ = some (.int .i64 ((rd_T23 x249003_1 0).f5)) ∧ w'.cell? ad301 = some (.int .i64 ((rd_T23 x249003_1 0).f0)) ∧ w'.cell? ⟨ad301.block, ad301.off + 1, none⟩ = some (.int .i64 ((rd_T23 x249003_1 0).f1)) ∧ w'.cell? ⟨ad301.block, ad301.off + 2, none⟩ = some (.int .i64 ((rd_T23 x249003_1 0).f2)) ∧ w'.cell? ⟨ad301.block, ad301.off + 3, none⟩ = some (.int .i64 ((rd_T23 x249003_1 0).f3)) ∧ w'.cell? ⟨ad301.block, ad301.off + 4, none⟩ = some (.int .i64 ((rd_T23 x249003_1 0).f4)) ∧ w'.cell? ⟨ad301.block, ad301.off + 5, none⟩ = some (.int .i64 ((rd_T23 x249003_1 0).f5)) ∧ w'.cell? ad301 = some (.int .i64 ((rd_T23 x249003_1 0).f0)) ∧ w'.cell? ⟨ad301.block, ad301.off + 1, none⟩ = some (.int .i64 ((rd_T23 x249003_1 0).f1)) ∧ w'.cell? ⟨ad301.block, ad301.off + 2, none⟩ = some (.int .i64 ((rd_T23 x249003_1 0).f2)) ∧ w'.cell? ⟨ad301.block, ad301.off + 3, none⟩ = some (.int .i64 ((rd_T23 x249003_1 0).f3)) ∧ w'.cell? ⟨ad301.block, ad301.off + 4, none⟩ = some (.int .i64 ((rd_T23 x249003_1 0).f4)) ∧ w'.cell? ⟨ad301.block, ad301.off + 5, none⟩ = some (.int .i64 ((rd_T23 x249003_1 0).f5)) ∧ w'.cell? ad301 = some (.int .i64 ((rd_T23 x249003_1 0).f0)) ∧ w'.cell? ⟨ad301.block, ad301.off + 1, none⟩ = some (.int .i64 ((rd_T23 x249003_1 0).f1)) ∧ w'.cell? ⟨ad301.block, ad301.off + 2, none⟩ = some (.int .i64 ((rd_T23 x249003_1 0).f2)) ∧ w'.cell? ⟨ad301.block, ad301.off + 3, none⟩ = some (.int .i64 ((rd_T23 x249003_1 0).f3)) ∧ w'.cell? ⟨ad301.block, ad301.off + 4, none⟩ = some (.int .i64 ((rd_T23 x249003_1 0).f4)) ∧ w'.cell? ⟨ad301.block, ad301.off + 5, none⟩ = some (.int .i64 ((rd_T23 x249003_1 0).f5))) (ds := [27, 29]) #[false, false, false, false, false, false, false, false, false, false, false, false, false, false, false, false, false, false, false, false, false, false, false, false, false, false, false, false, false, false] (by kernel_rfl) rfl rfl ⟨(blk_cell BK248.out 0).trans rfl, (blk_cell BK248.out 1).trans rfl, (blk_cell BK248.out 2).trans rfl, (blk_cell BK248.out 3).trans rfl, (blk_cell BK248.out 4).trans rfl, hx301_0, hx301_1, hx301_2, hx301_3, hx301_4, hx301_5, hx302_0, hx302_1, hx302_2, hx302_3, hx302_4, hx302_5, hx303_0, hx303_1, hx303_2, hx303_3, hx303_4, hx303_5, hx304_0, hx304_1, hx304_2, hx304_3, hx304_4, hx304_5, hx305_0, hx305_1, hx305_2, hx305_3, hx305_4, hx305_5, hx306_0, hx306_1, hx306_2, hx306_3, hx306_4, hx306_5⟩ (fun hHeld => ?_); refine with_tabW awardingbodymake_Tape_Item.tab13 awardingbodymake_Tape_Item.bits13 (fun HT_ HW_ => ?_)
                   generalize w126.drew = w127 at HO_249003 HO_249004 BK245 BK248 HI0 HK HB hx301_0 hx301_1 hx301_2 hx301_3 hx301_4 hx301_5 hx302_0 hx302_1 hx302_2 hx302_3 hx302_4 hx302_5 hx303_0 hx303_1 hx303_2 hx303_3 hx303_4 hx303_5 hx304_0 hx304_1 hx304_2 hx304_3 hx304_4 hx304_5 hx305_0 hx305_1 hx305_2 hx305_3 hx305_4 hx305_5 hx306_0 hx306_1 hx306_2 hx306_3 hx306_4 hx306_5 hHeld ⊢
                   refine pure_ (i := 0) (N := some 57) (v := ?_) (a' := ?_) #[true, false, false, false, false, false, false, false, false, false, false, false, false, false, false, false, false, false, false, false, false, false, false, false, false, false, false, false, false, false] rfl rfl (any_of HT_.out (by kernel_rfl)) (fun _ _ _ h => h) (Or.inl ⟨by rfl, ?_⟩) ?_ ?_
                   rotate_left
                   ·intro w'
                    go_simp
                    with_reducible rfl
                   rotate_left
                   ·simp only [Act.put, List.setIfInBounds_toArray, List.set_cons_zero, List.set_cons_succ, i64_w, i32_w]
                    rfl
                   refine pure_ (i := 2) (N := some 59) (v := ?_) (a' := ?_) #[true, false, true, false, false, false, false, false, false, false, false, false, false, false, false, false, false, false, false, false, false, false, false, false, false, false, false, false, false, false] rfl rfl (any_of HT_.out (by kernel_rfl)) (fun _ _ _ h => h) (Or.inl ⟨by rfl, ?_⟩) ?_ ?_
                   rotate_left
                   ·intro w'
                    go_simp
                    with_reducible rfl
                   rotate_left
                   ·simp only [Act.put, List.setIfInBounds_toArray, List.set_cons_zero, List.set_cons_succ, i64_w, i32_w]
                    rfl
                   refine pure_ (i := 6) (N := some 63) (v := ?_) (a' := ?_) #[true, false, true, false, false, false, true, false, false, false, false, false, false, false, false, false, false, false, false, false, false, false, false, false, false, false, false, false, false, false] rfl rfl (any_of HT_.out (by kernel_rfl)) (fun _ _ _ h => h) (Or.inl ⟨by rfl, ?_⟩) ?_ ?_
                   rotate_left
                   ·intro w'
                    go_simp
                    with_reducible rfl
                   rotate_left
                   ·simp only [Act.put, List.setIfInBounds_toArray, List.set_cons_zero, List.set_cons_succ, i64_w, i32_w]
                    rfl
                   refine pure_ (i := 10) (N := some 67) (v := ?_) (a' := ?_) #[true, false, true, false, false, false, true, false, false, false, true, false, false, false, false, false, false, false, false, false, false, false, false, false, false, false, false, false, false, false] rfl rfl (any_of HT_.out (by kernel_rfl)) (fun _ _ _ h => h) (Or.inl ⟨by rfl, ?_⟩) ?_ ?_
                   rotate_left
                   ·intro w'
                    go_simp
                    with_reducible rfl
                   rotate_left
                   ·simp only [Act.put, List.setIfInBounds_toArray, List.set_cons_zero, List.set_cons_succ, i64_w, i32_w]
                    rfl
                   refine pure_ (i := 14) (N := some 71) (v := ?_) (a' := ?_) #[true, false, true, false, false, false, true, false, false, false, true, false, false, false, true, false, false, false, false, false, false, false, false, false, false, false, false, false, false, false] rfl rfl (any_of HT_.out (by kernel_rfl)) (fun _ _ _ h => h) (Or.inl ⟨by rfl, ?_⟩) ?_ ?_
                   rotate_left
                   ·intro w'
                    go_simp
                    with_reducible rfl
                   rotate_left
                   ·simp only [Act.put, List.setIfInBounds_toArray, List.set_cons_zero, List.set_cons_succ, i64_w, i32_w]
                    rfl
                   refine pure_ (i := 18) (N := some 75) (v := ?_) (a' := ?_) #[true, false, true, false, false, false, true, false, false, false, true, false, false, false, true, false, false, false, true, false, false, false, false, false, false, false, false, false, false, false] rfl rfl (any_of HT_.out (by kernel_rfl)) (fun _ _ _ h => h) (Or.inl ⟨by rfl, ?_⟩) ?_ ?_
                   rotate_left
                   ·intro w'
                    go_simp
                    with_reducible rfl
                   rotate_left
                   ·simp only [Act.put, List.setIfInBounds_toArray, List.set_cons_zero, List.set_cons_succ, i64_w, i32_w]
                    rfl
                   refine pure_ (i := 22) (N := some 79) (v := ?_) (a' := ?_) #[true, false, true, false, false, false, true, false, false, false, true, false, false, false, true, false, false, false, true, false, false, false, true, false, false, false, false, false, false, false] rfl rfl (any_of HT_.out (by kernel_rfl)) (fun _ _ _ h => h) (Or.inl ⟨by rfl, ?_⟩) ?_ ?_
                   rotate_left
                   ·intro w'
                    go_simp
                    with_reducible rfl
                   rotate_left
                   ·simp only [Act.put, List.setIfInBounds_toArray, List.set_cons_zero, List.set_cons_succ, i64_w, i32_w]
                    rfl
                   refine take_ (i := 1) (N := some 58) (v := ?_) (a' := ?_) #[true, true, true, false, false, false, true, false, false, false, true, false, false, false, true, false, false, false, true, false, false, false, true, false, false, false, false, false, false, false] rfl rfl (take_ofW HT_.out HW_.out (by kernel_rfl)) (fun _ _ _ h => h) (Or.inl ⟨by rfl, ?_⟩) hHeld ?_ ?_
                   rotate_left
                   ·rintro w' ⟨s0, s1, s2, s3, s4, s5, s6, s7, s8, s9, s10, s11, s12, s13, s14, s15, s16, s17, s18, s19, s20, s21, s22, s23, s24, s25, s26, s27, s28, s29, s30, s31, s32, s33, s34, s35, s36, s37, s38, s39, s40⟩
                    go_simp
                    with_reducible rfl
                   rotate_left
                   ·simp only [Act.put, List.setIfInBounds_toArray, List.set_cons_zero, List.set_cons_succ, i64_w, i32_w]
                    rfl
                   refine take_ (i := 3) (N := some 60) (v := ?_) (a' := ?_) #[true, true, true, true, false, false, true, false, false, false, true, false, false, false, true, false, false, false, true, false, false, false, true, false, false, false, false, false, false, false] rfl rfl (take_ofW HT_.out HW_.out (by kernel_rfl)) (fun _ _ _ h => h) (Or.inl ⟨by rfl, ?_⟩) hHeld ?_ ?_
                   rotate_left
                   ·rintro w' ⟨s0, s1, s2, s3, s4, s5, s6, s7, s8, s9, s10, s11, s12, s13, s14, s15, s16, s17, s18, s19, s20, s21, s22, s23, s24, s25, s26, s27, s28, s29, s30, s31, s32, s33, s34, s35, s36, s37, s38, s39, s40⟩
                    go_simp
                    with_reducible rfl
                   rotate_left
                   ·simp only [Act.put, List.setIfInBounds_toArray, List.set_cons_zero, List.set_cons_succ, i64_w, i32_w]
                    rfl
                   refine pure_ (i := 4) (N := some 61) (v := ?_) (a' := ?_) #[true, true, true, true, true, false, true, false, false, false, true, false, false, false, true, false, false, false, true, false, false, false, true, false, false, false, false, false, false, false] rfl rfl (any_of HT_.out (by kernel_rfl)) (fun _ _ _ h => h) (Or.inl ⟨by rfl, ?_⟩) ?_ ?_
                   rotate_left
                   ·intro w'
                    go_simp
                    with_reducible rfl
                   rotate_left
                   ·simp only [Act.put, List.setIfInBounds_toArray, List.set_cons_zero, List.set_cons_succ, i64_w, i32_w]
                    rfl
                   refine take_ (i := 5) (N := some 62) (v := ?_) (a' := ?_) #[true, true, true, true, true, true, true, false, false, false, true, false, false, false, true, false, false, false, true, false, false, false, true, false, false, false, false, false, false, false] rfl rfl (take_ofW HT_.out HW_.out (by kernel_rfl)) (fun _ _ _ h => h) (Or.inl ⟨by rfl, ?_⟩) hHeld ?_ ?_
                   rotate_left
                   ·rintro w' ⟨s0, s1, s2, s3, s4, s5, s6, s7, s8, s9, s10, s11, s12, s13, s14, s15, s16, s17, s18, s19, s20, s21, s22, s23, s24, s25, s26, s27, s28, s29, s30, s31, s32, s33, s34, s35, s36, s37, s38, s39, s40⟩
                    go_simp
                    with_reducible rfl
                   rotate_left
                   ·simp only [Act.put, List.setIfInBounds_toArray, List.set_cons_zero, List.set_cons_succ, i64_w, i32_w]
                    rfl
                   refine take_ (i := 7) (N := some 64) (v := ?_) (a' := ?_) #[true, true, true, true, true, true, true, true, false, false, true, false, false, false, true, false, false, false, true, false, false, false, true, false, false, false, false, false, false, false] rfl rfl (take_ofW HT_.out HW_.out (by kernel_rfl)) (fun _ _ _ h => h) (Or.inl ⟨by rfl, ?_⟩) hHeld ?_ ?_
                   rotate_left
                   ·rintro w' ⟨s0, s1, s2, s3, s4, s5, s6, s7, s8, s9, s10, s11, s12, s13, s14, s15, s16, s17, s18, s19, s20, s21, s22, s23, s24, s25, s26, s27, s28, s29, s30, s31, s32, s33, s34, s35, s36, s37, s38, s39, s40⟩
                    go_simp
                    with_reducible rfl
                   rotate_left
                   ·simp only [Act.put, List.setIfInBounds_toArray, List.set_cons_zero, List.set_cons_succ, i64_w, i32_w]
                    rfl
                   refine pure_ (i := 8) (N := some 65) (v := ?_) (a' := ?_) #[true, true, true, true, true, true, true, true, true, false, true, false, false, false, true, false, false, false, true, false, false, false, true, false, false, false, false, false, false, false] rfl rfl (any_of HT_.out (by kernel_rfl)) (fun _ _ _ h => h) (Or.inl ⟨by rfl, ?_⟩) ?_ ?_
                   rotate_left
                   ·intro w'
                    go_simp
                    with_reducible rfl
                   rotate_left
                   ·simp only [Act.put, List.setIfInBounds_toArray, List.set_cons_zero, List.set_cons_succ, i64_w, i32_w]
                    rfl
                   refine take_ (i := 9) (N := some 66) (v := ?_) (a' := ?_) #[true, true, true, true, true, true, true, true, true, true, true, false, false, false, true, false, false, false, true, false, false, false, true, false, false, false, false, false, false, false] rfl rfl (take_ofW HT_.out HW_.out (by kernel_rfl)) (fun _ _ _ h => h) (Or.inl ⟨by rfl, ?_⟩) hHeld ?_ ?_
                   rotate_left
                   ·rintro w' ⟨s0, s1, s2, s3, s4, s5, s6, s7, s8, s9, s10, s11, s12, s13, s14, s15, s16, s17, s18, s19, s20, s21, s22, s23, s24, s25, s26, s27, s28, s29, s30, s31, s32, s33, s34, s35, s36, s37, s38, s39, s40⟩
                    go_simp
                    with_reducible rfl
                   rotate_left
                   ·simp only [Act.put, List.setIfInBounds_toArray, List.set_cons_zero, List.set_cons_succ, i64_w, i32_w]
                    rfl
                   refine take_ (i := 11) (N := some 68) (v := ?_) (a' := ?_) #[true, true, true, true, true, true, true, true, true, true, true, true, false, false, true, false, false, false, true, false, false, false, true, false, false, false, false, false, false, false] rfl rfl (take_ofW HT_.out HW_.out (by kernel_rfl)) (fun _ _ _ h => h) (Or.inl ⟨by rfl, ?_⟩) hHeld ?_ ?_
                   rotate_left
                   ·rintro w' ⟨s0, s1, s2, s3, s4, s5, s6, s7, s8, s9, s10, s11, s12, s13, s14, s15, s16, s17, s18, s19, s20, s21, s22, s23, s24, s25, s26, s27, s28, s29, s30, s31, s32, s33, s34, s35, s36, s37, s38, s39, s40⟩
                    go_simp
                    with_reducible rfl
                   rotate_left
                   ·simp only [Act.put, List.setIfInBounds_toArray, List.set_cons_zero, List.set_cons_succ, i64_w, i32_w]
                    rfl
                   refine pure_ (i := 12) (N := some 69) (v := ?_) (a' := ?_) #[true, true, true, true, true, true, true, true, true, true, true, true, true, false, true, false, false, false, true, false, false, false, true, false, false, false, false, false, false, false] rfl rfl (any_of HT_.out (by kernel_rfl)) (fun _ _ _ h => h) (Or.inl ⟨by rfl, ?_⟩) ?_ ?_
                   rotate_left
                   ·intro w'
                    go_simp
                    with_reducible rfl
                   rotate_left
                   ·simp only [Act.put, List.setIfInBounds_toArray, List.set_cons_zero, List.set_cons_succ, i64_w, i32_w]
                    rfl
                   refine take_ (i := 13) (N := some 70) (v := ?_) (a' := ?_) #[true, true, true, true, true, true, true, true, true, true, true, true, true, true, true, false, false, false, true, false, false, false, true, false, false, false, false, false, false, false] rfl rfl (take_ofW HT_.out HW_.out (by kernel_rfl)) (fun _ _ _ h => h) (Or.inl ⟨by rfl, ?_⟩) hHeld ?_ ?_
                   rotate_left
                   ·rintro w' ⟨s0, s1, s2, s3, s4, s5, s6, s7, s8, s9, s10, s11, s12, s13, s14, s15, s16, s17, s18, s19, s20, s21, s22, s23, s24, s25, s26, s27, s28, s29, s30, s31, s32, s33, s34, s35, s36, s37, s38, s39, s40⟩
                    go_simp
                    with_reducible rfl
                   rotate_left
                   ·simp only [Act.put, List.setIfInBounds_toArray, List.set_cons_zero, List.set_cons_succ, i64_w, i32_w]
                    rfl
                   refine take_ (i := 15) (N := some 72) (v := ?_) (a' := ?_) #[true, true, true, true, true, true, true, true, true, true, true, true, true, true, true, true, false, false, true, false, false, false, true, false, false, false, false, false, false, false] rfl rfl (take_ofW HT_.out HW_.out (by kernel_rfl)) (fun _ _ _ h => h) (Or.inl ⟨by rfl, ?_⟩) hHeld ?_ ?_
                   rotate_left
                   ·rintro w' ⟨s0, s1, s2, s3, s4, s5, s6, s7, s8, s9, s10, s11, s12, s13, s14, s15, s16, s17, s18, s19, s20, s21, s22, s23, s24, s25, s26, s27, s28, s29, s30, s31, s32, s33, s34, s35, s36, s37, s38, s39, s40⟩
                    go_simp
                    with_reducible rfl
                   rotate_left
                   ·simp only [Act.put, List.setIfInBounds_toArray, List.set_cons_zero, List.set_cons_succ, i64_w, i32_w]
                    rfl
                   refine pure_ (i := 16) (N := some 73) (v := ?_) (a' := ?_) #[true, true, true, true, true, true, true, true, true, true, true, true, true, true, true, true, true, false, true, false, false, false, true, false, false, false, false, false, false, false] rfl rfl (any_of HT_.out (by kernel_rfl)) (fun _ _ _ h => h) (Or.inl ⟨by rfl, ?_⟩) ?_ ?_
                   rotate_left
                   ·intro w'
                    go_simp
                    with_reducible rfl
                   rotate_left
                   ·simp only [Act.put, List.setIfInBounds_toArray, List.set_cons_zero, List.set_cons_succ, i64_w, i32_w]
                    rfl
                   refine take_ (i := 17) (N := some 74) (v := ?_) (a' := ?_) #[true, true, true, true, true, true, true, true, true, true, true, true, true, true, true, true, true, true, true, false, false, false, true, false, false, false, false, false, false, false] rfl rfl (take_ofW HT_.out HW_.out (by kernel_rfl)) (fun _ _ _ h => h) (Or.inl ⟨by rfl, ?_⟩) hHeld ?_ ?_
                   rotate_left
                   ·rintro w' ⟨s0, s1, s2, s3, s4, s5, s6, s7, s8, s9, s10, s11, s12, s13, s14, s15, s16, s17, s18, s19, s20, s21, s22, s23, s24, s25, s26, s27, s28, s29, s30, s31, s32, s33, s34, s35, s36, s37, s38, s39, s40⟩
                    go_simp
                    with_reducible rfl
                   rotate_left
                   ·simp only [Act.put, List.setIfInBounds_toArray, List.set_cons_zero, List.set_cons_succ, i64_w, i32_w]
                    rfl
                   refine take_ (i := 19) (N := some 76) (v := ?_) (a' := ?_) #[true, true, true, true, true, true, true, true, true, true, true, true, true, true, true, true, true, true, true, true, false, false, true, false, false, false, false, false, false, false] rfl rfl (take_ofW HT_.out HW_.out (by kernel_rfl)) (fun _ _ _ h => h) (Or.inl ⟨by rfl, ?_⟩) hHeld ?_ ?_
                   rotate_left
                   ·rintro w' ⟨s0, s1, s2, s3, s4, s5, s6, s7, s8, s9, s10, s11, s12, s13, s14, s15, s16, s17, s18, s19, s20, s21, s22, s23, s24, s25, s26, s27, s28, s29, s30, s31, s32, s33, s34, s35, s36, s37, s38, s39, s40⟩
                    go_simp
                    with_reducible rfl
                   rotate_left
                   ·simp only [Act.put, List.setIfInBounds_toArray, List.set_cons_zero, List.set_cons_succ, i64_w, i32_w]
                    rfl
                   refine pure_ (i := 20) (N := some 77) (v := ?_) (a' := ?_) #[true, true, true, true, true, true, true, true, true, true, true, true, true, true, true, true, true, true, true, true, true, false, true, false, false, false, false, false, false, false] rfl rfl (any_of HT_.out (by kernel_rfl)) (fun _ _ _ h => h) (Or.inl ⟨by rfl, ?_⟩) ?_ ?_
                   rotate_left
                   ·intro w'
                    go_simp
                    with_reducible rfl
                   rotate_left
                   ·simp only [Act.put, List.setIfInBounds_toArray, List.set_cons_zero, List.set_cons_succ, i64_w, i32_w]
                    rfl
                   refine take_ (i := 21) (N := some 78) (v := ?_) (a' := ?_) #[true, true, true, true, true, true, true, true, true, true, true, true, true, true, true, true, true, true, true, true, true, true, true, false, false, false, false, false, false, false] rfl rfl (take_ofW HT_.out HW_.out (by kernel_rfl)) (fun _ _ _ h => h) (Or.inl ⟨by rfl, ?_⟩) hHeld ?_ ?_
                   rotate_left
                   ·rintro w' ⟨s0, s1, s2, s3, s4, s5, s6, s7, s8, s9, s10, s11, s12, s13, s14, s15, s16, s17, s18, s19, s20, s21, s22, s23, s24, s25, s26, s27, s28, s29, s30, s31, s32, s33, s34, s35, s36, s37, s38, s39, s40⟩
                    go_simp
                    with_reducible rfl
                   rotate_left
                   ·simp only [Act.put, List.setIfInBounds_toArray, List.set_cons_zero, List.set_cons_succ, i64_w, i32_w]
                    rfl
                   refine take_ (i := 23) (N := some 80) (v := ?_) (a' := ?_) #[true, true, true, true, true, true, true, true, true, true, true, true, true, true, true, true, true, true, true, true, true, true, true, true, false, false, false, false, false, false] rfl rfl (take_ofW HT_.out HW_.out (by kernel_rfl)) (fun _ _ _ h => h) (Or.inl ⟨by rfl, ?_⟩) hHeld ?_ ?_
                   rotate_left
                   ·rintro w' ⟨s0, s1, s2, s3, s4, s5, s6, s7, s8, s9, s10, s11, s12, s13, s14, s15, s16, s17, s18, s19, s20, s21, s22, s23, s24, s25, s26, s27, s28, s29, s30, s31, s32, s33, s34, s35, s36, s37, s38, s39, s40⟩
                    go_simp
                    with_reducible rfl
                   rotate_left
                   ·simp only [Act.put, List.setIfInBounds_toArray, List.set_cons_zero, List.set_cons_succ, i64_w, i32_w]
                    rfl
                   refine pure_ (i := 24) (N := some 81) (v := ?_) (a' := ?_) #[true, true, true, true, true, true, true, true, true, true, true, true, true, true, true, true, true, true, true, true, true, true, true, true, true, false, false, false, false, false] rfl rfl (any_of HT_.out (by kernel_rfl)) (fun _ _ _ h => h) (Or.inl ⟨by rfl, ?_⟩) ?_ ?_
                   rotate_left
                   ·intro w'
                    go_simp
                    with_reducible rfl
                   rotate_left
                   ·simp only [Act.put, List.setIfInBounds_toArray, List.set_cons_zero, List.set_cons_succ, i64_w, i32_w]
                    rfl
                   refine take_ (i := 25) (N := some 82) (v := ?_) (a' := ?_) #[true, true, true, true, true, true, true, true, true, true, true, true, true, true, true, true, true, true, true, true, true, true, true, true, true, true, false, false, false, false] rfl rfl (take_ofW HT_.out HW_.out (by kernel_rfl)) (fun _ _ _ h => h) (Or.inl ⟨by rfl, ?_⟩) hHeld ?_ ?_
                   rotate_left
                   ·rintro w' ⟨s0, s1, s2, s3, s4, s5, s6, s7, s8, s9, s10, s11, s12, s13, s14, s15, s16, s17, s18, s19, s20, s21, s22, s23, s24, s25, s26, s27, s28, s29, s30, s31, s32, s33, s34, s35, s36, s37, s38, s39, s40⟩
                    go_simp
                    with_reducible rfl
                   rotate_left
                   ·simp only [Act.put, List.setIfInBounds_toArray, List.set_cons_zero, List.set_cons_succ, i64_w, i32_w]
                    rfl
                   refine one_ (i := 26) (N := some 83) #[true, true, true, true, true, true, true, true, true, true, true, true, true, true, true, true, true, true, true, true, true, true, true, true, true, true, true, false, false, false] rfl rfl (one_of HT_.out (by kernel_rfl)) (by decide) (fun K hK => ?_)
                   refine Kd.R_lit_step k23 _ 23 ?hg (N := 83) ?hd (xs := ([(⟨(rd_T23 x249003_1 0).f0, (rd_T23 x249003_1 0).f1, (rd_T23 x249003_1 0).f2, (rd_T23 x249003_1 0).f3, (rd_T23 x249003_1 0).f4, (rd_T23 x249003_1 0).f5⟩ : S23), (⟨(rd_T23 x249003_1 0).f0, (rd_T23 x249003_1 0).f1, (rd_T23 x249003_1 0).f2, (rd_T23 x249003_1 0).f3, (rd_T23 x249003_1 0).f4, (rd_T23 x249003_1 0).f5⟩ : S23), (⟨(rd_T23 x249003_1 0).f0, (rd_T23 x249003_1 0).f1, (rd_T23 x249003_1 0).f2, (rd_T23 x249003_1 0).f3, (rd_T23 x249003_1 0).f4, (rd_T23 x249003_1 0).f5⟩ : S23), (⟨(rd_T23 x249003_1 0).f0, (rd_T23 x249003_1 0).f1, (rd_T23 x249003_1 0).f2, (rd_T23 x249003_1 0).f3, (rd_T23 x249003_1 0).f4, (rd_T23 x249003_1 0).f5⟩ : S23), (⟨(rd_T23 x249003_1 0).f0, (rd_T23 x249003_1 0).f1, (rd_T23 x249003_1 0).f2, (rd_T23 x249003_1 0).f3, (rd_T23 x249003_1 0).f4, (rd_T23 x249003_1 0).f5⟩ : S23), (⟨(rd_T23 x249003_1 0).f0, (rd_T23 x249003_1 0).f1, (rd_T23 x249003_1 0).f2, (rd_T23 x249003_1 0).f3, (rd_T23 x249003_1 0).f4, (rd_T23 x249003_1 0).f5⟩ : S23)] : List (S23))) (inner := [.int .i64 ((rd_T23 x249003_1 0).f0), .int .i64 ((rd_T23 x249003_1 0).f1), .int .i64 ((rd_T23 x249003_1 0).f2), .int .i64 ((rd_T23 x249003_1 0).f3), .int .i64 ((rd_T23 x249003_1 0).f4), .int .i64 ((rd_T23 x249003_1 0).f5), .int .i64 ((rd_T23 x249003_1 0).f0), .int .i64 ((rd_T23 x249003_1 0).f1), .int .i64 ((rd_T23 x249003_1 0).f2), .int .i64 ((rd_T23 x249003_1 0).f3), .int .i64 ((rd_T23 x249003_1 0).f4), .int .i64 ((rd_T23 x249003_1 0).f5), .int .i64 ((rd_T23 x249003_1 0).f0), .int .i64 ((rd_T23 x249003_1 0).f1), .int .i64 ((rd_T23 x249003_1 0).f2), .int .i64 ((rd_T23 x249003_1 0).f3), .int .i64 ((rd_T23 x249003_1 0).f4), .int .i64 ((rd_T23 x249003_1 0).f5), .int .i64 ((rd_T23 x249003_1 0).f0), .int .i64 ((rd_T23 x249003_1 0).f1), .int .i64 ((rd_T23 x249003_1 0).f2), .int .i64 ((rd_T23 x249003_1 0).f3), .int .i64 ((rd_T23 x249003_1 0).f4), .int .i64 ((rd_T23 x249003_1 0).f5), .int .i64 ((rd_T23 x249003_1 0).f0), .int .i64 ((rd_T23 x249003_1 0).f1), .int .i64 ((rd_T23 x249003_1 0).f2), .int .i64 ((rd_T23 x249003_1 0).f3), .int .i64 ((rd_T23 x249003_1 0).f4), .int .i64 ((rd_T23 x249003_1 0).f5), .int .i64 ((rd_T23 x249003_1 0).f0), .int .i64 ((rd_T23 x249003_1 0).f1), .int .i64 ((rd_T23 x249003_1 0).f2), .int .i64 ((rd_T23 x249003_1 0).f3), .int .i64 ((rd_T23 x249003_1 0).f4), .int .i64 ((rd_T23 x249003_1 0).f5)]) (ok := fun _ => True) (okp := fun _ => True) ?hr ?hp (fun _ hk => hk) trivial (Below.refl _ _) (Nat.le_refl _) (by simp) ?_; (case hd => rfl); (case hg => rfl); (case hr => first | (go_simp; done) | (go_simp; rfl)); (case hp => exact (Reps.c6 (show Kd.M k23 _ _ _ (⟨(rd_T23 x249003_1 0).f0, (rd_T23 x249003_1 0).f1, (rd_T23 x249003_1 0).f2, (rd_T23 x249003_1 0).f3, (rd_T23 x249003_1 0).f4, (rd_T23 x249003_1 0).f5⟩ : S23) [.int .i64 ((rd_T23 x249003_1 0).f0), .int .i64 ((rd_T23 x249003_1 0).f1), .int .i64 ((rd_T23 x249003_1 0).f2), .int .i64 ((rd_T23 x249003_1 0).f3), .int .i64 ((rd_T23 x249003_1 0).f4), .int .i64 ((rd_T23 x249003_1 0).f5)] from (k23_mkM _ _ _ (⟨(rd_T23 x249003_1 0).f0, (rd_T23 x249003_1 0).f1, (rd_T23 x249003_1 0).f2, (rd_T23 x249003_1 0).f3, (rd_T23 x249003_1 0).f4, (rd_T23 x249003_1 0).f5⟩ : S23) )) (Reps.c6 (show Kd.M k23 _ _ _ (⟨(rd_T23 x249003_1 0).f0, (rd_T23 x249003_1 0).f1, (rd_T23 x249003_1 0).f2, (rd_T23 x249003_1 0).f3, (rd_T23 x249003_1 0).f4, (rd_T23 x249003_1 0).f5⟩ : S23) [.int .i64 ((rd_T23 x249003_1 0).f0), .int .i64 ((rd_T23 x249003_1 0).f1), .int .i64 ((rd_T23 x249003_1 0).f2), .int .i64 ((rd_T23 x249003_1 0).f3), .int .i64 ((rd_T23 x249003_1 0).f4), .int .i64 ((rd_T23 x249003_1 0).f5)] from (k23_mkM _ _ _ (⟨(rd_T23 x249003_1 0).f0, (rd_T23 x249003_1 0).f1, (rd_T23 x249003_1 0).f2, (rd_T23 x249003_1 0).f3, (rd_T23 x249003_1 0).f4, (rd_T23 x249003_1 0).f5⟩ : S23) )) (Reps.c6 (show Kd.M k23 _ _ _ (⟨(rd_T23 x249003_1 0).f0, (rd_T23 x249003_1 0).f1, (rd_T23 x249003_1 0).f2, (rd_T23 x249003_1 0).f3, (rd_T23 x249003_1 0).f4, (rd_T23 x249003_1 0).f5⟩ : S23) [.int .i64 ((rd_T23 x249003_1 0).f0), .int .i64 ((rd_T23 x249003_1 0).f1), .int .i64 ((rd_T23 x249003_1 0).f2), .int .i64 ((rd_T23 x249003_1 0).f3), .int .i64 ((rd_T23 x249003_1 0).f4), .int .i64 ((rd_T23 x249003_1 0).f5)] from (k23_mkM _ _ _ (⟨(rd_T23 x249003_1 0).f0, (rd_T23 x249003_1 0).f1, (rd_T23 x249003_1 0).f2, (rd_T23 x249003_1 0).f3, (rd_T23 x249003_1 0).f4, (rd_T23 x249003_1 0).f5⟩ : S23) )) (Reps.c6 (show Kd.M k23 _ _ _ (⟨(rd_T23 x249003_1 0).f0, (rd_T23 x249003_1 0).f1, (rd_T23 x249003_1 0).f2, (rd_T23 x249003_1 0).f3, (rd_T23 x249003_1 0).f4, (rd_T23 x249003_1 0).f5⟩ : S23) [.int .i64 ((rd_T23 x249003_1 0).f0), .int .i64 ((rd_T23 x249003_1 0).f1), .int .i64 ((rd_T23 x249003_1 0).f2), .int .i64 ((rd_T23 x249003_1 0).f3), .int .i64 ((rd_T23 x249003_1 0).f4), .int .i64 ((rd_T23 x249003_1 0).f5)] from (k23_mkM _ _ _ (⟨(rd_T23 x249003_1 0).f0, (rd_T23 x249003_1 0).f1, (rd_T23 x249003_1 0).f2, (rd_T23 x249003_1 0).f3, (rd_T23 x249003_1 0).f4, (rd_T23 x249003_1 0).f5⟩ : S23) )) (Reps.c6 (show Kd.M k23 _ _ _ (⟨(rd_T23 x249003_1 0).f0, (rd_T23 x249003_1 0).f1, (rd_T23 x249003_1 0).f2, (rd_T23 x249003_1 0).f3, (rd_T23 x249003_1 0).f4, (rd_T23 x249003_1 0).f5⟩ : S23) [.int .i64 ((rd_T23 x249003_1 0).f0), .int .i64 ((rd_T23 x249003_1 0).f1), .int .i64 ((rd_T23 x249003_1 0).f2), .int .i64 ((rd_T23 x249003_1 0).f3), .int .i64 ((rd_T23 x249003_1 0).f4), .int .i64 ((rd_T23 x249003_1 0).f5)] from (k23_mkM _ _ _ (⟨(rd_T23 x249003_1 0).f0, (rd_T23 x249003_1 0).f1, (rd_T23 x249003_1 0).f2, (rd_T23 x249003_1 0).f3, (rd_T23 x249003_1 0).f4, (rd_T23 x249003_1 0).f5⟩ : S23) )) (Reps.c6 (show Kd.M k23 _ _ _ (⟨(rd_T23 x249003_1 0).f0, (rd_T23 x249003_1 0).f1, (rd_T23 x249003_1 0).f2, (rd_T23 x249003_1 0).f3, (rd_T23 x249003_1 0).f4, (rd_T23 x249003_1 0).f5⟩ : S23) [.int .i64 ((rd_T23 x249003_1 0).f0), .int .i64 ((rd_T23 x249003_1 0).f1), .int .i64 ((rd_T23 x249003_1 0).f2), .int .i64 ((rd_T23 x249003_1 0).f3), .int .i64 ((rd_T23 x249003_1 0).f4), .int .i64 ((rd_T23 x249003_1 0).f5)] from (k23_mkM _ _ _ (⟨(rd_T23 x249003_1 0).f0, (rd_T23 x249003_1 0).f1, (rd_T23 x249003_1 0).f2, (rd_T23 x249003_1 0).f3, (rd_T23 x249003_1 0).f4, (rd_T23 x249003_1 0).f5⟩ : S23) )) (Reps.none _ _))))))))
                   intro v308 w129 ho130 hb hg_ hnew_
                   have HS5_ := (hb.cell (World.block_lt_of_cell? _ _ (hHeld.2.2.2.2.2.1))).trans (hHeld.2.2.2.2.2.1)
                   have HS6_ := (hb.cell (World.block_lt_of_cell? _ _ (hHeld.2.2.2.2.2.2.1))).trans (hHeld.2.2.2.2.2.2.1)
                   have HS7_ := (hb.cell (World.block_lt_of_cell? _ _ (hHeld.2.2.2.2.2.2.2.1))).trans (hHeld.2.2.2.2.2.2.2.1)
                   have HS8_ := (hb.cell (World.block_lt_of_cell? _ _ (hHeld.2.2.2.2.2.2.2.2.1))).trans (hHeld.2.2.2.2.2.2.2.2.1)
                   have HS9_ := (hb.cell (World.block_lt_of_cell? _ _ (hHeld.2.2.2.2.2.2.2.2.2.1))).trans (hHeld.2.2.2.2.2.2.2.2.2.1)
                   have HS10_ := (hb.cell (World.block_lt_of_cell? _ _ (hHeld.2.2.2.2.2.2.2.2.2.2.1))).trans (hHeld.2.2.2.2.2.2.2.2.2.2.1)
                   have HS11_ := (hb.cell (World.block_lt_of_cell? _ _ (hHeld.2.2.2.2.2.2.2.2.2.2.2.1))).trans (hHeld.2.2.2.2.2.2.2.2.2.2.2.1)
                   have HS12_ := (hb.cell (World.block_lt_of_cell? _ _ (hHeld.2.2.2.2.2.2.2.2.2.2.2.2.1))).trans (hHeld.2.2.2.2.2.2.2.2.2.2.2.2.1)
                   have HS13_ := (hb.cell (World.block_lt_of_cell? _ _ (hHeld.2.2.2.2.2.2.2.2.2.2.2.2.2.1))).trans (hHeld.2.2.2.2.2.2.2.2.2.2.2.2.2.1)
                   have HS14_ := (hb.cell (World.block_lt_of_cell? _ _ (hHeld.2.2.2.2.2.2.2.2.2.2.2.2.2.2.1))).trans (hHeld.2.2.2.2.2.2.2.2.2.2.2.2.2.2.1)
                   have HS15_ := (hb.cell (World.block_lt_of_cell? _ _ (hHeld.2.2.2.2.2.2.2.2.2.2.2.2.2.2.2.1))).trans (hHeld.2.2.2.2.2.2.2.2.2.2.2.2.2.2.2.1)
                   have HS16_ := (hb.cell (World.block_lt_of_cell? _ _ (hHeld.2.2.2.2.2.2.2.2.2.2.2.2.2.2.2.2.1))).trans (hHeld.2.2.2.2.2.2.2.2.2.2.2.2.2.2.2.2.1)
                   have HS17_ := (hb.cell (World.block_lt_of_cell? _ _ (hHeld.2.2.2.2.2.2.2.2.2.2.2.2.2.2.2.2.2.1))).trans (hHeld.2.2.2.2.2.2.2.2.2.2.2.2.2.2.2.2.2.1)
                   have HS18_ := (hb.cell (World.block_lt_of_cell? _ _ (hHeld.2.2.2.2.2.2.2.2.2.2.2.2.2.2.2.2.2.2.1))).trans (hHeld.2.2.2.2.2.2.2.2.2.2.2.2.2.2.2.2.2.2.1)
                   have HS19_ := (hb.cell (World.block_lt_of_cell? _ _ (hHeld.2.2.2.2.2.2.2.2.2.2.2.2.2.2.2.2.2.2.2.1))).trans (hHeld.2.2.2.2.2.2.2.2.2.2.2.2.2.2.2.2.2.2.2.1)
                   have HS20_ := (hb.cell (World.block_lt_of_cell? _ _ (hHeld.2.2.2.2.2.2.2.2.2.2.2.2.2.2.2.2.2.2.2.2.1))).trans (hHeld.2.2.2.2.2.2.2.2.2.2.2.2.2.2.2.2.2.2.2.2.1)
                   have HS21_ := (hb.cell (World.block_lt_of_cell? _ _ (hHeld.2.2.2.2.2.2.2.2.2.2.2.2.2.2.2.2.2.2.2.2.2.1))).trans (hHeld.2.2.2.2.2.2.2.2.2.2.2.2.2.2.2.2.2.2.2.2.2.1)
                   have HS22_ := (hb.cell (World.block_lt_of_cell? _ _ (hHeld.2.2.2.2.2.2.2.2.2.2.2.2.2.2.2.2.2.2.2.2.2.2.1))).trans (hHeld.2.2.2.2.2.2.2.2.2.2.2.2.2.2.2.2.2.2.2.2.2.2.1)
                   have HS23_ := (hb.cell (World.block_lt_of_cell? _ _ (hHeld.2.2.2.2.2.2.2.2.2.2.2.2.2.2.2.2.2.2.2.2.2.2.2.1))).trans (hHeld.2.2.2.2.2.2.2.2.2.2.2.2.2.2.2.2.2.2.2.2.2.2.2.1)
                   have HS24_ := (hb.cell (World.block_lt_of_cell? _ _ (hHeld.2.2.2.2.2.2.2.2.2.2.2.2.2.2.2.2.2.2.2.2.2.2.2.2.1))).trans (hHeld.2.2.2.2.2.2.2.2.2.2.2.2.2.2.2.2.2.2.2.2.2.2.2.2.1)
                   have HS25_ := (hb.cell (World.block_lt_of_cell? _ _ (hHeld.2.2.2.2.2.2.2.2.2.2.2.2.2.2.2.2.2.2.2.2.2.2.2.2.2.1))).trans (hHeld.2.2.2.2.2.2.2.2.2.2.2.2.2.2.2.2.2.2.2.2.2.2.2.2.2.1)
                   have HS26_ := (hb.cell (World.block_lt_of_cell? _ _ (hHeld.2.2.2.2.2.2.2.2.2.2.2.2.2.2.2.2.2.2.2.2.2.2.2.2.2.2.1))).trans (hHeld.2.2.2.2.2.2.2.2.2.2.2.2.2.2.2.2.2.2.2.2.2.2.2.2.2.2.1)
                   have HS27_ := (hb.cell (World.block_lt_of_cell? _ _ (hHeld.2.2.2.2.2.2.2.2.2.2.2.2.2.2.2.2.2.2.2.2.2.2.2.2.2.2.2.1))).trans (hHeld.2.2.2.2.2.2.2.2.2.2.2.2.2.2.2.2.2.2.2.2.2.2.2.2.2.2.2.1)
                   have HS28_ := (hb.cell (World.block_lt_of_cell? _ _ (hHeld.2.2.2.2.2.2.2.2.2.2.2.2.2.2.2.2.2.2.2.2.2.2.2.2.2.2.2.2.1))).trans (hHeld.2.2.2.2.2.2.2.2.2.2.2.2.2.2.2.2.2.2.2.2.2.2.2.2.2.2.2.2.1)
                   have HS29_ := (hb.cell (World.block_lt_of_cell? _ _ (hHeld.2.2.2.2.2.2.2.2.2.2.2.2.2.2.2.2.2.2.2.2.2.2.2.2.2.2.2.2.2.1))).trans (hHeld.2.2.2.2.2.2.2.2.2.2.2.2.2.2.2.2.2.2.2.2.2.2.2.2.2.2.2.2.2.1)
                   have HS30_ := (hb.cell (World.block_lt_of_cell? _ _ (hHeld.2.2.2.2.2.2.2.2.2.2.2.2.2.2.2.2.2.2.2.2.2.2.2.2.2.2.2.2.2.2.1))).trans (hHeld.2.2.2.2.2.2.2.2.2.2.2.2.2.2.2.2.2.2.2.2.2.2.2.2.2.2.2.2.2.2.1)
                   have HS31_ := (hb.cell (World.block_lt_of_cell? _ _ (hHeld.2.2.2.2.2.2.2.2.2.2.2.2.2.2.2.2.2.2.2.2.2.2.2.2.2.2.2.2.2.2.2.1))).trans (hHeld.2.2.2.2.2.2.2.2.2.2.2.2.2.2.2.2.2.2.2.2.2.2.2.2.2.2.2.2.2.2.2.1)
                   have HS32_ := (hb.cell (World.block_lt_of_cell? _ _ (hHeld.2.2.2.2.2.2.2.2.2.2.2.2.2.2.2.2.2.2.2.2.2.2.2.2.2.2.2.2.2.2.2.2.1))).trans (hHeld.2.2.2.2.2.2.2.2.2.2.2.2.2.2.2.2.2.2.2.2.2.2.2.2.2.2.2.2.2.2.2.2.1)
                   have HS33_ := (hb.cell (World.block_lt_of_cell? _ _ (hHeld.2.2.2.2.2.2.2.2.2.2.2.2.2.2.2.2.2.2.2.2.2.2.2.2.2.2.2.2.2.2.2.2.2.1))).trans (hHeld.2.2.2.2.2.2.2.2.2.2.2.2.2.2.2.2.2.2.2.2.2.2.2.2.2.2.2.2.2.2.2.2.2.1)
                   have HS34_ := (hb.cell (World.block_lt_of_cell? _ _ (hHeld.2.2.2.2.2.2.2.2.2.2.2.2.2.2.2.2.2.2.2.2.2.2.2.2.2.2.2.2.2.2.2.2.2.2.1))).trans (hHeld.2.2.2.2.2.2.2.2.2.2.2.2.2.2.2.2.2.2.2.2.2.2.2.2.2.2.2.2.2.2.2.2.2.2.1)
                   have HS35_ := (hb.cell (World.block_lt_of_cell? _ _ (hHeld.2.2.2.2.2.2.2.2.2.2.2.2.2.2.2.2.2.2.2.2.2.2.2.2.2.2.2.2.2.2.2.2.2.2.2.1))).trans (hHeld.2.2.2.2.2.2.2.2.2.2.2.2.2.2.2.2.2.2.2.2.2.2.2.2.2.2.2.2.2.2.2.2.2.2.2.1)
                   have HS36_ := (hb.cell (World.block_lt_of_cell? _ _ (hHeld.2.2.2.2.2.2.2.2.2.2.2.2.2.2.2.2.2.2.2.2.2.2.2.2.2.2.2.2.2.2.2.2.2.2.2.2.1))).trans (hHeld.2.2.2.2.2.2.2.2.2.2.2.2.2.2.2.2.2.2.2.2.2.2.2.2.2.2.2.2.2.2.2.2.2.2.2.2.1)
                   have HS37_ := (hb.cell (World.block_lt_of_cell? _ _ (hHeld.2.2.2.2.2.2.2.2.2.2.2.2.2.2.2.2.2.2.2.2.2.2.2.2.2.2.2.2.2.2.2.2.2.2.2.2.2.1))).trans (hHeld.2.2.2.2.2.2.2.2.2.2.2.2.2.2.2.2.2.2.2.2.2.2.2.2.2.2.2.2.2.2.2.2.2.2.2.2.2.1)
                   have HS38_ := (hb.cell (World.block_lt_of_cell? _ _ (hHeld.2.2.2.2.2.2.2.2.2.2.2.2.2.2.2.2.2.2.2.2.2.2.2.2.2.2.2.2.2.2.2.2.2.2.2.2.2.2.1))).trans (hHeld.2.2.2.2.2.2.2.2.2.2.2.2.2.2.2.2.2.2.2.2.2.2.2.2.2.2.2.2.2.2.2.2.2.2.2.2.2.2.1)
                   have HS39_ := (hb.cell (World.block_lt_of_cell? _ _ (hHeld.2.2.2.2.2.2.2.2.2.2.2.2.2.2.2.2.2.2.2.2.2.2.2.2.2.2.2.2.2.2.2.2.2.2.2.2.2.2.2.1))).trans (hHeld.2.2.2.2.2.2.2.2.2.2.2.2.2.2.2.2.2.2.2.2.2.2.2.2.2.2.2.2.2.2.2.2.2.2.2.2.2.2.2.1)
                   have HS40_ := (hb.cell (World.block_lt_of_cell? _ _ (hHeld.2.2.2.2.2.2.2.2.2.2.2.2.2.2.2.2.2.2.2.2.2.2.2.2.2.2.2.2.2.2.2.2.2.2.2.2.2.2.2.2))).trans (hHeld.2.2.2.2.2.2.2.2.2.2.2.2.2.2.2.2.2.2.2.2.2.2.2.2.2.2.2.2.2.2.2.2.2.2.2.2.2.2.2.2)
                   clear hg_ hnew_
                   (first | rw [← Ny307.out] at ho130 | (simp only [Int.reduceToNat] at ho130; rw [← Ny307.out] at ho130))
                   have HO309 := za (Kd.R_lower (Kd.R_new' ho130 (Kd.R_lt (by (with_reducible repeat (first | apply Kd.R_alloc | apply Kd.R_drewN | apply Kd.R_drew)); exact HO_249003.out))) (keep_size (w := w) (g := g) (row := none) (by repeat (first | (with_reducible first | exact HK.out | apply KeepBut.set_ | apply keep_drewN | apply keep_drew | apply keep_alloc | refine keep_far ?_ GW245.out _ | refine keep_far ?_ GW248.out _) | exact HK.out))))
                   replace HO_249003 := za (Kd.R_elder' (by (with_reducible repeat (first | apply Kd.R_alloc | apply Kd.R_drewN | apply Kd.R_drew)); exact HO_249003.out) (Kd.R_base ho130) hb)
                   replace HO_249004 := zR HO_249004 hb
                   replace BK245 := zb BK245 hb
                   replace BK248 := zb BK248 hb
                   replace HI0 := za (IsS54.below (by repeat (first | (with_reducible first | exact HI0.out | apply IsS54.alloc | apply IsS54.drewN | apply IsS54.drew | apply IsS54.set_1 | refine IsS54.far ?_ NB0_245.out _ | refine IsS54.far ?_ NB0_248.out _) | exact HI0.out)) hb)
                   replace HK := zu HK hb
                   replace HB := zs HB hb
                   clear hb ho130
                   obtain ⟨Ao132, co132, eo132⟩ := Kd.R_slice HO309.out
                   (first | subst eo132 | (injection eo132 with f1_ f2_ f3_; have f4_ := f1_.symm; have f5_ := f3_.symm; clear f1_ f2_ f3_; subst f4_; subst f5_))
                   refine hK.out _ _ ⟨(blk_cell BK248.out 0).trans rfl, (blk_cell BK248.out 1).trans rfl, (blk_cell BK248.out 2).trans rfl, (blk_cell BK248.out 3).trans rfl, (blk_cell BK248.out 4).trans rfl, HS5_, HS6_, HS7_, HS8_, HS9_, HS10_, HS11_, HS12_, HS13_, HS14_, HS15_, HS16_, HS17_, HS18_, HS19_, HS20_, HS21_, HS22_, HS23_, HS24_, HS25_, HS26_, HS27_, HS28_, HS29_, HS30_, HS31_, HS32_, HS33_, HS34_, HS35_, HS36_, HS37_, HS38_, HS39_, HS40_⟩ (fun hHeld => ?_)
                   clear hK K
                   refine norm_ (a' := ?_) ?_ ?_
                   rotate_left
                   ·show Act.put _ (some 83) _ = _
                    simp only [Act.put, List.setIfInBounds_toArray, List.set_cons_zero, List.set_cons_succ, i64_w, i32_w]
                    rfl
                   refine last_ (i := 27) (N := some 84) #[true, true, true, true, true, true, true, true, true, true, true, true, true, true, true, true, true, true, true, true, true, true, true, true, true, true, true, true, false, false] rfl rfl (one_of HT_.out (by kernel_rfl)) (by decide) (fun K hK => ?_)
                   refine Kd.R_append_rows_step k23 w.heap.size (by rfl) (.tmp 58) (.tmp 83) 31 23 (.agg #[(.int .i64 0), (.int .i64 0), (.int .i64 0), (.int .i64 0), (.int .i64 0), (.int .i64 0)]) 48 rfl Try.underlying31 info23 rfl (by decide) (by omega) (.slice (some ad301) x249003_1.length co128) x249003_1 y307 _ _ _ (fun k_ => some k_ ≠ (.slice Ao132 y307.length co132 : Value).ownBlock) (fun _ => False) rfl rfl ?aO ?aR (fun _ _ h => h) (fun _ h => h.elim) ?aF (Below.refl _ _) ?aS ?aL ?_
                   (case aR => exact zD HO309)
                   (case aF => exact (fun k_ hk => Kd.fresh' (Kd.R_lt (by (with_reducible repeat (first | apply Kd.R_alloc | apply Kd.R_drewN | apply Kd.R_drew)); exact HO309.out)) k_ hk))
                   (case aO => exact (by (with_reducible repeat (first | apply Kd.R_alloc | apply Kd.R_drewN | apply Kd.R_drew)); exact Kd.R_mono HO_249003.out (fun _ hk => hk.2)))
                   (case aS => exact (keep_size (w := w) (g := g) (row := none) (by repeat (first | (with_reducible first | exact HK.out | apply KeepBut.set_ | apply keep_drewN | apply keep_drew | apply keep_alloc | refine keep_far ?_ GW245.out _ | refine keep_far ?_ GW248.out _) | exact HK.out))))
                   (case aL => have := LMc125.out; omega)
                   intro v311 w131 ho hb hg hat
                   rw [← Ny310.out] at ho
                   have HO312 := za (ho)
                   replace HO_249004 := za (Kd.R_over' (by (with_reducible repeat (first | apply Kd.R_alloc | apply Kd.R_drewN | apply Kd.R_drew)); exact HO_249004.out) (Kd.R_typed (by (with_reducible repeat (first | apply Kd.R_alloc | apply Kd.R_drewN | apply Kd.R_drew)); exact HO_249003.out)) (by decide) hg)
                   replace BK245 := (zw BK245 hg (Kd.R_ne HO_249003.out BK245.out (by decide)))
                   replace BK248 := (zw BK248 hg (Kd.R_ne HO_249003.out BK248.out (by decide)))
                   replace HI0 := za (IsS54.grown (by repeat (first | (with_reducible first | exact HI0.out | apply IsS54.alloc | apply IsS54.drewN | apply IsS54.drew | apply IsS54.set_1 | refine IsS54.far ?_ NB0_245.out _ | refine IsS54.far ?_ NB0_248.out _) | exact HI0.out)) hg (IsS54.own_ne HI0.out HO_249003.out (by decide)))
                   replace HO309 := za (Kd.R_after (ok := (fun _ => True)) (by (with_reducible repeat (first | apply Kd.R_alloc | apply Kd.R_drewN | apply Kd.R_drew)); exact HO309.out) hg hat)
                   replace HB := za (below_weaken (zm HB) HL.out hb)
                   replace HK := za (KeepBut.trans (by repeat (first | (with_reducible first | exact HK.out | apply KeepBut.set_ | apply keep_drewN | apply keep_drew | apply keep_alloc | refine keep_far ?_ GW245.out _ | refine keep_far ?_ GW248.out _) | exact HK.out)) (KeepBut.of_grown hg g) (Kd.R_base2 HO_249003.out))
                   clear HO_249003 ho hb hg hat
                   obtain ⟨Ao133, co133, eo133⟩ := Kd.R_slice HO312.out
                   (first | subst eo133 | (injection eo133 with f1_ f2_ f3_; have f4_ := f1_.symm; have f5_ := f3_.symm; clear f1_ f2_ f3_; subst f4_; subst f5_))
                   refine hK.out _ _ ?_
                   clear hK K
                   refine norm_ (a' := ?_) ?_ ?_
                   rotate_left
                   ·show Act.put _ (some 84) _ = _
                    simp only [Act.put, List.setIfInBounds_toArray, List.set_cons_zero, List.set_cons_succ, i64_w, i32_w]
                    rfl
                   refine pure_ (i := 28) (N := some 85) (v := ?_) (a' := ?_) #[true, true, true, true, true, true, true, true, true, true, true, true, true, true, true, true, true, true, true, true, true, true, true, true, true, true, true, true, true, false] rfl rfl (any_of HT_.out (by kernel_rfl)) (fun _ _ _ h => h) (Or.inl ⟨by rfl, ?_⟩) ?_ ?_
                   rotate_left
                   ·intro w'
                    go_simp
                    with_reducible rfl
                   rotate_left
                   ·simp only [Act.put, List.setIfInBounds_toArray, List.set_cons_zero, List.set_cons_succ, i64_w, i32_w]
                    rfl
                   refine last_ (i := 29) (N := none) #[true, true, true, true, true, true, true, true, true, true, true, true, true, true, true, true, true, true, true, true, true, true, true, true, true, true, true, true, true, true] rfl rfl (one_of HT_.out (by kernel_rfl)) (by decide) (fun K hK => ?_)
                   have hs134 : w131.cell? ⟨gb248, 3, none⟩ = some (.slice (some ad301) x249003_1.length co128) := (blk_cell BK248.out 3).trans rfl
                   have hfs134 := blk_frozen BK248.out 3
                   have hns134_0 := NB245_248.out
                   have hms134_0 := NB248_245.out
                   refine skip_ (w1 := ?_) (by rfl) rfl ?_ ?_
                   rotate_left
                   ·go_simp
                    rfl
                   refine hK.out _ _ ?_
                   clear hK K
                   refine done_ (done_of HT_.out (by kernel_rfl)) ?_
                   have hnb135 := NB248_245.out
                   have hnc135 := NB245_248.out
                   have hnb136 := NB248_0.out
                   have hnc136 := NB0_248.out
                   obtain ⟨hcz137_0, hcz137_1, hcz137_2, hcz137_3, hcz137_4, hfz137_0, hfz137_1, hfz137_2, hfz137_3, hfz137_4⟩ := z5 BK248
                   have hnb138 := NB245_0.out
                   have hnc138 := NB0_245.out
                   obtain ⟨hcz139_0, hcz139_1, hcz139_2, hcz139_3, hcz139_4, hfz139_0, hfz139_1, hfz139_2, hfz139_3, hfz139_4⟩ := z5 BK245
                   obtain ⟨Ao140, co140, eo140⟩ := Kd.R_slice HO_249004.out
                   subst eo140
                   try go_wp2
                   refine bodyPost_ret (results_cell_row rfl _ _ gb245 33 #[.int .i64 a1, .int .i64 a2, .string ((⟨#[113]⟩ : ByteArray) ++ t246), .slice Ao133 y310.length co133, .slice Ao140 x249004_2.length co140] (0, 0) _ rfl (by (with_reducible repeat (first | refine blk_drewN ?_ _ | refine blk_drew ?_ | refine blk_alloc ?_ _)); refine blk_put (cs := #[.int .i64 a1, .int .i64 a2, .string ((⟨#[113]⟩ : ByteArray) ++ t246), .slice Ao133 y310.length co133, .slice none 0 0]) ?_ 4 _ rfl; (with_reducible repeat (first | refine blk_drewN ?_ _ | refine blk_drew ?_ | refine blk_alloc ?_ _)); refine blk_put (cs := #[.int .i64 a1, .int .i64 a2, .string ((⟨#[113]⟩ : ByteArray) ++ t246), .slice none 0 0, .slice none 0 0]) ?_ 3 _ rfl; (with_reducible repeat (first | refine blk_drewN ?_ _ | refine blk_drew ?_ | refine blk_alloc ?_ _)); refine blk_put (cs := #[.int .i64 a1, .int .i64 a2, .string (⟨#[]⟩ : ByteArray), .slice none 0 0, .slice none 0 0]) ?_ 2 _ rfl; (with_reducible repeat (first | refine blk_drewN ?_ _ | refine blk_drew ?_ | refine blk_alloc ?_ _)); refine blk_put (cs := #[.int .i64 a1, .int .i64 0, .string (⟨#[]⟩ : ByteArray), .slice none 0 0, .slice none 0 0]) ?_ 1 _ rfl; (with_reducible repeat (first | refine blk_drewN ?_ _ | refine blk_drew ?_ | refine blk_alloc ?_ _)); refine blk_put (cs := #[.int .i64 0, .int .i64 0, .string (⟨#[]⟩ : ByteArray), .slice none 0 0, .slice none 0 0]) ?_ 0 _ rfl; (with_reducible repeat (first | refine blk_drewN ?_ _ | refine blk_drew ?_ | refine blk_alloc ?_ _)); refine blk_far ?_ NB245_248.out _; (with_reducible repeat (first | refine blk_drewN ?_ _ | refine blk_drew ?_ | refine blk_alloc ?_ _)); exact BK245.out) Try.underlying33 rfl (by kernel_rfl)) rfl ?_
                   exact ⟨_, _, zf, by (with_reducible repeat (first | apply Kd.R_alloc | apply Kd.R_drewN | apply Kd.R_drew)); exact Kd.R_mono (Kd.R_far (p := ⟨gb245, 4, none⟩) (Kd.R_far (p := ⟨gb245, 3, none⟩) (Kd.R_far (p := ⟨gb245, 2, none⟩) (Kd.R_far (p := ⟨gb245, 1, none⟩) (Kd.R_far (p := ⟨gb245, 0, none⟩) (Kd.R_far (p := ⟨gb248, 3, none⟩) (Kd.R_types (Kd.R_types HO312.out BK248.out (by decide)) BK245.out (by decide)) (fun _ hk => hk.1.2) (.slice Ao133 y310.length co133)) (fun _ hk => hk.2) (.int .i64 a1)) (fun _ hk => hk.2) (.int .i64 a2)) (fun _ hk => hk.2) (.string ((⟨#[113]⟩ : ByteArray) ++ t246))) (fun _ hk => hk.2) (.slice Ao133 y310.length co133)) (fun _ hk => hk.2) (.slice Ao140 x249004_2.length co140)) (fun _ hk => trivial), by (with_reducible repeat (first | apply Kd.R_alloc | apply Kd.R_drewN | apply Kd.R_drew)); exact Kd.R_mono (Kd.R_far (p := ⟨gb245, 4, none⟩) (Kd.R_far (p := ⟨gb245, 3, none⟩) (Kd.R_far (p := ⟨gb245, 2, none⟩) (Kd.R_far (p := ⟨gb245, 1, none⟩) (Kd.R_far (p := ⟨gb245, 0, none⟩) (Kd.R_far (p := ⟨gb248, 3, none⟩) (Kd.R_types (Kd.R_types HO_249004.out BK248.out (by decide)) BK245.out (by decide)) (fun _ hk => hk.1.2) (.slice Ao133 y310.length co133)) (fun _ hk => hk.2) (.int .i64 a1)) (fun _ hk => hk.2) (.int .i64 a2)) (fun _ hk => hk.2) (.string ((⟨#[113]⟩ : ByteArray) ++ t246))) (fun _ hk => hk.2) (.slice Ao133 y310.length co133)) (fun _ hk => hk.2) (.slice Ao140 x249004_2.length co140)) (fun _ hk => trivial), by repeat (first | (with_reducible first | exact HI0.out | apply IsS54.alloc | apply IsS54.drewN | apply IsS54.drew | apply IsS54.set_1 | refine IsS54.far ?_ NB0_245.out _ | refine IsS54.far ?_ NB0_248.out _) | exact HI0.out), zm HB, by repeat (first | (with_reducible first | exact HK.out | apply KeepBut.set_ | apply keep_drewN | apply keep_drew | apply keep_alloc | refine keep_far ?_ GW245.out _ | refine keep_far ?_ GW248.out _) | exact HK.out)⟩
                  ·rw [if_neg c125] at H
                   exact absurd H (by simp)
                 ·rw [if_neg c124] at H
                  exact absurd H (by simp)
          ·replace c40 := Bool.eq_false_iff.mpr c40
           subst c40
           have H1 : (some (a1, a2, ((⟨#[113]⟩ : ByteArray) ++ t246), x249003_1, x249004_2, x1001_35)) = some (r1, r2, r3, r4, r5, r6) := by rw [if_neg (show ¬ (false = true) by decide)] at H; exact H
           clear H
           have H := H1
           clear H1
           simp only [Option.some.injEq, Prod.mk.injEq] at H
           obtain ⟨rfl, rfl, rfl, rfl, rfl, rfl⟩ := H
           have hnb141 := NB248_245.out
           have hnc141 := NB245_248.out
           have hnb142 := NB248_0.out
           have hnc142 := NB0_248.out
           obtain ⟨hcz143_0, hcz143_1, hcz143_2, hcz143_3, hcz143_4, hfz143_0, hfz143_1, hfz143_2, hfz143_3, hfz143_4⟩ := z5 BK248
           have hnb144 := NB245_0.out
           have hnc144 := NB0_245.out
           obtain ⟨hcz145_0, hcz145_1, hcz145_2, hcz145_3, hcz145_4, hfz145_0, hfz145_1, hfz145_2, hfz145_3, hfz145_4⟩ := z5 BK245
           obtain ⟨Ao146, co146, eo146⟩ := Kd.R_slice HO_249003.out
           subst eo146
           obtain ⟨Ao147, co147, eo147⟩ := Kd.R_slice HO_249004.out
           subst eo147
           go_wp2
           refine bodyPost_ret (results_cell_row rfl _ _ gb245 33 #[.int .i64 a1, .int .i64 a2, .string ((⟨#[113]⟩ : ByteArray) ++ t246), .slice Ao146 x249003_1.length co146, .slice Ao147 x249004_2.length co147] (0, 0) _ rfl (by (with_reducible repeat (first | refine blk_drewN ?_ _ | refine blk_drew ?_ | refine blk_alloc ?_ _)); refine blk_put (cs := #[.int .i64 a1, .int .i64 a2, .string ((⟨#[113]⟩ : ByteArray) ++ t246), .slice Ao146 x249003_1.length co146, .slice none 0 0]) ?_ 4 _ rfl; (with_reducible repeat (first | refine blk_drewN ?_ _ | refine blk_drew ?_ | refine blk_alloc ?_ _)); refine blk_put (cs := #[.int .i64 a1, .int .i64 a2, .string ((⟨#[113]⟩ : ByteArray) ++ t246), .slice none 0 0, .slice none 0 0]) ?_ 3 _ rfl; (with_reducible repeat (first | refine blk_drewN ?_ _ | refine blk_drew ?_ | refine blk_alloc ?_ _)); refine blk_put (cs := #[.int .i64 a1, .int .i64 a2, .string (⟨#[]⟩ : ByteArray), .slice none 0 0, .slice none 0 0]) ?_ 2 _ rfl; (with_reducible repeat (first | refine blk_drewN ?_ _ | refine blk_drew ?_ | refine blk_alloc ?_ _)); refine blk_put (cs := #[.int .i64 a1, .int .i64 0, .string (⟨#[]⟩ : ByteArray), .slice none 0 0, .slice none 0 0]) ?_ 1 _ rfl; (with_reducible repeat (first | refine blk_drewN ?_ _ | refine blk_drew ?_ | refine blk_alloc ?_ _)); refine blk_put (cs := #[.int .i64 0, .int .i64 0, .string (⟨#[]⟩ : ByteArray), .slice none 0 0, .slice none 0 0]) ?_ 0 _ rfl; (with_reducible repeat (first | refine blk_drewN ?_ _ | refine blk_drew ?_ | refine blk_alloc ?_ _)); exact BK245.out) Try.underlying33 rfl (by kernel_rfl)) rfl ?_
           exact ⟨_, _, zf, by (with_reducible repeat (first | apply Kd.R_alloc | apply Kd.R_drewN | apply Kd.R_drew)); exact Kd.R_mono (Kd.R_far (p := ⟨gb245, 4, none⟩) (Kd.R_far (p := ⟨gb245, 3, none⟩) (Kd.R_far (p := ⟨gb245, 2, none⟩) (Kd.R_far (p := ⟨gb245, 1, none⟩) (Kd.R_far (p := ⟨gb245, 0, none⟩) (Kd.R_types HO_249003.out BK245.out (by decide)) (fun _ hk => hk.2) (.int .i64 a1)) (fun _ hk => hk.2) (.int .i64 a2)) (fun _ hk => hk.2) (.string ((⟨#[113]⟩ : ByteArray) ++ t246))) (fun _ hk => hk.2) (.slice Ao146 x249003_1.length co146)) (fun _ hk => hk.2) (.slice Ao147 x249004_2.length co147)) (fun _ hk => trivial), by (with_reducible repeat (first | apply Kd.R_alloc | apply Kd.R_drewN | apply Kd.R_drew)); exact Kd.R_mono (Kd.R_far (p := ⟨gb245, 4, none⟩) (Kd.R_far (p := ⟨gb245, 3, none⟩) (Kd.R_far (p := ⟨gb245, 2, none⟩) (Kd.R_far (p := ⟨gb245, 1, none⟩) (Kd.R_far (p := ⟨gb245, 0, none⟩) (Kd.R_types HO_249004.out BK245.out (by decide)) (fun _ hk => hk.2) (.int .i64 a1)) (fun _ hk => hk.2) (.int .i64 a2)) (fun _ hk => hk.2) (.string ((⟨#[113]⟩ : ByteArray) ++ t246))) (fun _ hk => hk.2) (.slice Ao146 x249003_1.length co146)) (fun _ hk => hk.2) (.slice Ao147 x249004_2.length co147)) (fun _ hk => trivial), by repeat (first | (with_reducible first | exact HI0.out | apply IsS54.alloc | apply IsS54.drewN | apply IsS54.drew | apply IsS54.set_1 | refine IsS54.far ?_ NB0_245.out _ | refine IsS54.far ?_ NB0_248.out _) | exact HI0.out), zm HB, by repeat (first | (with_reducible first | exact HK.out | apply KeepBut.set_ | apply keep_drewN | apply keep_drew | apply keep_alloc | refine keep_far ?_ GW245.out _ | refine keep_far ?_ GW248.out _) | exact HK.out)⟩
 ·rw [if_neg c6] at H
  exact absurd H (by simp)

end Go.Proofs.Ytinmdoemkejanaa.Print
