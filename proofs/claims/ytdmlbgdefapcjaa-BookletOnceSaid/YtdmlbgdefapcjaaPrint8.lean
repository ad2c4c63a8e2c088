-- Printed by a program of this session (wip/own_print.py) out of the translation; Lean checks it.
import Derived.Test.YtdmlbgdefapcjaaShort
import Derived.Test.YtdmlbgdefapcjaaArr
import Derived.Test.YtdmlbgdefapcjaaPrint0
import Derived.Test.YtdmlbgdefapcjaaPrint1
import Derived.Test.YtdmlbgdefapcjaaPrint2
import Derived.Test.YtdmlbgdefapcjaaPrint3
import Derived.Test.YtdmlbgdefapcjaaPrint6
import Derived.Test.YtdmlbgdefapcjaaPrint7
namespace Go.Proofs.Ytdmlbgdefapcjaa.Print
open Go.RowKit Go.Proofs.YtdmlbgdefapcjaaW.PrintWords Go.Proofs.YtdmlbgdefapcjaaW.PrintLast Go.Proofs.YtdmlbgdefapcjaaW.PrintMore
attribute [local go_sem] max2_int min2_int max_two min_two max_three min_three max_four min_four   -- for this text's walks alone
set_option linter.unusedVariables false
set_option linter.unusedSimpArgs false

/-! ### awardingbodylaw12_BookletOnce: function 10 -/
mutual
def awardingbodylaw12_BookletOnce.l0 : Nat → List Int → Int → Int → Int → Int → Int → List (S23) → List (List Int) → Option (Bool)
  | 0, _, _, _, _, _, _, _, _ => none
  | k + 1, x6, x7, x8, x9, x295000, x295001, x295002, x300000 => if x9 < (x6.length : Int) then (if 0 ≤ x9 then (if 0 ≤ (rd x6 x9) then (if (rd x6 x9) < (x295002.length : Int) then (awardingbodylaw12_BookletOnce.l0 k x6 (wrap64 (x7 + ((rd_T23 x295002 (rd x6 x9)).f4))) x8 (wrap64 (x9 + 1)) x295000 x295001 x295002 x300000) else (none)) else (none)) else (none)) else (awardingbodylaw12_BookletOnce.l1 k x7 x8 (List.replicate 120 false) 0 x295000 x295001 x295002 x300000)
def awardingbodylaw12_BookletOnce.l1 : Nat → Int → Int → List Bool → Int → Int → Int → List (S23) → List (List Int) → Option (Bool)
  | 0, _, _, _, _, _, _, _, _ => none
  | k + 1, x7, x8, x10, x11, x295000, x295001, x295002, x300000 => if x11 < (x300000.length : Int) then ((booklet_Fields.f k x295000 x295001 x295002 x300000 x11).bind fun t310 => (awardingbodylaw12_BookletOnce.l2 k x7 x8 x10 x11 t310 0 x295000 x295001 x295002 x300000)) else (if x8 = x7 then ((awardingbodylaw12_awake.f k).bind fun t309 => (some t309)) else (none))
def awardingbodylaw12_BookletOnce.l2 : Nat → Int → Int → List Bool → Int → List (S53) → Int → Int → Int → List (S23) → List (List Int) → Option (Bool)
  | 0, _, _, _, _, _, _, _, _, _, _ => none
  | k + 1, x7, x8, x10, x11, x12, x13, x295000, x295001, x295002, x300000 => if x13 < (x12.length : Int) then (if 0 ≤ x13 then (if ((rd_T53 x12 x13).f0) < 0 then (none) else (if ((rd_T53 x12 x13).f0) ≥ (x295002.length : Int) then (none) else (if ((rd_T53 x12 x13).f1) < 0 then (none) else (if 0 ≤ ((rd_T53 x12 x13).f0) then (if ((rd_T53 x12 x13).f0) < (x295002.length : Int) then (if ((rd_T53 x12 x13).f1) ≥ ((rd_T23 x295002 ((rd_T53 x12 x13).f0)).f4) then (none) else (if ((rd_T53 x12 x13).f0) < 24 then (if 0 ≤ ((rd_T53 x12 x13).f1) then (if ((rd_T53 x12 x13).f1) < 5 then (if 0 ≤ (((rd_T53 x12 x13).f0) * 5 + ((rd_T53 x12 x13).f1)) then (if (((rd_T53 x12 x13).f0) * 5 + ((rd_T53 x12 x13).f1)) < (x10.length : Int) then (if rdOf false x10 (((rd_T53 x12 x13).f0) * 5 + ((rd_T53 x12 x13).f1)) = true then (none) else ((booklet_PageOf.f k x300000 ((rd_T53 x12 x13).f0)).bind fun t323 => (if t323 = x11 then (awardingbodylaw12_BookletOnce.l2 k x7 (wrap64 (x8 + 1)) (x10.set ((((rd_T53 x12 x13).f0) * 5 + ((rd_T53 x12 x13).f1)) : Int).toNat true) x11 x12 (wrap64 (x13 + 1)) x295000 x295001 x295002 x300000) else (none)))) else (none)) else (none)) else (none)) else (none)) else (none))) else (none)) else (none))))) else (none)) else (awardingbodylaw12_BookletOnce.l1 k x7 x8 x10 (wrap64 (x11 + 1)) x295000 x295001 x295002 x300000)
end
def awardingbodylaw12_BookletOnce.f (k : Nat) (l0 : List Int) : Option (Bool) := (awardingbodymake_New.f l0).bind fun bt285 => ((awardingbodymake_Tape_Long.f k bt285.1 bt285.2).bind fun bt288 => ((booklet_Make.f k bt288.1 bt288.2.1 bt288.2.2.1).bind fun bt295 => (if bt295.2 = 0 then ((item_Choices.f k bt288.1 bt288.2.1 bt288.2.2.1).bind fun t301 => (awardingbodylaw12_BookletOnce.l0 k t301 0 0 0 bt288.1 bt288.2.1 bt288.2.2.1 bt295.1)) else (if bt295.2 = 3 then ((awardingbodylaw12_awake.f k).bind fun t300 => (some t300)) else (none)))))
theorem awardingbodylaw12_BookletOnce.mono_l : ∀ k, (∀ y0 y1 y2 y3 y4 y5 y6 y7, LeO (awardingbodylaw12_BookletOnce.l0 k y0 y1 y2 y3 y4 y5 y6 y7) (awardingbodylaw12_BookletOnce.l0 (k + 1) y0 y1 y2 y3 y4 y5 y6 y7)) ∧ (∀ y0 y1 y2 y3 y4 y5 y6 y7, LeO (awardingbodylaw12_BookletOnce.l1 k y0 y1 y2 y3 y4 y5 y6 y7) (awardingbodylaw12_BookletOnce.l1 (k + 1) y0 y1 y2 y3 y4 y5 y6 y7)) ∧ (∀ y0 y1 y2 y3 y4 y5 y6 y7 y8 y9, LeO (awardingbodylaw12_BookletOnce.l2 k y0 y1 y2 y3 y4 y5 y6 y7 y8 y9) (awardingbodylaw12_BookletOnce.l2 (k + 1) y0 y1 y2 y3 y4 y5 y6 y7 y8 y9))
  | 0 => ⟨fun _ _ _ _ _ _ _ _ r h => by simp [awardingbodylaw12_BookletOnce.l0] at h, fun _ _ _ _ _ _ _ _ r h => by simp [awardingbodylaw12_BookletOnce.l1] at h, fun _ _ _ _ _ _ _ _ _ _ r h => by simp [awardingbodylaw12_BookletOnce.l2] at h⟩
  | k + 1 => by
    obtain ⟨ih0, ih1, ih2⟩ := awardingbodylaw12_BookletOnce.mono_l k
    refine ⟨?_, ?_, ?_⟩
    · intro y0 y1 y2 y3 y4 y5 y6 y7
      unfold awardingbodylaw12_BookletOnce.l0
      repeat' first
      | (with_reducible exact ih0 _ _ _ _ _ _ _ _)
      | (with_reducible exact ih1 _ _ _ _ _ _ _ _)
      | (with_reducible exact ih2 _ _ _ _ _ _ _ _ _ _)
      | (with_reducible exact awardingbodylaw12_awake.mono _)
      | (with_reducible exact awardingbodymake_Tape_Long.mono _ _ _)
      | (with_reducible exact booklet_Fields.mono _ _ _ _ _ _)
      | (with_reducible exact booklet_Make.mono _ _ _ _)
      | (with_reducible exact booklet_PageOf.mono _ _ _)
      | (with_reducible exact item_Choices.mono _ _ _ _)
      | (with_reducible exact LeO.refl _)
      | (with_reducible exact LeO.none _)
      | (with_reducible refine LeO.ite ?_ ?_)
      | (with_reducible refine LeO.bind ?_ (fun _ => ?_))
      | exact ih0 _ _ _ _ _ _ _ _
      | exact ih1 _ _ _ _ _ _ _ _
      | exact ih2 _ _ _ _ _ _ _ _ _ _
      | exact awardingbodylaw12_awake.mono _
      | exact awardingbodymake_Tape_Long.mono _ _ _
      | exact booklet_Fields.mono _ _ _ _ _ _
      | exact booklet_Make.mono _ _ _ _
      | exact booklet_PageOf.mono _ _ _
      | exact item_Choices.mono _ _ _ _
      | exact LeO.none _
      | refine LeO.ite ?_ ?_
      | refine LeO.bind ?_ (fun _ => ?_)
    · intro y0 y1 y2 y3 y4 y5 y6 y7
      unfold awardingbodylaw12_BookletOnce.l1
      repeat' first
      | (with_reducible exact ih0 _ _ _ _ _ _ _ _)
      | (with_reducible exact ih1 _ _ _ _ _ _ _ _)
      | (with_reducible exact ih2 _ _ _ _ _ _ _ _ _ _)
      | (with_reducible exact awardingbodylaw12_awake.mono _)
      | (with_reducible exact awardingbodymake_Tape_Long.mono _ _ _)
      | (with_reducible exact booklet_Fields.mono _ _ _ _ _ _)
      | (with_reducible exact booklet_Make.mono _ _ _ _)
      | (with_reducible exact booklet_PageOf.mono _ _ _)
      | (with_reducible exact item_Choices.mono _ _ _ _)
      | (with_reducible exact LeO.refl _)
      | (with_reducible exact LeO.none _)
      | (with_reducible refine LeO.ite ?_ ?_)
      | (with_reducible refine LeO.bind ?_ (fun _ => ?_))
      | exact ih0 _ _ _ _ _ _ _ _
      | exact ih1 _ _ _ _ _ _ _ _
      | exact ih2 _ _ _ _ _ _ _ _ _ _
      | exact awardingbodylaw12_awake.mono _
      | exact awardingbodymake_Tape_Long.mono _ _ _
      | exact booklet_Fields.mono _ _ _ _ _ _
      | exact booklet_Make.mono _ _ _ _
      | exact booklet_PageOf.mono _ _ _
      | exact item_Choices.mono _ _ _ _
      | exact LeO.none _
      | refine LeO.ite ?_ ?_
      | refine LeO.bind ?_ (fun _ => ?_)
    · intro y0 y1 y2 y3 y4 y5 y6 y7 y8 y9
      unfold awardingbodylaw12_BookletOnce.l2
      repeat' first
      | (with_reducible exact ih0 _ _ _ _ _ _ _ _)
      | (with_reducible exact ih1 _ _ _ _ _ _ _ _)
      | (with_reducible exact ih2 _ _ _ _ _ _ _ _ _ _)
      | (with_reducible exact awardingbodylaw12_awake.mono _)
      | (with_reducible exact awardingbodymake_Tape_Long.mono _ _ _)
      | (with_reducible exact booklet_Fields.mono _ _ _ _ _ _)
      | (with_reducible exact booklet_Make.mono _ _ _ _)
      | (with_reducible exact booklet_PageOf.mono _ _ _)
      | (with_reducible exact item_Choices.mono _ _ _ _)
      | (with_reducible exact LeO.refl _)
      | (with_reducible exact LeO.none _)
      | (with_reducible refine LeO.ite ?_ ?_)
      | (with_reducible refine LeO.bind ?_ (fun _ => ?_))
      | exact ih0 _ _ _ _ _ _ _ _
      | exact ih1 _ _ _ _ _ _ _ _
      | exact ih2 _ _ _ _ _ _ _ _ _ _
      | exact awardingbodylaw12_awake.mono _
      | exact awardingbodymake_Tape_Long.mono _ _ _
      | exact booklet_Fields.mono _ _ _ _ _ _
      | exact booklet_Make.mono _ _ _ _
      | exact booklet_PageOf.mono _ _ _
      | exact item_Choices.mono _ _ _ _
      | exact LeO.none _
      | refine LeO.ite ?_ ?_
      | refine LeO.bind ?_ (fun _ => ?_)
theorem awardingbodylaw12_BookletOnce.mono : ∀ a0 k, LeO (awardingbodylaw12_BookletOnce.f k a0) (awardingbodylaw12_BookletOnce.f (k + 1) a0) := by
  intro a0 k
  obtain ⟨ih0, ih1, ih2⟩ := awardingbodylaw12_BookletOnce.mono_l k
  unfold awardingbodylaw12_BookletOnce.f
  repeat' first
      | (with_reducible exact ih0 _ _ _ _ _ _ _ _)
      | (with_reducible exact ih1 _ _ _ _ _ _ _ _)
      | (with_reducible exact ih2 _ _ _ _ _ _ _ _ _ _)
      | (with_reducible exact awardingbodylaw12_awake.mono _)
      | (with_reducible exact awardingbodymake_Tape_Long.mono _ _ _)
      | (with_reducible exact booklet_Fields.mono _ _ _ _ _ _)
      | (with_reducible exact booklet_Make.mono _ _ _ _)
      | (with_reducible exact booklet_PageOf.mono _ _ _)
      | (with_reducible exact item_Choices.mono _ _ _ _)
      | (with_reducible exact LeO.refl _)
      | (with_reducible exact LeO.none _)
      | (with_reducible refine LeO.ite ?_ ?_)
      | (with_reducible refine LeO.bind ?_ (fun _ => ?_))
      | exact ih0 _ _ _ _ _ _ _ _
      | exact ih1 _ _ _ _ _ _ _ _
      | exact ih2 _ _ _ _ _ _ _ _ _ _
      | exact awardingbodylaw12_awake.mono _
      | exact awardingbodymake_Tape_Long.mono _ _ _
      | exact booklet_Fields.mono _ _ _ _ _ _
      | exact booklet_Make.mono _ _ _ _
      | exact booklet_PageOf.mono _ _ _
      | exact item_Choices.mono _ _ _ _
      | exact LeO.none _
      | refine LeO.ite ?_ ?_
      | refine LeO.bind ?_ (fun _ => ?_)
def awardingbodylaw12_BookletOnce.T10 : Bool × List (List Nat × List Nat) := (true, [([], []), ([], []), ([1], [1]), ([], []), ([], []), ([3, 4], [3, 4]), ([5], [5]), ([2, 6], [2, 6]), ([7], [7]), ([8], [8]), ([0, 9], [0, 9]), ([10, 0, 1, 2, 3, 4, 5, 6, 7, 8, 9, 10], [0, 10])])
def awardingbodylaw12_BookletOnce.B10 : List Nat := [0, 0, 2, 0, 0, 24, 56, 126, 254, 510, 1023, 2047]
theorem awardingbodylaw12_BookletOnce.tab10 : rtab .any (opsOf Try.f10 10) = awardingbodylaw12_BookletOnce.T10 := by kernel_rfl
theorem awardingbodylaw12_BookletOnce.bits10 : waitsOk awardingbodylaw12_BookletOnce.T10.2 awardingbodylaw12_BookletOnce.B10 = true := by kernel_rfl
def awardingbodylaw12_BookletOnce.T19 : Bool × List (List Nat × List Nat) := (true, [([], []), ([], []), ([0, 1], [0, 1]), ([2], [2]), ([3], [3]), ([4], [4]), ([5], [5]), ([6], [6]), ([6], [6]), ([7, 8, 6], [6, 7, 8]), ([9, 6], [6, 9]), ([10, 6], [6, 10]), ([6], [6]), ([12, 6], [6, 12]), ([13, 6], [6, 13]), ([11, 14, 6], [6, 11, 14]), ([6, 15], [6, 15]), ([16, 6], [16]), ([17], [17]), ([17], [17]), ([18, 19, 17], [17, 18, 19]), ([20, 17], [17, 20]), ([21, 17], [17, 21]), ([22, 17], [17, 22]), ([17, 23], [17, 23]), ([24, 17], [24]), ([25], [25]), ([25], [25]), ([26, 27, 25], [25, 26, 27]), ([28, 25], [25, 28]), ([29, 25], [25, 29]), ([25], [25]), ([31, 25], [25, 31]), ([25], [25]), ([25], [25]), ([33, 34, 25], [25, 33, 34]), ([35, 25], [25, 35]), ([36, 25], [25, 36]), ([32, 37, 25], [25, 32, 37]), ([38, 25], [25, 38]), ([39, 25], [25, 39]), ([30, 40, 25], [25, 30, 40]), ([25, 41], [25, 41]), ([42, 25], [42]), ([43], [43]), ([43], [43]), ([44, 45, 43], [43, 44, 45]), ([46, 43], [43, 46]), ([47, 43], [43, 47]), ([43], [43]), ([43], [43]), ([49, 50, 43], [43, 49, 50]), ([51, 43], [43, 51]), ([52, 43], [43, 52]), ([48, 43], [43, 48]), ([54, 53, 43], [43, 53, 54]), ([55, 43], [43, 55]), ([43, 56], [43, 56]), ([57, 43], [57]), ([58], [58]), ([58], [58]), ([58], [58]), ([60, 61, 58], [58, 60, 61]), ([62, 58], [58, 62]), ([63, 58], [58, 63]), ([59, 64, 58, 58], [58, 59, 64]), ([58], [58]), ([65, 66, 58], [58, 65, 66]), ([58, 67], [58, 67])])
def awardingbodylaw12_BookletOnce.B19 : List Nat := [0, 0, 3, 7, 15, 31, 63, 127, 127, 511, 1023, 2047, 127, 4223, 12415, 32767, 65535, 131071, 262143, 262143, 1048575, 2097151, 4194303, 8388607, 16777215, 33554431, 67108863, 67108863, 268435455, 536870911, 1073741823, 67108863, 2214592511, 67108863, 67108863, 25836912639, 60196651007, 128916127743, 272797532159, 547675439103, 1097431252991, 2199023255551, 4398046511103, 8796093022207, 17592186044415, 17592186044415, 70368744177663, 140737488355327, 281474976710655, 17592186044415, 17592186044415, 1706442046308351, 3958241859993599, 8461841487364095, 562949953421311, 36028797018963967, 72057594037927935, 144115188075855871, 288230376151711743, 576460752303423487, 576460752303423487, 576460752303423487, 4035225266123964415, 8646911284551352319, 17870283321406128127, 36893488147419103231, 576460752303423487, 147573952589676412927, 295147905179352825855]
theorem awardingbodylaw12_BookletOnce.tab19 : rtab .any (opsOf Try.f10 19) = awardingbodylaw12_BookletOnce.T19 := by kernel_rfl
theorem awardingbodylaw12_BookletOnce.bits19 : waitsOk awardingbodylaw12_BookletOnce.T19.2 awardingbodylaw12_BookletOnce.B19 = true := by kernel_rfl
def awardingbodylaw12_BookletOnce.T21 : Bool × List (List Nat × List Nat) := (true, [([], []), ([], []), ([0, 1], [0, 1]), ([2], [2]), ([3], [3]), ([], []), ([], []), ([5, 6], [5, 6]), ([7], [7]), ([8], [8]), ([4], [4]), ([10, 9, 0, 1, 2, 3, 4, 5, 6, 7, 8, 9], [9, 10]), ([11, 0, 1, 2, 3, 4, 5, 6, 7, 8, 9], [11])])
def awardingbodylaw12_BookletOnce.B21 : List Nat := [0, 0, 3, 7, 15, 0, 0, 96, 224, 480, 31, 2047, 4095]
theorem awardingbodylaw12_BookletOnce.tab21 : rtab .any (opsOf Try.f10 21) = awardingbodylaw12_BookletOnce.T21 := by kernel_rfl
theorem awardingbodylaw12_BookletOnce.bits21 : waitsOk awardingbodylaw12_BookletOnce.T21.2 awardingbodylaw12_BookletOnce.B21 = true := by kernel_rfl
set_option maxHeartbeats 8000000 in
set_option maxRecDepth 100000 in
theorem awardingbodylaw12_BookletOnce.calls (k : Nat) (A0 : Option Addr) (c0 : Nat) (l0 : List Int) (r : Bool) (w : World) (hr0 : Kd.C (Kd.int .i64) w A0 l0.length l0) (hc0 : l0.length ≤ c0) (h : awardingbodylaw12_BookletOnce.f k l0 = some r) :
    Calls Try.prog 10 #[.slice A0 l0.length c0] w fun e w' => e = .returned (.bool r) ∧ Below w.heap.size w w' := by
 have hu33 := Try.underlying33
 have hu38 := Try.underlying38
 have HR0 := za hr0
 have HC0 := za hc0
 clear hr0 hc0
 have HB := za (Below.refl w.heap.size w)
 have H : ((awardingbodymake_New.f l0).bind fun bt285 => ((awardingbodymake_Tape_Long.f k bt285.1 bt285.2).bind fun bt288 => ((booklet_Make.f k bt288.1 bt288.2.1 bt288.2.2.1).bind fun bt295 => (if bt295.2 = 0 then ((item_Choices.f k bt288.1 bt288.2.1 bt288.2.2.1).bind fun t301 => (awardingbodylaw12_BookletOnce.l0 k t301 0 0 0 bt288.1 bt288.2.1 bt288.2.2.1 bt295.1)) else (if bt295.2 = 3 then ((awardingbodylaw12_awake.f k).bind fun t300 => (some t300)) else (none)))))) = some r := h
 clear h
 replace H := Option.bind_eq_some_iff.mp H
 obtain ⟨⟨t285, t286⟩, A20, H⟩ := H
 replace H : ((awardingbodymake_Tape_Long.f k t285 t286).bind fun bt288 => ((booklet_Make.f k bt288.1 bt288.2.1 bt288.2.2.1).bind fun bt295 => (if bt295.2 = 0 then ((item_Choices.f k bt288.1 bt288.2.1 bt288.2.2.1).bind fun t301 => (awardingbodylaw12_BookletOnce.l0 k t301 0 0 0 bt288.1 bt288.2.1 bt288.2.2.1 bt295.1)) else (if bt295.2 = 3 then ((awardingbodylaw12_awake.f k).bind fun t300 => (some t300)) else (none))))) = some r := H
 have A2 := za A20
 clear A20
 replace H := Option.bind_eq_some_iff.mp H
 obtain ⟨⟨t288, t289, t290, t293⟩, A30, H⟩ := H
 replace H : ((booklet_Make.f k t288 t289 t290).bind fun bt295 => (if bt295.2 = 0 then ((item_Choices.f k t288 t289 t290).bind fun t301 => (awardingbodylaw12_BookletOnce.l0 k t301 0 0 0 t288 t289 t290 bt295.1)) else (if bt295.2 = 3 then ((awardingbodylaw12_awake.f k).bind fun t300 => (some t300)) else (none)))) = some r := H
 have A3 := za A30
 clear A30
 replace H := Option.bind_eq_some_iff.mp H
 obtain ⟨⟨t295, t298⟩, A40, H⟩ := H
 replace H : (if t298 = 0 then ((item_Choices.f k t288 t289 t290).bind fun t301 => (awardingbodylaw12_BookletOnce.l0 k t301 0 0 0 t288 t289 t290 t295)) else (if t298 = 3 then ((awardingbodylaw12_awake.f k).bind fun t300 => (some t300)) else (none))) = some r := H
 have A4 := za A40
 clear A40
 by_cases c5 : t298 = 0
 ·rw [if_pos c5] at H
  have c5b0 : (t298 == 0) = true := beq_iff_eq.mpr c5
  have c5b1 : (t298 != 0) = false := bne_eq_false_iff_eq.mpr c5
  clear c5
  replace H := Option.bind_eq_some_iff.mp H
  obtain ⟨t301, A60, H⟩ := H
  replace H : (awardingbodylaw12_BookletOnce.l0 k t301 0 0 0 t288 t289 t290 t295) = some r := H
  have A6 := za A60
  clear A60
  have H' := za H
  clear H
  go_enter Try.func10, Try.ntmps10
  go_wp2_with (first | ((with_reducible refine gate_callee (f := 15) rfl ?_); refine zL (some 15) Try.func15 #[.slice A0 l0.length c0] ?_; (with_reducible refine (awardingbodymake_New.calls _ _ l0 t285 t286 w _ ?side1 ?side2 ?side3 A2.out).mono ?_); (case side1 => repeat (first | (with_reducible first | exact HB.out | apply below_alloc | apply pw_below_drewN | apply below_drew1) | exact HB.out)); (case side2 => exact HR0.out); (case side3 => exact HC0.out); rintro e w7 ⟨g287, rfl, hi, hb, hb2⟩; refine ⟨_, rfl, ?_⟩; have HI287 := za (hi); replace HB := za (hb); (try clear hb); (try clear hb2); (try clear hk); (try clear hi)) | ((with_reducible refine gate_callee (f := 17) rfl ?_); refine zL (some 16) Try.func17 #[.pointer (some ⟨g287, 0, none⟩)] ?_; (with_reducible refine (awardingbodymake_Tape_Long.calls k g287 t285 t286 t288 t289 t290 t293 w _ ?side1 ?side2 A3.out).mono ?_); (case side1 => repeat (first | (with_reducible first | exact HI287.out | apply IsS61.alloc | apply IsS61.drewN | apply IsS61.drew | apply IsS61.set_1) | exact HI287.out)); (case side2 => repeat (first | (with_reducible first | exact HB.out | apply below_alloc | apply pw_below_drewN | apply below_drew1 | refine below_set ?_ (IsS61.ge HI287.out)) | exact HB.out)); rintro e w8 ⟨v291, rfl, ho0, hi, hb, hk⟩; refine ⟨_, rfl, ?_⟩; have HO292 := za (Kd.R_lower ho0 (below_size (zm HB))); replace HB := za (hb); replace HI287 := za (hi); (try clear hb); (try clear hb2); (try clear hk); (try clear hi); (try clear ho0)) | ((with_reducible refine gate_dst (N := 3) rfl ?_); (try (refine gate_guard (by rfl) ?_; dsimp only)); refine zE 3 #[.int .i64 0, .int .i64 0, .slice none 0 0] 33 ?_; intro gb294 hg w9 hbox hb; have BK294 := za (hbox); have GW294 := zg HB hg; have GE294 := zg HB hg; have NB287_294 := za ((by rw [hg]; exact Nat.ne_of_lt (IsS61.lt (show IsS61 w _ g287 t285 t293 from by repeat (first | (with_reducible first | exact HI287.out | apply IsS61.alloc | apply IsS61.drewN | apply IsS61.drew | apply IsS61.set_1) | exact HI287.out))) : g287 ≠ gb294)); have NB294_287 := za ((by rw [hg]; exact Nat.ne_of_gt (IsS61.lt (show IsS61 w _ g287 t285 t293 from by repeat (first | (with_reducible first | exact HI287.out | apply IsS61.alloc | apply IsS61.drewN | apply IsS61.drew | apply IsS61.set_1) | exact HI287.out))) : gb294 ≠ g287)); replace HO292 := zR HO292 hb; replace HI287 := za (IsS61.below (by repeat (first | (with_reducible first | exact HI287.out | apply IsS61.alloc | apply IsS61.drewN | apply IsS61.drew | apply IsS61.set_1) | exact HI287.out)) hb); replace HB := zs HB hb; clear hb hbox hg; have hnb10 := NB294_287.out; have hnc10 := NB287_294.out; obtain ⟨hcz11_0, hcz11_1, hcz11_2, hfz11_0, hfz11_1, hfz11_2⟩ := z3 BK294; obtain ⟨Ao12, co12, eo12⟩ := Kd.R_slice HO292.out; subst eo12) | ((with_reducible refine gate_callee (f := 18) rfl ?_); refine zL (some 19) Try.func18 #[.agg #[.int .i64 t288, .int .i64 t289, .slice Ao12 t290.length co12]] ?_; (with_reducible refine (booklet_Make.calls k t288 t289 _ _ t290 t295 t298 _ ?side1 ?side2 A4.out).mono ?_); (case side1 => refine (Kd.R_reads' (e := 23) (base := w.heap.size) (ok := fun k_ => True) (n := t290.length) (c := co12) ?_).2.2; exact (by (with_reducible repeat (first | apply Kd.R_alloc | apply Kd.R_drewN | apply Kd.R_drew)); exact (Kd.R_mono (Kd.R_far (p := ⟨gb294, 2, none⟩) (Kd.R_far (p := ⟨gb294, 1, none⟩) (Kd.R_far (p := ⟨gb294, 0, none⟩) (Kd.R_types HO292.out BK294.out (by decide)) (fun _ hk => hk.2) (.int .i64 t288)) (fun _ hk => hk.2) (.int .i64 t289)) (fun _ hk => hk.2) (.slice Ao12 t290.length co12)) (fun _ h_ => h_.1)))); (case side2 => exact (Kd.R_reads' HO292.out).2.1); rintro e w13 ⟨v296, rfl, ho0, hb⟩; refine ⟨_, rfl, ?_⟩; have HO297 := za (Kd.S_lower ho0 (below_size (zm HB))); replace HO292 := za (Kd.R_below (by (with_reducible repeat (first | apply Kd.R_alloc | apply Kd.R_drewN | apply Kd.R_drew)); exact (Kd.R_mono (Kd.R_far (p := ⟨gb294, 2, none⟩) (Kd.R_far (p := ⟨gb294, 1, none⟩) (Kd.R_far (p := ⟨gb294, 0, none⟩) (Kd.R_types HO292.out BK294.out (by decide)) (fun _ hk => hk.2) (.int .i64 t288)) (fun _ hk => hk.2) (.int .i64 t289)) (fun _ hk => hk.2) (.slice Ao12 t290.length co12)) (fun _ h_ => h_.1))) hb); replace HI287 := za (IsS61.below (show IsS61 w (((w9.setCell ⟨gb294, 0, none⟩ (.int .i64 t288)).setCell ⟨gb294, 1, none⟩ (.int .i64 t289)).setCell ⟨gb294, 2, none⟩ (.slice Ao12 t290.length co12)) g287 t285 t293 from by repeat (first | (with_reducible first | exact HI287.out | apply IsS61.alloc | apply IsS61.drewN | apply IsS61.drew | apply IsS61.set_1 | refine IsS61.far ?_ NB287_294.out _) | exact HI287.out)) hb); replace BK294 := za (blk_below (g := gb294) (o := .cells #[.int .i64 t288, .int .i64 t289, .slice Ao12 t290.length co12] 33 (0, 0)) (by (with_reducible repeat (first | refine blk_drewN ?_ _ | refine blk_drew ?_ | refine blk_alloc ?_ _)); refine blk_put (cs := #[.int .i64 t288, .int .i64 t289, .slice none 0 0]) ?_ 2 _ rfl; (with_reducible repeat (first | refine blk_drewN ?_ _ | refine blk_drew ?_ | refine blk_alloc ?_ _)); refine blk_put (cs := #[.int .i64 t288, .int .i64 0, .slice none 0 0]) ?_ 1 _ rfl; (with_reducible repeat (first | refine blk_drewN ?_ _ | refine blk_drew ?_ | refine blk_alloc ?_ _)); refine blk_put (cs := #[.int .i64 0, .int .i64 0, .slice none 0 0]) ?_ 0 _ rfl; (with_reducible repeat (first | refine blk_drewN ?_ _ | refine blk_drew ?_ | refine blk_alloc ?_ _)); exact BK294.out) hb); replace HB := zs HB hb; (try clear hb); (try clear hb2); (try clear hk); (try clear hi); (try clear ho0)) | ((with_reducible refine gate_dst (N := 4) rfl ?_); (try (refine gate_guard (by rfl) ?_; dsimp only)); refine zE 4 #[.slice none 0 0] 38 ?_; intro gb299 hg w14 hbox hb; have BK299 := za (hbox); have GW299 := zg HB hg; have GE299 := zg HB hg; have NB294_299 := zl BK294 hg; have NB299_294 := zr BK294 hg; have NB287_299 := za ((by rw [hg]; exact Nat.ne_of_lt (IsS61.lt (show IsS61 w _ g287 t285 t293 from by repeat (first | (with_reducible first | exact HI287.out | apply IsS61.alloc | apply IsS61.drewN | apply IsS61.drew | apply IsS61.set_1 | refine IsS61.far ?_ NB287_294.out _) | exact HI287.out))) : g287 ≠ gb299)); have NB299_287 := za ((by rw [hg]; exact Nat.ne_of_gt (IsS61.lt (show IsS61 w _ g287 t285 t293 from by repeat (first | (with_reducible first | exact HI287.out | apply IsS61.alloc | apply IsS61.drewN | apply IsS61.drew | apply IsS61.set_1 | refine IsS61.far ?_ NB287_294.out _) | exact HI287.out))) : gb299 ≠ g287)); replace HO292 := zR HO292 hb; replace HO297 := zS HO297 hb; replace HI287 := za (IsS61.below (by repeat (first | (with_reducible first | exact HI287.out | apply IsS61.alloc | apply IsS61.drewN | apply IsS61.drew | apply IsS61.set_1 | refine IsS61.far ?_ NB287_294.out _) | exact HI287.out)) hb); replace BK294 := zb BK294 hb; replace HB := zs HB hb; clear hb hbox hg; obtain ⟨Ao15, co15, eo15⟩ := Kd.S_slice HO297.out; subst eo15; have hnb16 := NB299_294.out; have hnc16 := NB294_299.out; have hnb17 := NB299_287.out; have hnc17 := NB287_299.out; obtain ⟨hcz18_0, hfz18_0⟩ := z1 BK299; obtain ⟨hcz19_0, hcz19_1, hcz19_2, hfz19_0, hfz19_1, hfz19_2⟩ := z3 BK294) | ((with_reducible refine gate_callee (f := 29) rfl ?_); refine zL (some 30) Try.func29 #[.agg #[.int .i64 t288, .int .i64 t289, .slice Ao12 t290.length co12]] ?_; (with_reducible refine (item_Choices.calls k t288 t289 _ _ t290 t301 _ ?side1 ?side2 A6.out).mono ?_); (case side1 => refine (Kd.R_reads' (e := 23) (base := w.heap.size) (ok := fun k_ => True) (n := t290.length) (c := co12) ?_).2.2; exact (by (with_reducible repeat (first | apply Kd.R_alloc | apply Kd.R_drewN | apply Kd.R_drew)); exact (Kd.R_mono (Kd.R_far (p := ⟨gb299, 0, none⟩) (Kd.R_types HO292.out BK299.out (by decide)) (fun _ hk => hk.2) (.slice Ao15 t295.length co15)) (fun _ h_ => h_.1)))); (case side2 => exact (Kd.R_reads' HO292.out).2.1); rintro e w20 ⟨v302, rfl, ho0, hb⟩; refine ⟨_, rfl, ?_⟩; have HO303 := za (Kd.R_lower ho0 (below_size (zm HB))); replace HO292 := za (Kd.R_below (by (with_reducible repeat (first | apply Kd.R_alloc | apply Kd.R_drewN | apply Kd.R_drew)); exact (Kd.R_mono (Kd.R_far (p := ⟨gb299, 0, none⟩) (Kd.R_types HO292.out BK299.out (by decide)) (fun _ hk => hk.2) (.slice Ao15 t295.length co15)) (fun _ h_ => h_.1))) hb); replace HO297 := za (Kd.S_elder' (by (with_reducible repeat (first | apply Kd.S_alloc | apply Kd.S_drewN | apply Kd.S_drew)); exact (Kd.S_mono (Kd.S_far (p := ⟨gb299, 0, none⟩) (Kd.S_types HO297.out BK299.out (by decide)) (fun _ hk => hk.2) (.slice Ao15 t295.length co15)) (fun _ h_ => h_.1))) (Kd.R_base ho0) hb); replace HI287 := za (IsS61.below (show IsS61 w (w14.setCell ⟨gb299, 0, none⟩ (.slice Ao15 t295.length co15)) g287 t285 t293 from by repeat (first | (with_reducible first | exact HI287.out | apply IsS61.alloc | apply IsS61.drewN | apply IsS61.drew | apply IsS61.set_1 | refine IsS61.far ?_ NB287_294.out _ | refine IsS61.far ?_ NB287_299.out _) | exact HI287.out)) hb); replace BK294 := zb BK294 hb; replace BK299 := za (blk_below (g := gb299) (o := .cells #[.slice Ao15 t295.length co15] 38 (0, 0)) (by (with_reducible repeat (first | refine blk_drewN ?_ _ | refine blk_drew ?_ | refine blk_alloc ?_ _)); refine blk_put (cs := #[.slice none 0 0]) ?_ 0 _ rfl; (with_reducible repeat (first | refine blk_drewN ?_ _ | refine blk_drew ?_ | refine blk_alloc ?_ _)); exact BK299.out) hb); replace HB := zs HB hb; (try clear hb); (try clear hb2); (try clear hk); (try clear hi); (try clear ho0)))
  go_loopg [7, 9] k (fun kq v7 v9 w' => ∃ (x7_1 : Int) (x9_1 : Int), v7 = .int .i64 x7_1 ∧ v9 = .int .i64 x9_1 ∧ Aside0 (awardingbodylaw12_BookletOnce.l0 kq t301 x7_1 0 x9_1 t288 t289 t290 t295 = some r) ∧ Aside0 (kq ≤ k) ∧ Aside0 (Kd.R (Kd.int .i64) 3 w' w.heap.size (fun _ => True) v302 t301) ∧ Aside0 (Kd.R k23 23 w' w.heap.size (fun _ => True) (.slice Ao12 t290.length co12) t290) ∧ Aside0 (Kd.S (Kd.slice 3 (Kd.int .i64)) 28 w' w.heap.size (fun k_ => some k_ ≠ (v302 : Value).ownBlock) (.slice Ao15 t295.length co15) t295) ∧ Aside0 (w'.heap[gb294]? = some (.cells #[.int .i64 t288, .int .i64 t289, (.slice Ao12 t290.length co12)] 33 (0, 0))) ∧ Aside0 (w'.heap[gb299]? = some (.cells #[(.slice Ao15 t295.length co15)] 38 (0, 0))) ∧ Aside0 (Below w.heap.size w w'))
  case atStart => exact ⟨(0), (0), (by first | rfl | (simp; done) | (simp [*]; done)), (by first | rfl | (simp; done) | (simp [*]; done)), H', ⟨Nat.le_refl _⟩, ⟨by (with_reducible repeat (first | apply Kd.R_alloc | apply Kd.R_drewN | apply Kd.R_drew)); exact HO303.out⟩, ⟨by (with_reducible repeat (first | apply Kd.R_alloc | apply Kd.R_drewN | apply Kd.R_drew)); exact HO292.out⟩, ⟨by (with_reducible repeat (first | apply Kd.S_alloc | apply Kd.S_drewN | apply Kd.S_drew)); exact Kd.S_mono HO297.out (fun _ hk => hk.2)⟩, ⟨by (with_reducible repeat (first | refine blk_drewN ?_ _ | refine blk_drew ?_ | refine blk_alloc ?_ _)); exact BK294.out⟩, ⟨by (with_reducible repeat (first | refine blk_drewN ?_ _ | refine blk_drew ?_ | refine blk_alloc ?_ _)); exact BK299.out⟩, ⟨zm HB⟩⟩
  case round =>
   clear H'
   try clear c1
   try clear c2
   try clear p2
   try clear c5
   try clear c5b0
   try clear c5b1
   try clear c10
   try clear c15
   try clear c16
   try clear c17
   try clear c18
   try clear hcz11_0
   try clear hcz11_1
   try clear hcz11_2
   try clear hcz18_0
   try clear hcz19_0
   try clear hcz19_1
   try clear hcz19_2
   try clear hfz11_0
   try clear hfz11_1
   try clear hfz11_2
   try clear hfz18_0
   try clear hfz19_0
   try clear hfz19_1
   try clear hfz19_2
   obtain ⟨x7_1, x9_1, rfl, rfl, HA, HK1, HO_6, HO_295002, HO_300000, BK294, BK299, HB⟩ := hrel
   cases gk with
   | zero => exact absurd HA.out (by simp [awardingbodylaw12_BookletOnce.l0])
   | succ k1 =>
    have H := HA.out
    clear HA
    simp only [awardingbodylaw12_BookletOnce.l0] at H
    by_cases c21 : x9_1 < (t301.length : Int)
    ·rw [if_pos c21] at H
     have c21b0 : decide (x9_1 < (t301.length : Int)) = true := decide_eq_true c21
     clear c21
     by_cases c22 : 0 ≤ x9_1
     ·rw [if_pos c22] at H
      have c22b0 : decide (0 ≤ x9_1) = true := decide_eq_true c22
      clear c22
      by_cases c23 : 0 ≤ (rd t301 x9_1)
      ·rw [if_pos c23] at H
       have c23b0 : decide (0 ≤ (rd t301 x9_1)) = true := decide_eq_true c23
       clear c23
       by_cases c24 : (rd t301 x9_1) < (t290.length : Int)
       ·rw [if_pos c24] at H
        have c24b0 : decide ((rd t301 x9_1) < (t290.length : Int)) = true := decide_eq_true c24
        clear c24
        have H' := za H
        clear H
        obtain ⟨Ao25, co25, eo25⟩ := Kd.R_slice HO_6.out
        subst eo25
        try go_wp2
        replace HO_6 := za (Kd.R_drew HO_6.out)
        replace HO_295002 := za (Kd.R_drew HO_295002.out)
        replace HO_300000 := za (Kd.S_drew HO_300000.out)
        replace BK294 := za (blk_drew BK294.out)
        replace BK299 := za (blk_drew BK299.out)
        replace HB := za (below_drew1 HB.out)
        have p304 : 0 ≤ (x9_1 : Int) := of_decide_eq_true (by first | (with_reducible assumption) | assumption)
        have q304 : x9_1 < (t301.length : Int) := of_decide_eq_true (by first | (with_reducible assumption) | assumption)
        obtain ⟨ad304, e304, hx304_0⟩ := Kd.at_int (Kd.R_reads' HO_6.out).2.2 x9_1 p304 q304
        cases e304
        replace p304 := eq_true p304
        replace q304 := eq_true q304
        have p305 : 0 ≤ ((rd t301 x9_1) : Int) := of_decide_eq_true (by first | (with_reducible assumption) | assumption)
        have q305 : (rd t301 x9_1) < (t290.length : Int) := of_decide_eq_true (by first | (with_reducible assumption) | assumption)
        obtain ⟨ad305, e305, hx305_0, hx305_1, hx305_2, hx305_3, hx305_4, hx305_5⟩ := at_T23 (Kd.R_reads' HO_295002.out).2.2 (rd t301 x9_1) p305 q305
        cases e305
        replace p305 := eq_true p305
        replace q305 := eq_true q305
        refine start_ (n := 12) (S := fun w' => w'.cell? ⟨gb294, 0, none⟩ = some (.int .i64 t288) ∧ w'.cell? ⟨gb294, 1, none⟩ = some (.int .i64 t289) ∧ w'.cell? ⟨gb294, 2, none⟩ = some (.slice (some ad305) t290.length co12) ∧ w'.cell? (ad304.add (x9_1).toNat) = some (.int .i64 (rd t301 x9_1)) ∧ w'.cell? (ad305.add (((rd t301 x9_1)).toNat * 6)) = some (.int .i64 ((rd_T23 t290 (rd t301 x9_1)).f0)) ∧ w'.cell? ⟨(ad305.add (((rd t301 x9_1)).toNat * 6)).block, (ad305.add (((rd t301 x9_1)).toNat * 6)).off + 1, none⟩ = some (.int .i64 ((rd_T23 t290 (rd t301 x9_1)).f1)) ∧ w'.cell? ⟨(ad305.add (((rd t301 x9_1)).toNat * 6)).block, (ad305.add (((rd t301 x9_1)).toNat * 6)).off + 2, none⟩ = some (.int .i64 ((rd_T23 t290 (rd t301 x9_1)).f2)) ∧ w'.cell? ⟨(ad305.add (((rd t301 x9_1)).toNat * 6)).block, (ad305.add (((rd t301 x9_1)).toNat * 6)).off + 3, none⟩ = some (.int .i64 ((rd_T23 t290 (rd t301 x9_1)).f3)) ∧ w'.cell? ⟨(ad305.add (((rd t301 x9_1)).toNat * 6)).block, (ad305.add (((rd t301 x9_1)).toNat * 6)).off + 4, none⟩ = some (.int .i64 ((rd_T23 t290 (rd t301 x9_1)).f4)) ∧ w'.cell? ⟨(ad305.add (((rd t301 x9_1)).toNat * 6)).block, (ad305.add (((rd t301 x9_1)).toNat * 6)).off + 5, none⟩ = some (.int .i64 ((rd_T23 t290 (rd t301 x9_1)).f5))) (ds := []) #[false, false, false, false, false, false, false, false, false, false, false, false] (by kernel_rfl) rfl rfl ⟨(blk_cell BK294.out 0).trans rfl, (blk_cell BK294.out 1).trans rfl, (blk_cell BK294.out 2).trans rfl, hx304_0, hx305_0, hx305_1, hx305_2, hx305_3, hx305_4, hx305_5⟩ (fun hHeld => ?_); refine with_tabW awardingbodylaw12_BookletOnce.tab10 awardingbodylaw12_BookletOnce.bits10 (fun HT_ HW_ => ?_)
        generalize wr.drew = w26 at HO_6 HO_295002 HO_300000 BK294 BK299 HB hx304_0 hx305_0 hx305_1 hx305_2 hx305_3 hx305_4 hx305_5 hHeld ⊢
        refine pure_ (i := 0) (N := some 37) (v := ?_) (a' := ?_) #[true, false, false, false, false, false, false, false, false, false, false, false] rfl rfl (any_of HT_.out (by kernel_rfl)) (fun _ _ _ h => h) (Or.inl ⟨by rfl, ?_⟩) ?_ ?_
        rotate_left
        ·intro w'
         go_simp
         with_reducible rfl
        rotate_left
        ·simp only [Act.put, List.setIfInBounds_toArray, List.set_cons_zero, List.set_cons_succ, i64_w, i32_w]
         rfl
        refine pure_ (i := 1) (N := some 38) (v := ?_) (a' := ?_) #[true, true, false, false, false, false, false, false, false, false, false, false] rfl rfl (any_of HT_.out (by kernel_rfl)) (fun _ _ _ h => h) (Or.inl ⟨by rfl, ?_⟩) ?_ ?_
        rotate_left
        ·intro w'
         go_simp
         with_reducible rfl
        rotate_left
        ·simp only [Act.put, List.setIfInBounds_toArray, List.set_cons_zero, List.set_cons_succ, i64_w, i32_w]
         rfl
        refine pure_ (i := 3) (N := some 40) (v := ?_) (a' := ?_) #[true, true, false, true, false, false, false, false, false, false, false, false] rfl rfl (any_of HT_.out (by kernel_rfl)) (fun _ _ _ h => h) (Or.inl ⟨by rfl, ?_⟩) ?_ ?_
        rotate_left
        ·intro w'
         go_simp
         with_reducible rfl
        rotate_left
        ·simp only [Act.put, List.setIfInBounds_toArray, List.set_cons_zero, List.set_cons_succ, i64_w, i32_w]
         rfl
        refine pure_ (i := 4) (N := some 41) (v := ?_) (a' := ?_) #[true, true, false, true, true, false, false, false, false, false, false, false] rfl rfl (any_of HT_.out (by kernel_rfl)) (fun _ _ _ h => h) (Or.inl ⟨by rfl, ?_⟩) ?_ ?_
        rotate_left
        ·intro w'
         go_simp
         with_reducible rfl
        rotate_left
        ·simp only [Act.put, List.setIfInBounds_toArray, List.set_cons_zero, List.set_cons_succ, i64_w, i32_w]
         rfl
        refine pure_ (i := 5) (N := some 42) (v := ?_) (a' := ?_) #[true, true, false, true, true, true, false, false, false, false, false, false] rfl rfl (any_of HT_.out (by kernel_rfl)) (fun _ _ _ h => h) (Or.inl ⟨by rfl, ?_⟩) ?_ ?_
        rotate_left
        ·intro w'
         go_simp
         with_reducible rfl
        rotate_left
        ·simp only [Act.put, List.setIfInBounds_toArray, List.set_cons_zero, List.set_cons_succ, i64_w, i32_w]
         rfl
        refine take_ (i := 2) (N := some 39) (v := ?_) (a' := ?_) #[true, true, true, true, true, true, false, false, false, false, false, false] rfl rfl (take_ofW HT_.out HW_.out (by kernel_rfl)) (fun _ _ _ h => h) (Or.inl ⟨by rfl, ?_⟩) hHeld ?_ ?_
        rotate_left
        ·rintro w' ⟨s0, s1, s2, s3, s4, s5, s6, s7, s8, s9⟩
         go_simp
         with_reducible rfl
        rotate_left
        ·simp only [Act.put, List.setIfInBounds_toArray, List.set_cons_zero, List.set_cons_succ, i64_w, i32_w]
         rfl
        refine take_ (i := 6) (N := some 43) (v := ?_) (a' := ?_) #[true, true, true, true, true, true, true, false, false, false, false, false] rfl rfl (take_ofW HT_.out HW_.out (by kernel_rfl)) (fun _ _ _ h => h) (Or.inl ⟨by rfl, ?_⟩) hHeld ?_ ?_
        rotate_left
        ·rintro w' ⟨s0, s1, s2, s3, s4, s5, s6, s7, s8, s9⟩
         go_simp
         with_reducible rfl
        rotate_left
        ·simp only [Act.put, List.setIfInBounds_toArray, List.set_cons_zero, List.set_cons_succ, i64_w, i32_w]
         rfl
        refine pure_ (i := 7) (N := some 44) (v := ?_) (a' := ?_) #[true, true, true, true, true, true, true, true, false, false, false, false] rfl rfl (any_of HT_.out (by kernel_rfl)) (fun _ _ _ h => h) (Or.inl ⟨by rfl, ?_⟩) ?_ ?_
        rotate_left
        ·intro w'
         go_simp
         with_reducible rfl
        rotate_left
        ·simp only [Act.put, List.setIfInBounds_toArray, List.set_cons_zero, List.set_cons_succ, i64_w, i32_w]
         rfl
        refine pure_ (i := 8) (N := some 45) (v := ?_) (a' := ?_) #[true, true, true, true, true, true, true, true, true, false, false, false] rfl rfl (any_of HT_.out (by kernel_rfl)) (fun _ _ _ h => h) (Or.inl ⟨by rfl, ?_⟩) ?_ ?_
        rotate_left
        ·intro w'
         go_simp
         with_reducible rfl
        rotate_left
        ·simp only [Act.put, List.setIfInBounds_toArray, List.set_cons_zero, List.set_cons_succ, i64_w, i32_w]
         rfl
        refine take_ (i := 9) (N := some 46) (v := ?_) (a' := ?_) #[true, true, true, true, true, true, true, true, true, true, false, false] rfl rfl (take_ofW HT_.out HW_.out (by kernel_rfl)) (fun _ _ _ h => h) (Or.inl ⟨by rfl, ?_⟩) hHeld ?_ ?_
        rotate_left
        ·rintro w' ⟨s0, s1, s2, s3, s4, s5, s6, s7, s8, s9⟩
         go_simp
         with_reducible rfl
        rotate_left
        ·simp only [Act.put, List.setIfInBounds_toArray, List.set_cons_zero, List.set_cons_succ, i64_w, i32_w]
         rfl
        refine pure_ (i := 10) (N := some 47) (v := ?_) (a' := ?_) #[true, true, true, true, true, true, true, true, true, true, true, false] rfl rfl (any_of HT_.out (by kernel_rfl)) (fun _ _ _ h => h) (Or.inl ⟨by rfl, ?_⟩) ?_ ?_
        rotate_left
        ·intro w'
         go_simp
         with_reducible rfl
        rotate_left
        ·simp only [Act.put, List.setIfInBounds_toArray, List.set_cons_zero, List.set_cons_succ, i64_w, i32_w]
         rfl
        refine pure_ (i := 11) (N := some 7) (v := ?_) (a' := ?_) #[true, true, true, true, true, true, true, true, true, true, true, true] rfl rfl (any_of HT_.out (by kernel_rfl)) (fun _ _ _ h => h) (Or.inl ⟨by rfl, ?_⟩) ?_ ?_
        rotate_left
        ·intro w'
         go_simp
         with_reducible rfl
        rotate_left
        ·simp only [Act.put, List.setIfInBounds_toArray, List.set_cons_zero, List.set_cons_succ, i64_w, i32_w]
         rfl
        refine done_ (done_of HT_.out (by kernel_rfl)) ?_
        try go_wp2
        go_roundg k1
        case measure => have := HK1.out; omega
        case rel => exact ⟨(wrap64 (x7_1 + ((rd_T23 t290 (rd t301 x9_1)).f4))), (wrap64 (x9_1 + 1)), (by first | rfl | (simp; done) | (simp [*]; done)), (by first | rfl | (simp; done) | (simp [*]; done)), H', ⟨by have := HK1.out; omega⟩, ⟨by (with_reducible repeat (first | apply Kd.R_alloc | apply Kd.R_drewN | apply Kd.R_drew)); exact HO_6.out⟩, ⟨by (with_reducible repeat (first | apply Kd.R_alloc | apply Kd.R_drewN | apply Kd.R_drew)); exact HO_295002.out⟩, ⟨by (with_reducible repeat (first | apply Kd.S_alloc | apply Kd.S_drewN | apply Kd.S_drew)); exact HO_300000.out⟩, ⟨by (with_reducible repeat (first | refine blk_drewN ?_ _ | refine blk_drew ?_ | refine blk_alloc ?_ _)); exact BK294.out⟩, ⟨by (with_reducible repeat (first | refine blk_drewN ?_ _ | refine blk_drew ?_ | refine blk_alloc ?_ _)); exact BK299.out⟩, ⟨zm HB⟩⟩
       ·rw [if_neg c24] at H
        exact absurd H (by simp)
      ·rw [if_neg c23] at H
       exact absurd H (by simp)
     ·rw [if_neg c22] at H
      exact absurd H (by simp)
    ·rw [if_neg c21] at H
     have c21b0 : decide (x9_1 < (t301.length : Int)) = false := decide_eq_false c21
     clear c21
     obtain ⟨y306, hy306⟩ : ∃ y_ : List Bool, y_ = (List.replicate 120 false) := ⟨_, rfl⟩
     replace H : (awardingbodylaw12_BookletOnce.l1 k1 x7_1 0 y306 0 t288 t289 t290 t295) = some r := by first | (rw [hy306]; with_reducible exact H) | (have H2_ := (Option.bind_some _ _).symm.trans H; rw [hy306]; with_reducible exact H2_) | (have H2_ := (Option.bind_some _ _).symm.trans H; with_reducible exact H2_) | with_reducible exact H | (rw [hy306]; exact H) | exact H
     have Ny306 := za hy306
     clear hy306
     have H' := za H
     clear H
     obtain ⟨Ao27, co27, eo27⟩ := Kd.R_slice HO_6.out
     subst eo27
     go_wp2_with (first | ((with_reducible refine gate_dst (N := 10) rfl ?_); (try (refine gate_guard (by rfl) ?_; dsimp only)); refine arr_event ?hg (N := 10) ?hd (n := 120) (T := 57) (ok := fun _ => True) (by decide) ?hr trivial (Nat.le_refl _) ?_; (case hd => rfl); (case hg => rfl); (case hr => first | rfl | (go_simp; done) | (go_simp; rfl)); intro v307 w28 ho29 hb hg_ hnew_; clear hg_ hnew_; (first | rw [← Ny306.out] at ho29 | (simp only [Int.reduceToNat] at ho29; rw [← Ny306.out] at ho29)); have HO308 := za (Kd.R_lower ho29 (below_size (zm HB))); replace HO_6 := zR HO_6 hb; replace HO_295002 := zR HO_295002 hb; replace HO_300000 := zS HO_300000 hb; replace BK294 := zb BK294 hb; replace BK299 := zb BK299 hb; replace HB := zs HB hb; clear hb ho29))
     go_loopg [8, 11] k1 (fun kq v8 v11 w' => ∃ (x8_2 : Int) (x10_2 : List Bool) (x11_2 : Int), v8 = .int .i64 x8_2 ∧ v11 = .int .i64 x11_2 ∧ Aside0 (awardingbodylaw12_BookletOnce.l1 kq x7_1 x8_2 x10_2 x11_2 t288 t289 t290 t295 = some r) ∧ Aside0 (kq ≤ k1) ∧ Aside0 (Kd.R Kd.bool 57 w' w.heap.size (fun _ => True) v307 x10_2) ∧ Aside0 (Kd.R k23 23 w' w.heap.size (fun _ => True) (.slice Ao12 t290.length co12) t290) ∧ Aside0 (Kd.S (Kd.slice 3 (Kd.int .i64)) 28 w' w.heap.size (fun _ => True) (.slice Ao15 t295.length co15) t295) ∧ Aside0 (w'.heap[gb294]? = some (.cells #[.int .i64 t288, .int .i64 t289, (.slice Ao12 t290.length co12)] 33 (0, 0))) ∧ Aside0 (w'.heap[gb299]? = some (.cells #[(.slice Ao15 t295.length co15)] 38 (0, 0))) ∧ Aside0 (Below w.heap.size w w'))
     case atStart => exact ⟨(0), (y306), (0), (by first | rfl | (simp; done) | (simp [*]; done)), (by first | rfl | (simp; done) | (simp [*]; done)), H', ⟨Nat.le_refl _⟩, ⟨by (with_reducible repeat (first | apply Kd.R_alloc | apply Kd.R_drewN | apply Kd.R_drew)); exact HO308.out⟩, ⟨by (with_reducible repeat (first | apply Kd.R_alloc | apply Kd.R_drewN | apply Kd.R_drew)); exact HO_295002.out⟩, ⟨by (with_reducible repeat (first | apply Kd.S_alloc | apply Kd.S_drewN | apply Kd.S_drew)); exact Kd.S_mono HO_300000.out (fun _ hk => trivial)⟩, ⟨by (with_reducible repeat (first | refine blk_drewN ?_ _ | refine blk_drew ?_ | refine blk_alloc ?_ _)); exact BK294.out⟩, ⟨by (with_reducible repeat (first | refine blk_drewN ?_ _ | refine blk_drew ?_ | refine blk_alloc ?_ _)); exact BK299.out⟩, ⟨zm HB⟩⟩
     case round =>
      clear H'
      try clear c1
      try clear c2
      try clear p2
      try clear p3
      try clear q3
      try clear hx3
      try clear c5
      try clear c5b0
      try clear c5b1
      try clear p6
      try clear c10
      try clear c15
      try clear c16
      try clear c17
      try clear c18
      try clear c21
      try clear c21b0
      try clear c22
      try clear c22b0
      try clear c23
      try clear c23b0
      try clear c24
      try clear c24b0
      try clear c29
      try clear hcz11_0
      try clear hcz11_1
      try clear hcz11_2
      try clear hcz18_0
      try clear hcz19_0
      try clear hcz19_1
      try clear hcz19_2
      try clear hfz11_0
      try clear hfz11_1
      try clear hfz11_2
      try clear hfz18_0
      try clear hfz19_0
      try clear hfz19_1
      try clear hfz19_2
      try clear hx304_0
      try clear hx305_0
      try clear hx305_1
      try clear hx305_2
      try clear hx305_3
      try clear hx305_4
      try clear hx305_5
      try clear p2
      try clear p304
      try clear p305
      try clear q304
      try clear q305
      obtain ⟨x8_2, x10_2, x11_2, rfl, rfl, HA, HK2, HO_10, HO_295002, HO_300000, BK294, BK299, HB⟩ := hrel
      cases gk with
      | zero => exact absurd HA.out (by simp [awardingbodylaw12_BookletOnce.l1])
      | succ k2 =>
       have H := HA.out
       clear HA
       simp only [awardingbodylaw12_BookletOnce.l1] at H
       by_cases c30 : x11_2 < (t295.length : Int)
       ·rw [if_pos c30] at H
        have c30b0 : decide (x11_2 < (t295.length : Int)) = true := decide_eq_true c30
        clear c30
        replace H := Option.bind_eq_some_iff.mp H
        obtain ⟨t310, A310, H⟩ := H
        replace H : (awardingbodylaw12_BookletOnce.l2 k2 x7_1 x8_2 x10_2 x11_2 t310 0 t288 t289 t290 t295) = some r := H
        have A31 := za A310
        clear A310
        have H' := za H
        clear H
        have hnb32 := NB299_294.out
        have hnc32 := NB294_299.out
        obtain ⟨hcz33_0, hfz33_0⟩ := z1 BK299
        obtain ⟨hcz34_0, hcz34_1, hcz34_2, hfz34_0, hfz34_1, hfz34_2⟩ := z3 BK294
        go_wp2_with (first | ((with_reducible refine gate_callee (f := 27) rfl ?_); refine zL (some 58) Try.func27 #[.agg #[.int .i64 t288, .int .i64 t289, .slice Ao12 t290.length co12], .agg #[.slice Ao15 t295.length co15], .int .i64 x11_2] ?_; (with_reducible refine (booklet_Fields.calls k2 t288 t289 _ _ t290 _ _ t295 x11_2 t310 _ ?side1 ?side2 ?side3 ?side4 A31.out).mono ?_); (case side1 => exact zD HO_295002); (case side2 => exact (Kd.R_reads' HO_295002.out).2.1); (case side3 => repeat (first | exact (Kd.S_reads' HO_300000.out).2.2 | (with_reducible refine Kd.C_alloc ?_ _) | (with_reducible refine Kd.C_drewN ?_ _) | (with_reducible refine Kd.C_drew ?_))); (case side4 => exact (Kd.S_reads' HO_300000.out).2.1); rintro e w35 ⟨v311, rfl, ho0, hb⟩; refine ⟨_, rfl, ?_⟩; have HO312 := za (Kd.R_lower ho0 (below_size (zm HB))); replace HO_10 := zR HO_10 hb; replace HO_295002 := zR HO_295002 hb; replace HO_300000 := zS HO_300000 hb; replace BK294 := zb BK294 hb; replace BK299 := zb BK299 hb; replace HB := zs HB hb; (try clear hb); (try clear hb2); (try clear hk); (try clear hi); (try clear ho0)))
        go_loopg [8, 13] k2 (fun kq v8 v13 w' => ∃ (x8_3 : Int) (x10_3 : List Bool) (x13_3 : Int), v8 = .int .i64 x8_3 ∧ v13 = .int .i64 x13_3 ∧ Aside0 (awardingbodylaw12_BookletOnce.l2 kq x7_1 x8_3 x10_3 x11_2 t310 x13_3 t288 t289 t290 t295 = some r) ∧ Aside0 (kq ≤ k2) ∧ Aside0 (Kd.R Kd.bool 57 w' w.heap.size (fun _ => True) v307 x10_3) ∧ Aside0 (Kd.R k53 53 w' w.heap.size (fun _ => True) v311 t310) ∧ Aside0 (Kd.R k23 23 w' w.heap.size (fun _ => True) (.slice Ao12 t290.length co12) t290) ∧ Aside0 (Kd.S (Kd.slice 3 (Kd.int .i64)) 28 w' w.heap.size (fun _ => True) (.slice Ao15 t295.length co15) t295) ∧ Aside0 (w'.heap[gb294]? = some (.cells #[.int .i64 t288, .int .i64 t289, (.slice Ao12 t290.length co12)] 33 (0, 0))) ∧ Aside0 (w'.heap[gb299]? = some (.cells #[(.slice Ao15 t295.length co15)] 38 (0, 0))) ∧ Aside0 (Below w.heap.size w w'))
        case atStart => exact ⟨(x8_2), (x10_2), (0), (by first | rfl | (simp; done) | (simp [*]; done)), (by first | rfl | (simp; done) | (simp [*]; done)), H', ⟨Nat.le_refl _⟩, ⟨by (with_reducible repeat (first | apply Kd.R_alloc | apply Kd.R_drewN | apply Kd.R_drew)); exact HO_10.out⟩, ⟨by (with_reducible repeat (first | apply Kd.R_alloc | apply Kd.R_drewN | apply Kd.R_drew)); exact HO312.out⟩, ⟨by (with_reducible repeat (first | apply Kd.R_alloc | apply Kd.R_drewN | apply Kd.R_drew)); exact HO_295002.out⟩, ⟨by (with_reducible repeat (first | apply Kd.S_alloc | apply Kd.S_drewN | apply Kd.S_drew)); exact HO_300000.out⟩, ⟨by (with_reducible repeat (first | refine blk_drewN ?_ _ | refine blk_drew ?_ | refine blk_alloc ?_ _)); exact BK294.out⟩, ⟨by (with_reducible repeat (first | refine blk_drewN ?_ _ | refine blk_drew ?_ | refine blk_alloc ?_ _)); exact BK299.out⟩, ⟨zm HB⟩⟩
        case round =>
         clear H'
         try clear c1
         try clear c2
         try clear p2
         try clear c3
         try clear p3
         try clear q3
         try clear hx3
         try clear c5
         try clear c5b0
         try clear c5b1
         try clear p6
         try clear c10
         try clear c15
         try clear c16
         try clear c17
         try clear c18
         try clear c21
         try clear c21b0
         try clear c22
         try clear c22b0
         try clear c23
         try clear c23b0
         try clear c24
         try clear c24b0
         try clear c27
         try clear c29
         try clear c30
         try clear c30b0
         try clear p30
         try clear q30
         try clear hx30
         try clear c32
         try clear hcz11_0
         try clear hcz11_1
         try clear hcz11_2
         try clear hcz18_0
         try clear hcz19_0
         try clear hcz19_1
         try clear hcz19_2
         try clear hcz33_0
         try clear hcz34_0
         try clear hcz34_1
         try clear hcz34_2
         try clear hfz11_0
         try clear hfz11_1
         try clear hfz11_2
         try clear hfz18_0
         try clear hfz19_0
         try clear hfz19_1
         try clear hfz19_2
         try clear hfz33_0
         try clear hfz34_0
         try clear hfz34_1
         try clear hfz34_2
         try clear hx304_0
         try clear hx305_0
         try clear hx305_1
         try clear hx305_2
         try clear hx305_3
         try clear hx305_4
         try clear hx305_5
         try clear p2
         try clear p3
         try clear p304
         try clear p305
         try clear p6
         try clear q3
         try clear q304
         try clear q305
         obtain ⟨x8_3, x10_3, x13_3, rfl, rfl, HA, HK3, HO_10, HO_12, HO_295002, HO_300000, BK294, BK299, HB⟩ := hrel
         cases gk with
         | zero => exact absurd HA.out (by simp [awardingbodylaw12_BookletOnce.l2])
         | succ k3 =>
          have H := HA.out
          clear HA
          simp only [awardingbodylaw12_BookletOnce.l2] at H
          by_cases c36 : x13_3 < (t310.length : Int)
          ·rw [if_pos c36] at H
           have c36b0 : decide (x13_3 < (t310.length : Int)) = true := decide_eq_true c36
           clear c36
           by_cases c37 : 0 ≤ x13_3
           ·rw [if_pos c37] at H
            have c37b0 : decide (0 ≤ x13_3) = true := decide_eq_true c37
            clear c37
            by_cases c38 : ((rd_T53 t310 x13_3).f0) < 0
            ·rw [if_pos c38] at H
             have c38b0 : decide (((rd_T53 t310 x13_3).f0) < 0) = true := decide_eq_true c38
             clear c38
             exact absurd H (by simp)
            ·rw [if_neg c38] at H
             have c38b0 : decide (((rd_T53 t310 x13_3).f0) < 0) = false := decide_eq_false c38
             clear c38
             by_cases c39 : ((rd_T53 t310 x13_3).f0) ≥ (t290.length : Int)
             ·rw [if_pos c39] at H
              have c39b0 : decide ((t290.length : Int) ≤ ((rd_T53 t310 x13_3).f0)) = true := decide_eq_true c39
              clear c39
              exact absurd H (by simp)
             ·rw [if_neg c39] at H
              have c39b0 : decide ((t290.length : Int) ≤ ((rd_T53 t310 x13_3).f0)) = false := decide_eq_false c39
              clear c39
              by_cases c40 : ((rd_T53 t310 x13_3).f1) < 0
              ·rw [if_pos c40] at H
               have c40b0 : decide (((rd_T53 t310 x13_3).f1) < 0) = true := decide_eq_true c40
               clear c40
               exact absurd H (by simp)
              ·rw [if_neg c40] at H
               have c40b0 : decide (((rd_T53 t310 x13_3).f1) < 0) = false := decide_eq_false c40
               clear c40
               by_cases c41 : 0 ≤ ((rd_T53 t310 x13_3).f0)
               ·rw [if_pos c41] at H
                have c41b0 : decide (0 ≤ ((rd_T53 t310 x13_3).f0)) = true := decide_eq_true c41
                clear c41
                by_cases c42 : ((rd_T53 t310 x13_3).f0) < (t290.length : Int)
                ·rw [if_pos c42] at H
                 have c42b0 : decide (((rd_T53 t310 x13_3).f0) < (t290.length : Int)) = true := decide_eq_true c42
                 clear c42
                 by_cases c43 : ((rd_T53 t310 x13_3).f1) ≥ ((rd_T23 t290 ((rd_T53 t310 x13_3).f0)).f4)
                 ·rw [if_pos c43] at H
                  have c43b0 : decide (((rd_T23 t290 ((rd_T53 t310 x13_3).f0)).f4) ≤ ((rd_T53 t310 x13_3).f1)) = true := decide_eq_true c43
                  clear c43
                  exact absurd H (by simp)
                 ·rw [if_neg c43] at H
                  have c43b0 : decide (((rd_T23 t290 ((rd_T53 t310 x13_3).f0)).f4) ≤ ((rd_T53 t310 x13_3).f1)) = false := decide_eq_false c43
                  clear c43
                  by_cases c44 : ((rd_T53 t310 x13_3).f0) < 24
                  ·rw [if_pos c44] at H
                   have c44b0 : decide (((rd_T53 t310 x13_3).f0) < 24) = true := decide_eq_true c44
                   clear c44
                   by_cases c45 : 0 ≤ ((rd_T53 t310 x13_3).f1)
                   ·rw [if_pos c45] at H
                    have c45b0 : decide (0 ≤ ((rd_T53 t310 x13_3).f1)) = true := decide_eq_true c45
                    clear c45
                    by_cases c46 : ((rd_T53 t310 x13_3).f1) < 5
                    ·rw [if_pos c46] at H
                     have c46b0 : decide (((rd_T53 t310 x13_3).f1) < 5) = true := decide_eq_true c46
                     clear c46
                     obtain ⟨ji47, hji47⟩ : ∃ j_ : Int, (((rd_T53 t310 x13_3).f0) * 5 + ((rd_T53 t310 x13_3).f1)) = j_ := ⟨_, rfl⟩
                     replace H : (if 0 ≤ (ji47) then (if (ji47) < (x10_3.length : Int) then (if rdOf false x10_3 (ji47) = true then (none) else ((booklet_PageOf.f k3 t295 ((rd_T53 t310 x13_3).f0)).bind fun t323 => (if t323 = x11_2 then (awardingbodylaw12_BookletOnce.l2 k3 x7_1 (wrap64 (x8_3 + 1)) (x10_3.set ((ji47) : Int).toNat true) x11_2 t310 (wrap64 (x13_3 + 1)) t288 t289 t290 t295) else (none)))) else (none)) else (none)) = some r := by first | (rw [hji47] at H; exact H) | (simp only [hji47] at H ⊢; exact H)
                     by_cases c48 : 0 ≤ (ji47)
                     ·rw [if_pos c48] at H
                      have c48b0 : decide (0 ≤ (ji47)) = true := decide_eq_true c48
                      clear c48
                      by_cases c49 : (ji47) < (x10_3.length : Int)
                      ·rw [if_pos c49] at H
                       have c49b0 : decide ((ji47) < (x10_3.length : Int)) = true := decide_eq_true c49
                       clear c49
                       obtain ⟨bq50, hbq50⟩ : ∃ b_ : Bool, b_ = (rdOf false x10_3 (ji47)) := ⟨_, rfl⟩
                       replace H : (if bq50 = true then (none) else ((booklet_PageOf.f k3 t295 ((rd_T53 t310 x13_3).f0)).bind fun t323 => (if t323 = x11_2 then (awardingbodylaw12_BookletOnce.l2 k3 x7_1 (wrap64 (x8_3 + 1)) (x10_3.set ((ji47) : Int).toNat true) x11_2 t310 (wrap64 (x13_3 + 1)) t288 t289 t290 t295) else (none)))) = some r := by rw [← hbq50] at H; exact H
                       have Nbq50 := za hbq50
                       clear hbq50
                       by_cases c51 : bq50 = true
                       ·subst c51
                        (try rw [← Nbq50.out] at A2)
                        (try rw [← Nbq50.out] at A3)
                        (try rw [← Nbq50.out] at A4)
                        (try rw [← Nbq50.out] at A6)
                        (try rw [← Nbq50.out] at A31)
                        have H1 : (none) = some r := by rw [if_pos rfl] at H; exact H
                        clear H
                        have H := H1
                        clear H1
                        exact absurd H (by simp)
                       ·replace c51 := Bool.eq_false_iff.mpr c51
                        subst c51
                        (try rw [← Nbq50.out] at A2)
                        (try rw [← Nbq50.out] at A3)
                        (try rw [← Nbq50.out] at A4)
                        (try rw [← Nbq50.out] at A6)
                        (try rw [← Nbq50.out] at A31)
                        have H1 : ((booklet_PageOf.f k3 t295 ((rd_T53 t310 x13_3).f0)).bind fun t323 => (if t323 = x11_2 then (awardingbodylaw12_BookletOnce.l2 k3 x7_1 (wrap64 (x8_3 + 1)) (x10_3.set ((ji47) : Int).toNat true) x11_2 t310 (wrap64 (x13_3 + 1)) t288 t289 t290 t295) else (none))) = some r := by rw [if_neg (show ¬ (false = true) by decide)] at H; exact H
                        clear H
                        have H := H1
                        clear H1
                        replace H := Option.bind_eq_some_iff.mp H
                        obtain ⟨t323, A520, H⟩ := H
                        replace H : (if t323 = x11_2 then (awardingbodylaw12_BookletOnce.l2 k3 x7_1 (wrap64 (x8_3 + 1)) (x10_3.set ((ji47) : Int).toNat true) x11_2 t310 (wrap64 (x13_3 + 1)) t288 t289 t290 t295) else (none)) = some r := H
                        have A52 := za A520
                        clear A520
                        by_cases c53 : t323 = x11_2
                        ·rw [if_pos c53] at H
                         have c53b0 : (t323 == x11_2) = true := beq_iff_eq.mpr c53
                         have c53b1 : (t323 != x11_2) = false := bne_eq_false_iff_eq.mpr c53
                         clear c53
                         obtain ⟨y326, hy326⟩ : ∃ y_ : List Bool, y_ = (x10_3.set ((ji47) : Int).toNat true) := ⟨_, rfl⟩
                         replace H : (awardingbodylaw12_BookletOnce.l2 k3 x7_1 (wrap64 (x8_3 + 1)) y326 x11_2 t310 (wrap64 (x13_3 + 1)) t288 t289 t290 t295) = some r := by first | (rw [hy326]; with_reducible exact H) | (have H2_ := (Option.bind_some _ _).symm.trans H; rw [hy326]; with_reducible exact H2_) | (have H2_ := (Option.bind_some _ _).symm.trans H; with_reducible exact H2_) | with_reducible exact H | (rw [hy326]; exact H) | exact H
                         have Ny326 := za hy326
                         clear hy326
                         have H' := za H
                         clear H
                         obtain ⟨Ao55, co55, eo55⟩ := Kd.R_slice HO_12.out
                         subst eo55
                         try go_wp2
                         replace HO_10 := za (Kd.R_drew HO_10.out)
                         replace HO_12 := za (Kd.R_drew HO_12.out)
                         replace HO_295002 := za (Kd.R_drew HO_295002.out)
                         replace HO_300000 := za (Kd.S_drew HO_300000.out)
                         replace BK294 := za (blk_drew BK294.out)
                         replace BK299 := za (blk_drew BK299.out)
                         replace HB := za (below_drew1 HB.out)
                         have p313 : 0 ≤ (x13_3 : Int) := of_decide_eq_true (by first | (with_reducible assumption) | assumption)
                         have q313 : x13_3 < (t310.length : Int) := of_decide_eq_true (by first | (with_reducible assumption) | assumption)
                         obtain ⟨ad313, e313, hx313_0, hx313_1⟩ := at_T53 (Kd.R_reads' HO_12.out).2.2 x13_3 p313 q313
                         cases e313
                         replace p313 := eq_true p313
                         replace q313 := eq_true q313
                         have p314 : 0 ≤ (x13_3 : Int) := of_decide_eq_true (by first | (with_reducible assumption) | assumption)
                         have q314 : x13_3 < (t310.length : Int) := of_decide_eq_true (by first | (with_reducible assumption) | assumption)
                         obtain ⟨ad314, e314, hx314_0, hx314_1⟩ := at_T53 (Kd.R_reads' HO_12.out).2.2 x13_3 p314 q314
                         obtain rfl : ad313 = ad314 := (by injection e314)
                         replace p314 := eq_true p314
                         replace q314 := eq_true q314
                         have p315 : 0 ≤ (x13_3 : Int) := of_decide_eq_true (by first | (with_reducible assumption) | assumption)
                         have q315 : x13_3 < (t310.length : Int) := of_decide_eq_true (by first | (with_reducible assumption) | assumption)
                         obtain ⟨ad315, e315, hx315_0, hx315_1⟩ := at_T53 (Kd.R_reads' HO_12.out).2.2 x13_3 p315 q315
                         obtain rfl : ad313 = ad315 := (by injection e315)
                         replace p315 := eq_true p315
                         replace q315 := eq_true q315
                         have p316 : 0 ≤ (x13_3 : Int) := of_decide_eq_true (by first | (with_reducible assumption) | assumption)
                         have q316 : x13_3 < (t310.length : Int) := of_decide_eq_true (by first | (with_reducible assumption) | assumption)
                         obtain ⟨ad316, e316, hx316_0, hx316_1⟩ := at_T53 (Kd.R_reads' HO_12.out).2.2 x13_3 p316 q316
                         obtain rfl : ad313 = ad316 := (by injection e316)
                         replace p316 := eq_true p316
                         replace q316 := eq_true q316
                         have p317 : 0 ≤ (x13_3 : Int) := of_decide_eq_true (by first | (with_reducible assumption) | assumption)
                         have q317 : x13_3 < (t310.length : Int) := of_decide_eq_true (by first | (with_reducible assumption) | assumption)
                         obtain ⟨ad317, e317, hx317_0, hx317_1⟩ := at_T53 (Kd.R_reads' HO_12.out).2.2 x13_3 p317 q317
                         obtain rfl : ad313 = ad317 := (by injection e317)
                         replace p317 := eq_true p317
                         replace q317 := eq_true q317
                         have p318 : 0 ≤ (((rd_T53 t310 x13_3).f0) : Int) := of_decide_eq_true (by first | (with_reducible assumption) | assumption)
                         have q318 : ((rd_T53 t310 x13_3).f0) < (t290.length : Int) := of_decide_eq_true (by first | (with_reducible assumption) | assumption)
                         obtain ⟨ad318, e318, hx318_0, hx318_1, hx318_2, hx318_3, hx318_4, hx318_5⟩ := at_T23 (Kd.R_reads' HO_295002.out).2.2 ((rd_T53 t310 x13_3).f0) p318 q318
                         cases e318
                         replace p318 := eq_true p318
                         replace q318 := eq_true q318
                         have p319 : 0 ≤ (x13_3 : Int) := of_decide_eq_true (by first | (with_reducible assumption) | assumption)
                         have q319 : x13_3 < (t310.length : Int) := of_decide_eq_true (by first | (with_reducible assumption) | assumption)
                         obtain ⟨ad319, e319, hx319_0, hx319_1⟩ := at_T53 (Kd.R_reads' HO_12.out).2.2 x13_3 p319 q319
                         obtain rfl : ad313 = ad319 := (by injection e319)
                         replace p319 := eq_true p319
                         replace q319 := eq_true q319
                         have p320 : 0 ≤ (x13_3 : Int) := of_decide_eq_true (by first | (with_reducible assumption) | assumption)
                         have q320 : x13_3 < (t310.length : Int) := of_decide_eq_true (by first | (with_reducible assumption) | assumption)
                         obtain ⟨ad320, e320, hx320_0, hx320_1⟩ := at_T53 (Kd.R_reads' HO_12.out).2.2 x13_3 p320 q320
                         obtain rfl : ad313 = ad320 := (by injection e320)
                         replace p320 := eq_true p320
                         replace q320 := eq_true q320
                         have p57 : 0 ≤ (((rd_T53 t310 x13_3).f0) : Int) := of_decide_eq_true (by first | (with_reducible assumption) | assumption)
                         have q57 : (((rd_T53 t310 x13_3).f0) : Int) < 24 := of_decide_eq_true (by first | (with_reducible assumption) | assumption)
                         replace p57 := eq_true p57
                         replace q57 := eq_true q57
                         have p58 : 0 ≤ (((rd_T53 t310 x13_3).f1) : Int) := of_decide_eq_true (by first | (with_reducible assumption) | assumption)
                         have q58 : (((rd_T53 t310 x13_3).f1) : Int) < 5 := of_decide_eq_true (by first | (with_reducible assumption) | assumption)
                         have hxi58 := arr_ix ((rd_T53 t310 x13_3).f0) ((rd_T53 t310 x13_3).f1) 5 (of_decide_eq_true (by first | (with_reducible assumption) | assumption)) p58
                         have hxe58 := fun ad_ : Addr => arr_at ad_ 5 ((rd_T53 t310 x13_3).f0) ((rd_T53 t310 x13_3).f1) (of_decide_eq_true (by first | (with_reducible assumption) | assumption)) p58
                         replace p58 := eq_true p58
                         replace q58 := eq_true q58
                         obtain ⟨Ao59, co59, eo59⟩ := Kd.R_slice HO_10.out
                         (first | subst eo59 | (injection eo59 with f1_ f2_ f3_; have f4_ := f1_.symm; have f5_ := f3_.symm; clear f1_ f2_ f3_; subst f4_; subst f5_))
                         have p321 : 0 ≤ ((ji47) : Int) := of_decide_eq_true (by first | (with_reducible assumption) | assumption)
                         have q321 : (ji47) < (x10_3.length : Int) := of_decide_eq_true (by first | (with_reducible assumption) | assumption)
                         obtain ⟨ad321, e321, hx321_0⟩ := Kd.at_bool (Kd.R_reads' HO_10.out).2.2 (ji47) p321 q321
                         (try rw [← Nbq50.out] at hx321_0)
                         (try rw [← Nbq50.out] at hw321_0)
                         cases e321
                         replace p321 := eq_true p321
                         replace q321 := eq_true q321
                         have p322 : 0 ≤ (x13_3 : Int) := of_decide_eq_true (by first | (with_reducible assumption) | assumption)
                         have q322 : x13_3 < (t310.length : Int) := of_decide_eq_true (by first | (with_reducible assumption) | assumption)
                         obtain ⟨ad322, e322, hx322_0, hx322_1⟩ := at_T53 (Kd.R_reads' HO_12.out).2.2 x13_3 p322 q322
                         obtain rfl : ad313 = ad322 := (by injection e322)
                         replace p322 := eq_true p322
                         replace q322 := eq_true q322
                         refine start_ (n := 69) (S := fun w' => w'.cell? ⟨gb294, 0, none⟩ = some (.int .i64 t288) ∧ w'.cell? ⟨gb294, 1, none⟩ = some (.int .i64 t289) ∧ w'.cell? ⟨gb294, 2, none⟩ = some (.slice (some ad318) t290.length co12) ∧ w'.cell? ⟨gb299, 0, none⟩ = some (.slice Ao15 t295.length co15) ∧ w'.cell? (ad313.add ((x13_3).toNat * 2)) = some (.int .i64 ((rd_T53 t310 x13_3).f0)) ∧ w'.cell? ⟨(ad313.add ((x13_3).toNat * 2)).block, (ad313.add ((x13_3).toNat * 2)).off + 1, none⟩ = some (.int .i64 ((rd_T53 t310 x13_3).f1)) ∧ w'.cell? (ad313.add ((x13_3).toNat * 2)) = some (.int .i64 ((rd_T53 t310 x13_3).f0)) ∧ w'.cell? ⟨(ad313.add ((x13_3).toNat * 2)).block, (ad313.add ((x13_3).toNat * 2)).off + 1, none⟩ = some (.int .i64 ((rd_T53 t310 x13_3).f1)) ∧ w'.cell? (ad313.add ((x13_3).toNat * 2)) = some (.int .i64 ((rd_T53 t310 x13_3).f0)) ∧ w'.cell? ⟨(ad313.add ((x13_3).toNat * 2)).block, (ad313.add ((x13_3).toNat * 2)).off + 1, none⟩ = some (.int .i64 ((rd_T53 t310 x13_3).f1)) ∧ w'.cell? (ad313.add ((x13_3).toNat * 2)) = some (.int .i64 ((rd_T53 t310 x13_3).f0)) ∧ w'.cell? ⟨(ad313.add ((x13_3).toNat * 2)).block, (ad313.add ((x13_3).toNat * 2)).off + 1, none⟩ = some (.int .i64 ((rd_T53 t310 x13_3).f1)) ∧ w'.cell? (ad313.add ((x13_3).toNat * 2)) = some (.int .i64 ((rd_T53 t310 x13_3).f0)) ∧ w'.cell? ⟨(ad313.add ((x13_3).toNat * 2)).block, (ad313.add ((x13_3).toNat * 2)).off + 1, none⟩ = some (.int .i64 ((rd_T53 t310 x13_3).f1)) ∧ w'.cell? (ad318.add ((((rd_T53 t310 x13_3).f0)).toNat * 6)) = some (.int .i64 ((rd_T23 t290 ((rd_T53 t310 x13_3).f0)).f0)) ∧ w'.cell? ⟨(ad318.add ((((rd_T53 t310 x13_3).f0)).toNat * 6)).block, (ad318.add ((((rd_T53 t310 x13_3).f0)).toNat * 6)).off + 1, none⟩ = some (.int .i64 ((rd_T23 t290 ((rd_T53 t310 x13_3).f0)).f1)) ∧ w'.cell? ⟨(ad318.add ((((rd_T53 t310 x13_3).f0)).toNat * 6)).block, (ad318.add ((((rd_T53 t310 x13_3).f0)).toNat * 6)).off + 2, none⟩ = some (.int .i64 ((rd_T23 t290 ((rd_T53 t310 x13_3).f0)).f2)) ∧ w'.cell? ⟨(ad318.add ((((rd_T53 t310 x13_3).f0)).toNat * 6)).block, (ad318.add ((((rd_T53 t310 x13_3).f0)).toNat * 6)).off + 3, none⟩ = some (.int .i64 ((rd_T23 t290 ((rd_T53 t310 x13_3).f0)).f3)) ∧ w'.cell? ⟨(ad318.add ((((rd_T53 t310 x13_3).f0)).toNat * 6)).block, (ad318.add ((((rd_T53 t310 x13_3).f0)).toNat * 6)).off + 4, none⟩ = some (.int .i64 ((rd_T23 t290 ((rd_T53 t310 x13_3).f0)).f4)) ∧ w'.cell? ⟨(ad318.add ((((rd_T53 t310 x13_3).f0)).toNat * 6)).block, (ad318.add ((((rd_T53 t310 x13_3).f0)).toNat * 6)).off + 5, none⟩ = some (.int .i64 ((rd_T23 t290 ((rd_T53 t310 x13_3).f0)).f5)) ∧ w'.cell? (ad313.add ((x13_3).toNat * 2)) = some (.int .i64 ((rd_T53 t310 x13_3).f0)) ∧ w'.cell? ⟨(ad313.add ((x13_3).toNat * 2)).block, (ad313.add ((x13_3).toNat * 2)).off + 1, none⟩ = some (.int .i64 ((rd_T53 t310 x13_3).f1)) ∧ w'.cell? (ad313.add ((x13_3).toNat * 2)) = some (.int .i64 ((rd_T53 t310 x13_3).f0)) ∧ w'.cell? ⟨(ad313.add ((x13_3).toNat * 2)).block, (ad313.add ((x13_3).toNat * 2)).off + 1, none⟩ = some (.int .i64 ((rd_T53 t310 x13_3).f1)) ∧ w'.cell? (ad321.add ((ji47)).toNat) = some (.bool false) ∧ w'.cell? (ad313.add ((x13_3).toNat * 2)) = some (.int .i64 ((rd_T53 t310 x13_3).f0)) ∧ w'.cell? ⟨(ad313.add ((x13_3).toNat * 2)).block, (ad313.add ((x13_3).toNat * 2)).off + 1, none⟩ = some (.int .i64 ((rd_T53 t310 x13_3).f1))) (ds := []) #[false, false, false, false, false, false, false, false, false, false, false, false, false, false, false, false, false, false, false, false, false, false, false, false, false, false, false, false, false, false, false, false, false, false, false, false, false, false, false, false, false, false, false, false, false, false, false, false, false, false, false, false, false, false, false, false, false, false, false, false, false, false, false, false, false, false, false, false, false] (by kernel_rfl) rfl rfl ⟨(blk_cell BK294.out 0).trans rfl, (blk_cell BK294.out 1).trans rfl, (blk_cell BK294.out 2).trans rfl, (blk_cell BK299.out 0).trans rfl, hx313_0, hx313_1, hx314_0, hx314_1, hx315_0, hx315_1, hx316_0, hx316_1, hx317_0, hx317_1, hx318_0, hx318_1, hx318_2, hx318_3, hx318_4, hx318_5, hx319_0, hx319_1, hx320_0, hx320_1, hx321_0, hx322_0, hx322_1⟩ (fun hHeld => ?_); refine with_tabW awardingbodylaw12_BookletOnce.tab19 awardingbodylaw12_BookletOnce.bits19 (fun HT_ HW_ => ?_)
                         generalize wr.drew = w56 at HO_10 HO_12 HO_295002 HO_300000 BK294 BK299 HB hx313_0 hx313_1 hx314_0 hx314_1 hx315_0 hx315_1 hx316_0 hx316_1 hx317_0 hx317_1 hx318_0 hx318_1 hx318_2 hx318_3 hx318_4 hx318_5 hx319_0 hx319_1 hx320_0 hx320_1 hx321_0 hx322_0 hx322_1 hHeld ⊢
                         refine pure_ (i := 0) (N := some 65) (v := ?_) (a' := ?_) #[true, false, false, false, false, false, false, false, false, false, false, false, false, false, false, false, false, false, false, false, false, false, false, false, false, false, false, false, false, false, false, false, false, false, false, false, false, false, false, false, false, false, false, false, false, false, false, false, false, false, false, false, false, false, false, false, false, false, false, false, false, false, false, false, false, false, false, false, false] rfl rfl (any_of HT_.out (by kernel_rfl)) (fun _ _ _ h => h) (Or.inl ⟨by rfl, ?_⟩) ?_ ?_
                         rotate_left
                         ·intro w'
                          go_simp
                          with_reducible rfl
                         rotate_left
                         ·simp only [Act.put, List.setIfInBounds_toArray, List.set_cons_zero, List.set_cons_succ, i64_w, i32_w]
                          rfl
                         refine pure_ (i := 1) (N := some 66) (v := ?_) (a' := ?_) #[true, true, false, false, false, false, false, false, false, false, false, false, false, false, false, false, false, false, false, false, false, false, false, false, false, false, false, false, false, false, false, false, false, false, false, false, false, false, false, false, false, false, false, false, false, false, false, false, false, false, false, false, false, false, false, false, false, false, false, false, false, false, false, false, false, false, false, false, false] rfl rfl (any_of HT_.out (by kernel_rfl)) (fun _ _ _ h => h) (Or.inl ⟨by rfl, ?_⟩) ?_ ?_
                         rotate_left
                         ·intro w'
                          go_simp
                          with_reducible rfl
                         rotate_left
                         ·simp only [Act.put, List.setIfInBounds_toArray, List.set_cons_zero, List.set_cons_succ, i64_w, i32_w]
                          rfl
                         refine pure_ (i := 2) (N := some 67) (v := ?_) (a' := ?_) #[true, true, true, false, false, false, false, false, false, false, false, false, false, false, false, false, false, false, false, false, false, false, false, false, false, false, false, false, false, false, false, false, false, false, false, false, false, false, false, false, false, false, false, false, false, false, false, false, false, false, false, false, false, false, false, false, false, false, false, false, false, false, false, false, false, false, false, false, false] rfl rfl (any_of HT_.out (by kernel_rfl)) (fun _ _ _ h => h) (Or.inl ⟨by rfl, ?_⟩) ?_ ?_
                         rotate_left
                         ·intro w'
                          go_simp
                          with_reducible rfl
                         rotate_left
                         ·simp only [Act.put, List.setIfInBounds_toArray, List.set_cons_zero, List.set_cons_succ, i64_w, i32_w]
                          rfl
                         refine pure_ (i := 3) (N := some 68) (v := ?_) (a' := ?_) #[true, true, true, true, false, false, false, false, false, false, false, false, false, false, false, false, false, false, false, false, false, false, false, false, false, false, false, false, false, false, false, false, false, false, false, false, false, false, false, false, false, false, false, false, false, false, false, false, false, false, false, false, false, false, false, false, false, false, false, false, false, false, false, false, false, false, false, false, false] rfl rfl (any_of HT_.out (by kernel_rfl)) (fun _ _ _ h => h) (Or.inl ⟨by rfl, ?_⟩) ?_ ?_
                         rotate_left
                         ·intro w'
                          go_simp
                          with_reducible rfl
                         rotate_left
                         ·simp only [Act.put, List.setIfInBounds_toArray, List.set_cons_zero, List.set_cons_succ, i64_w, i32_w]
                          rfl
                         refine take_ (i := 4) (N := some 69) (v := ?_) (a' := ?_) #[true, true, true, true, true, false, false, false, false, false, false, false, false, false, false, false, false, false, false, false, false, false, false, false, false, false, false, false, false, false, false, false, false, false, false, false, false, false, false, false, false, false, false, false, false, false, false, false, false, false, false, false, false, false, false, false, false, false, false, false, false, false, false, false, false, false, false, false, false] rfl rfl (take_ofW HT_.out HW_.out (by kernel_rfl)) (fun _ _ _ h => h) (Or.inl ⟨by rfl, ?_⟩) hHeld ?_ ?_
                         rotate_left
                         ·rintro w' ⟨s0, s1, s2, s3, s4, s5, s6, s7, s8, s9, s10, s11, s12, s13, s14, s15, s16, s17, s18, s19, s20, s21, s22, s23, s24, s25, s26⟩
                          go_simp
                          with_reducible rfl
                         rotate_left
                         ·simp only [Act.put, List.setIfInBounds_toArray, List.set_cons_zero, List.set_cons_succ, i64_w, i32_w]
                          rfl
                         refine pure_ (i := 5) (N := some 70) (v := ?_) (a' := ?_) #[true, true, true, true, true, true, false, false, false, false, false, false, false, false, false, false, false, false, false, false, false, false, false, false, false, false, false, false, false, false, false, false, false, false, false, false, false, false, false, false, false, false, false, false, false, false, false, false, false, false, false, false, false, false, false, false, false, false, false, false, false, false, false, false, false, false, false, false, false] rfl rfl (any_of HT_.out (by kernel_rfl)) (fun _ _ _ h => h) (Or.inl ⟨by rfl, ?_⟩) ?_ ?_
                         rotate_left
                         ·intro w'
                          go_simp
                          with_reducible rfl
                         rotate_left
                         ·simp only [Act.put, List.setIfInBounds_toArray, List.set_cons_zero, List.set_cons_succ, i64_w, i32_w]
                          rfl
                         refine pure_ (i := 6) (N := some 71) (v := ?_) (a' := ?_) #[true, true, true, true, true, true, true, false, false, false, false, false, false, false, false, false, false, false, false, false, false, false, false, false, false, false, false, false, false, false, false, false, false, false, false, false, false, false, false, false, false, false, false, false, false, false, false, false, false, false, false, false, false, false, false, false, false, false, false, false, false, false, false, false, false, false, false, false, false] rfl rfl (any_of HT_.out (by kernel_rfl)) (fun _ _ _ h => h) (Or.inl ⟨by rfl, ?_⟩) ?_ ?_
                         rotate_left
                         ·intro w'
                          go_simp
                          with_reducible rfl
                         rotate_left
                         ·simp only [Act.put, List.setIfInBounds_toArray, List.set_cons_zero, List.set_cons_succ, i64_w, i32_w]
                          rfl
                         refine pure_ (i := 7) (N := some 72) (v := ?_) (a' := ?_) #[true, true, true, true, true, true, true, true, false, false, false, false, false, false, false, false, false, false, false, false, false, false, false, false, false, false, false, false, false, false, false, false, false, false, false, false, false, false, false, false, false, false, false, false, false, false, false, false, false, false, false, false, false, false, false, false, false, false, false, false, false, false, false, false, false, false, false, false, false] rfl rfl (any_of HT_.out (by kernel_rfl)) (fun _ _ _ h => h) (Or.inl ⟨by rfl, ?_⟩) ?_ ?_
                         rotate_left
                         ·intro w'
                          go_simp
                          with_reducible rfl
                         rotate_left
                         ·simp only [Act.put, List.setIfInBounds_toArray, List.set_cons_zero, List.set_cons_succ, i64_w, i32_w]
                          rfl
                         refine pure_ (i := 8) (N := some 73) (v := ?_) (a' := ?_) #[true, true, true, true, true, true, true, true, true, false, false, false, false, false, false, false, false, false, false, false, false, false, false, false, false, false, false, false, false, false, false, false, false, false, false, false, false, false, false, false, false, false, false, false, false, false, false, false, false, false, false, false, false, false, false, false, false, false, false, false, false, false, false, false, false, false, false, false, false] rfl rfl (any_of HT_.out (by kernel_rfl)) (fun _ _ _ h => h) (Or.inl ⟨by rfl, ?_⟩) ?_ ?_
                         rotate_left
                         ·intro w'
                          go_simp
                          with_reducible rfl
                         rotate_left
                         ·simp only [Act.put, List.setIfInBounds_toArray, List.set_cons_zero, List.set_cons_succ, i64_w, i32_w]
                          rfl
                         refine pure_ (i := 9) (N := some 74) (v := ?_) (a' := ?_) #[true, true, true, true, true, true, true, true, true, true, false, false, false, false, false, false, false, false, false, false, false, false, false, false, false, false, false, false, false, false, false, false, false, false, false, false, false, false, false, false, false, false, false, false, false, false, false, false, false, false, false, false, false, false, false, false, false, false, false, false, false, false, false, false, false, false, false, false, false] rfl rfl (any_of HT_.out (by kernel_rfl)) (fun _ _ _ h => h) (Or.inl ⟨by rfl, ?_⟩) ?_ ?_
                         rotate_left
                         ·intro w'
                          go_simp
                          with_reducible rfl
                         rotate_left
                         ·simp only [Act.put, List.setIfInBounds_toArray, List.set_cons_zero, List.set_cons_succ, i64_w, i32_w]
                          rfl
                         refine pure_ (i := 10) (N := some 75) (v := ?_) (a' := ?_) #[true, true, true, true, true, true, true, true, true, true, true, false, false, false, false, false, false, false, false, false, false, false, false, false, false, false, false, false, false, false, false, false, false, false, false, false, false, false, false, false, false, false, false, false, false, false, false, false, false, false, false, false, false, false, false, false, false, false, false, false, false, false, false, false, false, false, false, false, false] rfl rfl (any_of HT_.out (by kernel_rfl)) (fun _ _ _ h => h) (Or.inl ⟨by rfl, ?_⟩) ?_ ?_
                         rotate_left
                         ·intro w'
                          go_simp
                          with_reducible rfl
                         rotate_left
                         ·simp only [Act.put, List.setIfInBounds_toArray, List.set_cons_zero, List.set_cons_succ, i64_w, i32_w]
                          rfl
                         refine pure_ (i := 12) (N := some 77) (v := ?_) (a' := ?_) #[true, true, true, true, true, true, true, true, true, true, true, false, true, false, false, false, false, false, false, false, false, false, false, false, false, false, false, false, false, false, false, false, false, false, false, false, false, false, false, false, false, false, false, false, false, false, false, false, false, false, false, false, false, false, false, false, false, false, false, false, false, false, false, false, false, false, false, false, false] rfl rfl (any_of HT_.out (by kernel_rfl)) (fun _ _ _ h => h) (Or.inl ⟨by rfl, ?_⟩) ?_ ?_
                         rotate_left
                         ·intro w'
                          go_simp
                          with_reducible rfl
                         rotate_left
                         ·simp only [Act.put, List.setIfInBounds_toArray, List.set_cons_zero, List.set_cons_succ, i64_w, i32_w]
                          rfl
                         refine take_ (i := 11) (N := some 76) (v := ?_) (a' := ?_) #[true, true, true, true, true, true, true, true, true, true, true, true, true, false, false, false, false, false, false, false, false, false, false, false, false, false, false, false, false, false, false, false, false, false, false, false, false, false, false, false, false, false, false, false, false, false, false, false, false, false, false, false, false, false, false, false, false, false, false, false, false, false, false, false, false, false, false, false, false] rfl rfl (take_ofW HT_.out HW_.out (by kernel_rfl)) (fun _ _ _ h => h) (Or.inl ⟨by rfl, ?_⟩) hHeld ?_ ?_
                         rotate_left
                         ·rintro w' ⟨s0, s1, s2, s3, s4, s5, s6, s7, s8, s9, s10, s11, s12, s13, s14, s15, s16, s17, s18, s19, s20, s21, s22, s23, s24, s25, s26⟩
                          go_simp
                          with_reducible rfl
                         rotate_left
                         ·simp only [Act.put, List.setIfInBounds_toArray, List.set_cons_zero, List.set_cons_succ, i64_w, i32_w]
                          rfl
                         refine take_ (i := 13) (N := some 78) (v := ?_) (a' := ?_) #[true, true, true, true, true, true, true, true, true, true, true, true, true, true, false, false, false, false, false, false, false, false, false, false, false, false, false, false, false, false, false, false, false, false, false, false, false, false, false, false, false, false, false, false, false, false, false, false, false, false, false, false, false, false, false, false, false, false, false, false, false, false, false, false, false, false, false, false, false] rfl rfl (take_ofW HT_.out HW_.out (by kernel_rfl)) (fun _ _ _ h => h) (Or.inl ⟨by rfl, ?_⟩) hHeld ?_ ?_
                         rotate_left
                         ·rintro w' ⟨s0, s1, s2, s3, s4, s5, s6, s7, s8, s9, s10, s11, s12, s13, s14, s15, s16, s17, s18, s19, s20, s21, s22, s23, s24, s25, s26⟩
                          go_simp
                          with_reducible rfl
                         rotate_left
                         ·simp only [Act.put, List.setIfInBounds_toArray, List.set_cons_zero, List.set_cons_succ, i64_w, i32_w]
                          rfl
                         refine pure_ (i := 14) (N := some 79) (v := ?_) (a' := ?_) #[true, true, true, true, true, true, true, true, true, true, true, true, true, true, true, false, false, false, false, false, false, false, false, false, false, false, false, false, false, false, false, false, false, false, false, false, false, false, false, false, false, false, false, false, false, false, false, false, false, false, false, false, false, false, false, false, false, false, false, false, false, false, false, false, false, false, false, false, false] rfl rfl (any_of HT_.out (by kernel_rfl)) (fun _ _ _ h => h) (Or.inl ⟨by rfl, ?_⟩) ?_ ?_
                         rotate_left
                         ·intro w'
                          go_simp
                          with_reducible rfl
                         rotate_left
                         ·simp only [Act.put, List.setIfInBounds_toArray, List.set_cons_zero, List.set_cons_succ, i64_w, i32_w]
                          rfl
                         refine pure_ (i := 15) (N := some 80) (v := ?_) (a' := ?_) #[true, true, true, true, true, true, true, true, true, true, true, true, true, true, true, true, false, false, false, false, false, false, false, false, false, false, false, false, false, false, false, false, false, false, false, false, false, false, false, false, false, false, false, false, false, false, false, false, false, false, false, false, false, false, false, false, false, false, false, false, false, false, false, false, false, false, false, false, false] rfl rfl (any_of HT_.out (by kernel_rfl)) (fun _ _ _ h => h) (Or.inl ⟨by rfl, ?_⟩) ?_ ?_
                         rotate_left
                         ·intro w'
                          go_simp
                          with_reducible rfl
                         rotate_left
                         ·simp only [Act.put, List.setIfInBounds_toArray, List.set_cons_zero, List.set_cons_succ, i64_w, i32_w]
                          rfl
                         refine pure_ (i := 16) (N := some 81) (v := ?_) (a' := ?_) #[true, true, true, true, true, true, true, true, true, true, true, true, true, true, true, true, true, false, false, false, false, false, false, false, false, false, false, false, false, false, false, false, false, false, false, false, false, false, false, false, false, false, false, false, false, false, false, false, false, false, false, false, false, false, false, false, false, false, false, false, false, false, false, false, false, false, false, false, false] rfl rfl (any_of HT_.out (by kernel_rfl)) (fun _ _ _ h => h) (Or.inl ⟨by rfl, ?_⟩) ?_ ?_
                         rotate_left
                         ·intro w'
                          go_simp
                          with_reducible rfl
                         rotate_left
                         ·simp only [Act.put, List.setIfInBounds_toArray, List.set_cons_zero, List.set_cons_succ, i64_w, i32_w]
                          rfl
                         refine pure_ (i := 17) (N := some 82) (v := ?_) (a' := ?_) #[true, true, true, true, true, true, true, true, true, true, true, true, true, true, true, true, true, true, false, false, false, false, false, false, false, false, false, false, false, false, false, false, false, false, false, false, false, false, false, false, false, false, false, false, false, false, false, false, false, false, false, false, false, false, false, false, false, false, false, false, false, false, false, false, false, false, false, false, false] rfl rfl (any_of HT_.out (by kernel_rfl)) (fun _ _ _ h => h) (Or.inl ⟨by rfl, ?_⟩) ?_ ?_
                         rotate_left
                         ·intro w'
                          go_simp
                          with_reducible rfl
                         rotate_left
                         ·simp only [Act.put, List.setIfInBounds_toArray, List.set_cons_zero, List.set_cons_succ, i64_w, i32_w]
                          rfl
                         refine pure_ (i := 18) (N := some 83) (v := ?_) (a' := ?_) #[true, true, true, true, true, true, true, true, true, true, true, true, true, true, true, true, true, true, true, false, false, false, false, false, false, false, false, false, false, false, false, false, false, false, false, false, false, false, false, false, false, false, false, false, false, false, false, false, false, false, false, false, false, false, false, false, false, false, false, false, false, false, false, false, false, false, false, false, false] rfl rfl (any_of HT_.out (by kernel_rfl)) (fun _ _ _ h => h) (Or.inl ⟨by rfl, ?_⟩) ?_ ?_
                         rotate_left
                         ·intro w'
                          go_simp
                          with_reducible rfl
                         rotate_left
                         ·simp only [Act.put, List.setIfInBounds_toArray, List.set_cons_zero, List.set_cons_succ, i64_w, i32_w]
                          rfl
                         refine pure_ (i := 19) (N := some 84) (v := ?_) (a' := ?_) #[true, true, true, true, true, true, true, true, true, true, true, true, true, true, true, true, true, true, true, true, false, false, false, false, false, false, false, false, false, false, false, false, false, false, false, false, false, false, false, false, false, false, false, false, false, false, false, false, false, false, false, false, false, false, false, false, false, false, false, false, false, false, false, false, false, false, false, false, false] rfl rfl (any_of HT_.out (by kernel_rfl)) (fun _ _ _ h => h) (Or.inl ⟨by rfl, ?_⟩) ?_ ?_
                         rotate_left
                         ·intro w'
                          go_simp
                          with_reducible rfl
                         rotate_left
                         ·simp only [Act.put, List.setIfInBounds_toArray, List.set_cons_zero, List.set_cons_succ, i64_w, i32_w]
                          rfl
                         refine pure_ (i := 20) (N := some 85) (v := ?_) (a' := ?_) #[true, true, true, true, true, true, true, true, true, true, true, true, true, true, true, true, true, true, true, true, true, false, false, false, false, false, false, false, false, false, false, false, false, false, false, false, false, false, false, false, false, false, false, false, false, false, false, false, false, false, false, false, false, false, false, false, false, false, false, false, false, false, false, false, false, false, false, false, false] rfl rfl (any_of HT_.out (by kernel_rfl)) (fun _ _ _ h => h) (Or.inl ⟨by rfl, ?_⟩) ?_ ?_
                         rotate_left
                         ·intro w'
                          go_simp
                          with_reducible rfl
                         rotate_left
                         ·simp only [Act.put, List.setIfInBounds_toArray, List.set_cons_zero, List.set_cons_succ, i64_w, i32_w]
                          rfl
                         refine pure_ (i := 21) (N := some 86) (v := ?_) (a' := ?_) #[true, true, true, true, true, true, true, true, true, true, true, true, true, true, true, true, true, true, true, true, true, true, false, false, false, false, false, false, false, false, false, false, false, false, false, false, false, false, false, false, false, false, false, false, false, false, false, false, false, false, false, false, false, false, false, false, false, false, false, false, false, false, false, false, false, false, false, false, false] rfl rfl (any_of HT_.out (by kernel_rfl)) (fun _ _ _ h => h) (Or.inl ⟨by rfl, ?_⟩) ?_ ?_
                         rotate_left
                         ·intro w'
                          go_simp
                          with_reducible rfl
                         rotate_left
                         ·simp only [Act.put, List.setIfInBounds_toArray, List.set_cons_zero, List.set_cons_succ, i64_w, i32_w]
                          rfl
                         refine take_ (i := 22) (N := some 87) (v := ?_) (a' := ?_) #[true, true, true, true, true, true, true, true, true, true, true, true, true, true, true, true, true, true, true, true, true, true, true, false, false, false, false, false, false, false, false, false, false, false, false, false, false, false, false, false, false, false, false, false, false, false, false, false, false, false, false, false, false, false, false, false, false, false, false, false, false, false, false, false, false, false, false, false, false] rfl rfl (take_ofW HT_.out HW_.out (by kernel_rfl)) (fun _ _ _ h => h) (Or.inl ⟨by rfl, ?_⟩) hHeld ?_ ?_
                         rotate_left
                         ·rintro w' ⟨s0, s1, s2, s3, s4, s5, s6, s7, s8, s9, s10, s11, s12, s13, s14, s15, s16, s17, s18, s19, s20, s21, s22, s23, s24, s25, s26⟩
                          go_simp
                          with_reducible rfl
                         rotate_left
                         ·simp only [Act.put, List.setIfInBounds_toArray, List.set_cons_zero, List.set_cons_succ, i64_w, i32_w]
                          rfl
                         refine pure_ (i := 23) (N := some 88) (v := ?_) (a' := ?_) #[true, true, true, true, true, true, true, true, true, true, true, true, true, true, true, true, true, true, true, true, true, true, true, true, false, false, false, false, false, false, false, false, false, false, false, false, false, false, false, false, false, false, false, false, false, false, false, false, false, false, false, false, false, false, false, false, false, false, false, false, false, false, false, false, false, false, false, false, false] rfl rfl (any_of HT_.out (by kernel_rfl)) (fun _ _ _ h => h) (Or.inl ⟨by rfl, ?_⟩) ?_ ?_
                         rotate_left
                         ·intro w'
                          go_simp
                          with_reducible rfl
                         rotate_left
                         ·simp only [Act.put, List.setIfInBounds_toArray, List.set_cons_zero, List.set_cons_succ, i64_w, i32_w]
                          rfl
                         refine pure_ (i := 24) (N := some 89) (v := ?_) (a' := ?_) #[true, true, true, true, true, true, true, true, true, true, true, true, true, true, true, true, true, true, true, true, true, true, true, true, true, false, false, false, false, false, false, false, false, false, false, false, false, false, false, false, false, false, false, false, false, false, false, false, false, false, false, false, false, false, false, false, false, false, false, false, false, false, false, false, false, false, false, false, false] rfl rfl (any_of HT_.out (by kernel_rfl)) (fun _ _ _ h => h) (Or.inl ⟨by rfl, ?_⟩) ?_ ?_
                         rotate_left
                         ·intro w'
                          go_simp
                          with_reducible rfl
                         rotate_left
                         ·simp only [Act.put, List.setIfInBounds_toArray, List.set_cons_zero, List.set_cons_succ, i64_w, i32_w]
                          rfl
                         refine pure_ (i := 25) (N := some 90) (v := ?_) (a' := ?_) #[true, true, true, true, true, true, true, true, true, true, true, true, true, true, true, true, true, true, true, true, true, true, true, true, true, true, false, false, false, false, false, false, false, false, false, false, false, false, false, false, false, false, false, false, false, false, false, false, false, false, false, false, false, false, false, false, false, false, false, false, false, false, false, false, false, false, false, false, false] rfl rfl (any_of HT_.out (by kernel_rfl)) (fun _ _ _ h => h) (Or.inl ⟨by rfl, ?_⟩) ?_ ?_
                         rotate_left
                         ·intro w'
                          go_simp
                          with_reducible rfl
                         rotate_left
                         ·simp only [Act.put, List.setIfInBounds_toArray, List.set_cons_zero, List.set_cons_succ, i64_w, i32_w]
                          rfl
                         refine pure_ (i := 26) (N := some 91) (v := ?_) (a' := ?_) #[true, true, true, true, true, true, true, true, true, true, true, true, true, true, true, true, true, true, true, true, true, true, true, true, true, true, true, false, false, false, false, false, false, false, false, false, false, false, false, false, false, false, false, false, false, false, false, false, false, false, false, false, false, false, false, false, false, false, false, false, false, false, false, false, false, false, false, false, false] rfl rfl (any_of HT_.out (by kernel_rfl)) (fun _ _ _ h => h) (Or.inl ⟨by rfl, ?_⟩) ?_ ?_
                         rotate_left
                         ·intro w'
                          go_simp
                          with_reducible rfl
                         rotate_left
                         ·simp only [Act.put, List.setIfInBounds_toArray, List.set_cons_zero, List.set_cons_succ, i64_w, i32_w]
                          rfl
                         refine pure_ (i := 27) (N := some 92) (v := ?_) (a' := ?_) #[true, true, true, true, true, true, true, true, true, true, true, true, true, true, true, true, true, true, true, true, true, true, true, true, true, true, true, true, false, false, false, false, false, false, false, false, false, false, false, false, false, false, false, false, false, false, false, false, false, false, false, false, false, false, false, false, false, false, false, false, false, false, false, false, false, false, false, false, false] rfl rfl (any_of HT_.out (by kernel_rfl)) (fun _ _ _ h => h) (Or.inl ⟨by rfl, ?_⟩) ?_ ?_
                         rotate_left
                         ·intro w'
                          go_simp
                          with_reducible rfl
                         rotate_left
                         ·simp only [Act.put, List.setIfInBounds_toArray, List.set_cons_zero, List.set_cons_succ, i64_w, i32_w]
                          rfl
                         refine pure_ (i := 28) (N := some 93) (v := ?_) (a' := ?_) #[true, true, true, true, true, true, true, true, true, true, true, true, true, true, true, true, true, true, true, true, true, true, true, true, true, true, true, true, true, false, false, false, false, false, false, false, false, false, false, false, false, false, false, false, false, false, false, false, false, false, false, false, false, false, false, false, false, false, false, false, false, false, false, false, false, false, false, false, false] rfl rfl (any_of HT_.out (by kernel_rfl)) (fun _ _ _ h => h) (Or.inl ⟨by rfl, ?_⟩) ?_ ?_
                         rotate_left
                         ·intro w'
                          go_simp
                          with_reducible rfl
                         rotate_left
                         ·simp only [Act.put, List.setIfInBounds_toArray, List.set_cons_zero, List.set_cons_succ, i64_w, i32_w]
                          rfl
                         refine pure_ (i := 29) (N := some 94) (v := ?_) (a' := ?_) #[true, true, true, true, true, true, true, true, true, true, true, true, true, true, true, true, true, true, true, true, true, true, true, true, true, true, true, true, true, true, false, false, false, false, false, false, false, false, false, false, false, false, false, false, false, false, false, false, false, false, false, false, false, false, false, false, false, false, false, false, false, false, false, false, false, false, false, false, false] rfl rfl (any_of HT_.out (by kernel_rfl)) (fun _ _ _ h => h) (Or.inl ⟨by rfl, ?_⟩) ?_ ?_
                         rotate_left
                         ·intro w'
                          go_simp
                          with_reducible rfl
                         rotate_left
                         ·simp only [Act.put, List.setIfInBounds_toArray, List.set_cons_zero, List.set_cons_succ, i64_w, i32_w]
                          rfl
                         refine pure_ (i := 31) (N := some 96) (v := ?_) (a' := ?_) #[true, true, true, true, true, true, true, true, true, true, true, true, true, true, true, true, true, true, true, true, true, true, true, true, true, true, true, true, true, true, false, true, false, false, false, false, false, false, false, false, false, false, false, false, false, false, false, false, false, false, false, false, false, false, false, false, false, false, false, false, false, false, false, false, false, false, false, false, false] rfl rfl (any_of HT_.out (by kernel_rfl)) (fun _ _ _ h => h) (Or.inl ⟨by rfl, ?_⟩) ?_ ?_
                         rotate_left
                         ·intro w'
                          go_simp
                          with_reducible rfl
                         rotate_left
                         ·simp only [Act.put, List.setIfInBounds_toArray, List.set_cons_zero, List.set_cons_succ, i64_w, i32_w]
                          rfl
                         refine pure_ (i := 33) (N := some 98) (v := ?_) (a' := ?_) #[true, true, true, true, true, true, true, true, true, true, true, true, true, true, true, true, true, true, true, true, true, true, true, true, true, true, true, true, true, true, false, true, false, true, false, false, false, false, false, false, false, false, false, false, false, false, false, false, false, false, false, false, false, false, false, false, false, false, false, false, false, false, false, false, false, false, false, false, false] rfl rfl (any_of HT_.out (by kernel_rfl)) (fun _ _ _ h => h) (Or.inl ⟨by rfl, ?_⟩) ?_ ?_
                         rotate_left
                         ·intro w'
                          go_simp
                          with_reducible rfl
                         rotate_left
                         ·simp only [Act.put, List.setIfInBounds_toArray, List.set_cons_zero, List.set_cons_succ, i64_w, i32_w]
                          rfl
                         refine pure_ (i := 34) (N := some 99) (v := ?_) (a' := ?_) #[true, true, true, true, true, true, true, true, true, true, true, true, true, true, true, true, true, true, true, true, true, true, true, true, true, true, true, true, true, true, false, true, false, true, true, false, false, false, false, false, false, false, false, false, false, false, false, false, false, false, false, false, false, false, false, false, false, false, false, false, false, false, false, false, false, false, false, false, false] rfl rfl (any_of HT_.out (by kernel_rfl)) (fun _ _ _ h => h) (Or.inl ⟨by rfl, ?_⟩) ?_ ?_
                         rotate_left
                         ·intro w'
                          go_simp
                          with_reducible rfl
                         rotate_left
                         ·simp only [Act.put, List.setIfInBounds_toArray, List.set_cons_zero, List.set_cons_succ, i64_w, i32_w]
                          rfl
                         refine pure_ (i := 35) (N := some 100) (v := ?_) (a' := ?_) #[true, true, true, true, true, true, true, true, true, true, true, true, true, true, true, true, true, true, true, true, true, true, true, true, true, true, true, true, true, true, false, true, false, true, true, true, false, false, false, false, false, false, false, false, false, false, false, false, false, false, false, false, false, false, false, false, false, false, false, false, false, false, false, false, false, false, false, false, false] rfl rfl (any_of HT_.out (by kernel_rfl)) (fun _ _ _ h => h) (Or.inl ⟨by rfl, ?_⟩) ?_ ?_
                         rotate_left
                         ·intro w'
                          go_simp
                          with_reducible rfl
                         rotate_left
                         ·simp only [Act.put, List.setIfInBounds_toArray, List.set_cons_zero, List.set_cons_succ, i64_w, i32_w]
                          rfl
                         refine pure_ (i := 36) (N := some 101) (v := ?_) (a' := ?_) #[true, true, true, true, true, true, true, true, true, true, true, true, true, true, true, true, true, true, true, true, true, true, true, true, true, true, true, true, true, true, false, true, false, true, true, true, true, false, false, false, false, false, false, false, false, false, false, false, false, false, false, false, false, false, false, false, false, false, false, false, false, false, false, false, false, false, false, false, false] rfl rfl (any_of HT_.out (by kernel_rfl)) (fun _ _ _ h => h) (Or.inl ⟨by rfl, ?_⟩) ?_ ?_
                         rotate_left
                         ·intro w'
                          go_simp
                          with_reducible rfl
                         rotate_left
                         ·simp only [Act.put, List.setIfInBounds_toArray, List.set_cons_zero, List.set_cons_succ, i64_w, i32_w]
                          rfl
                         refine take_ (i := 30) (N := some 95) (v := ?_) (a' := ?_) #[true, true, true, true, true, true, true, true, true, true, true, true, true, true, true, true, true, true, true, true, true, true, true, true, true, true, true, true, true, true, true, true, false, true, true, true, true, false, false, false, false, false, false, false, false, false, false, false, false, false, false, false, false, false, false, false, false, false, false, false, false, false, false, false, false, false, false, false, false] rfl rfl (take_ofW HT_.out HW_.out (by kernel_rfl)) (fun _ _ _ h => h) (Or.inl ⟨by rfl, ?_⟩) hHeld ?_ ?_
                         rotate_left
                         ·rintro w' ⟨s0, s1, s2, s3, s4, s5, s6, s7, s8, s9, s10, s11, s12, s13, s14, s15, s16, s17, s18, s19, s20, s21, s22, s23, s24, s25, s26⟩
                          go_simp
                          with_reducible rfl
                         rotate_left
                         ·simp only [Act.put, List.setIfInBounds_toArray, List.set_cons_zero, List.set_cons_succ, i64_w, i32_w]
                          rfl
                         refine take_ (i := 32) (N := some 97) (v := ?_) (a' := ?_) #[true, true, true, true, true, true, true, true, true, true, true, true, true, true, true, true, true, true, true, true, true, true, true, true, true, true, true, true, true, true, true, true, true, true, true, true, true, false, false, false, false, false, false, false, false, false, false, false, false, false, false, false, false, false, false, false, false, false, false, false, false, false, false, false, false, false, false, false, false] rfl rfl (take_ofW HT_.out HW_.out (by kernel_rfl)) (fun _ _ _ h => h) (Or.inl ⟨by rfl, ?_⟩) hHeld ?_ ?_
                         rotate_left
                         ·rintro w' ⟨s0, s1, s2, s3, s4, s5, s6, s7, s8, s9, s10, s11, s12, s13, s14, s15, s16, s17, s18, s19, s20, s21, s22, s23, s24, s25, s26⟩
                          go_simp
                          with_reducible rfl
                         rotate_left
                         ·simp only [Act.put, List.setIfInBounds_toArray, List.set_cons_zero, List.set_cons_succ, i64_w, i32_w]
                          rfl
                         refine take_ (i := 37) (N := some 102) (v := ?_) (a' := ?_) #[true, true, true, true, true, true, true, true, true, true, true, true, true, true, true, true, true, true, true, true, true, true, true, true, true, true, true, true, true, true, true, true, true, true, true, true, true, true, false, false, false, false, false, false, false, false, false, false, false, false, false, false, false, false, false, false, false, false, false, false, false, false, false, false, false, false, false, false, false] rfl rfl (take_ofW HT_.out HW_.out (by kernel_rfl)) (fun _ _ _ h => h) (Or.inl ⟨by rfl, ?_⟩) hHeld ?_ ?_
                         rotate_left
                         ·rintro w' ⟨s0, s1, s2, s3, s4, s5, s6, s7, s8, s9, s10, s11, s12, s13, s14, s15, s16, s17, s18, s19, s20, s21, s22, s23, s24, s25, s26⟩
                          go_simp
                          with_reducible rfl
                         rotate_left
                         ·simp only [Act.put, List.setIfInBounds_toArray, List.set_cons_zero, List.set_cons_succ, i64_w, i32_w]
                          rfl
                         refine pure_ (i := 38) (N := some 103) (v := ?_) (a' := ?_) #[true, true, true, true, true, true, true, true, true, true, true, true, true, true, true, true, true, true, true, true, true, true, true, true, true, true, true, true, true, true, true, true, true, true, true, true, true, true, true, false, false, false, false, false, false, false, false, false, false, false, false, false, false, false, false, false, false, false, false, false, false, false, false, false, false, false, false, false, false] rfl rfl (any_of HT_.out (by kernel_rfl)) (fun _ _ _ h => h) (Or.inl ⟨by rfl, ?_⟩) ?_ ?_
                         rotate_left
                         ·intro w'
                          go_simp
                          with_reducible rfl
                         rotate_left
                         ·simp only [Act.put, List.setIfInBounds_toArray, List.set_cons_zero, List.set_cons_succ, i64_w, i32_w]
                          rfl
                         refine pure_ (i := 39) (N := some 104) (v := ?_) (a' := ?_) #[true, true, true, true, true, true, true, true, true, true, true, true, true, true, true, true, true, true, true, true, true, true, true, true, true, true, true, true, true, true, true, true, true, true, true, true, true, true, true, true, false, false, false, false, false, false, false, false, false, false, false, false, false, false, false, false, false, false, false, false, false, false, false, false, false, false, false, false, false] rfl rfl (any_of HT_.out (by kernel_rfl)) (fun _ _ _ h => h) (Or.inl ⟨by rfl, ?_⟩) ?_ ?_
                         rotate_left
                         ·intro w'
                          go_simp
                          with_reducible rfl
                         rotate_left
                         ·simp only [Act.put, List.setIfInBounds_toArray, List.set_cons_zero, List.set_cons_succ, i64_w, i32_w]
                          rfl
                         refine take_ (i := 40) (N := some 105) (v := ?_) (a' := ?_) #[true, true, true, true, true, true, true, true, true, true, true, true, true, true, true, true, true, true, true, true, true, true, true, true, true, true, true, true, true, true, true, true, true, true, true, true, true, true, true, true, true, false, false, false, false, false, false, false, false, false, false, false, false, false, false, false, false, false, false, false, false, false, false, false, false, false, false, false, false] rfl rfl (take_ofW HT_.out HW_.out (by kernel_rfl)) (fun _ _ _ h => h) (Or.inl ⟨by rfl, ?_⟩) hHeld ?_ ?_
                         rotate_left
                         ·rintro w' ⟨s0, s1, s2, s3, s4, s5, s6, s7, s8, s9, s10, s11, s12, s13, s14, s15, s16, s17, s18, s19, s20, s21, s22, s23, s24, s25, s26⟩
                          go_simp
                          with_reducible rfl
                         rotate_left
                         ·simp only [Act.put, List.setIfInBounds_toArray, List.set_cons_zero, List.set_cons_succ, i64_w, i32_w]
                          rfl
                         refine pure_ (i := 41) (N := some 106) (v := ?_) (a' := ?_) #[true, true, true, true, true, true, true, true, true, true, true, true, true, true, true, true, true, true, true, true, true, true, true, true, true, true, true, true, true, true, true, true, true, true, true, true, true, true, true, true, true, true, false, false, false, false, false, false, false, false, false, false, false, false, false, false, false, false, false, false, false, false, false, false, false, false, false, false, false] rfl rfl (any_of HT_.out (by kernel_rfl)) (fun _ _ _ h => h) (Or.inl ⟨by rfl, ?_⟩) ?_ ?_
                         rotate_left
                         ·intro w'
                          go_simp
                          with_reducible rfl
                         rotate_left
                         ·simp only [Act.put, List.setIfInBounds_toArray, List.set_cons_zero, List.set_cons_succ, i64_w, i32_w]
                          rfl
                         refine pure_ (i := 42) (N := some 107) (v := ?_) (a' := ?_) #[true, true, true, true, true, true, true, true, true, true, true, true, true, true, true, true, true, true, true, true, true, true, true, true, true, true, true, true, true, true, true, true, true, true, true, true, true, true, true, true, true, true, true, false, false, false, false, false, false, false, false, false, false, false, false, false, false, false, false, false, false, false, false, false, false, false, false, false, false] rfl rfl (any_of HT_.out (by kernel_rfl)) (fun _ _ _ h => h) (Or.inl ⟨by rfl, ?_⟩) ?_ ?_
                         rotate_left
                         ·intro w'
                          go_simp
                          with_reducible rfl
                         rotate_left
                         ·simp only [Act.put, List.setIfInBounds_toArray, List.set_cons_zero, List.set_cons_succ, i64_w, i32_w]
                          rfl
                         refine pure_ (i := 43) (N := some 108) (v := ?_) (a' := ?_) #[true, true, true, true, true, true, true, true, true, true, true, true, true, true, true, true, true, true, true, true, true, true, true, true, true, true, true, true, true, true, true, true, true, true, true, true, true, true, true, true, true, true, true, true, false, false, false, false, false, false, false, false, false, false, false, false, false, false, false, false, false, false, false, false, false, false, false, false, false] rfl rfl (any_of HT_.out (by kernel_rfl)) (fun _ _ _ h => h) (Or.inl ⟨by rfl, ?_⟩) ?_ ?_
                         rotate_left
                         ·intro w'
                          go_simp
                          with_reducible rfl
                         rotate_left
                         ·simp only [Act.put, List.setIfInBounds_toArray, List.set_cons_zero, List.set_cons_succ, i64_w, i32_w]
                          rfl
                         refine pure_ (i := 44) (N := some 109) (v := ?_) (a' := ?_) #[true, true, true, true, true, true, true, true, true, true, true, true, true, true, true, true, true, true, true, true, true, true, true, true, true, true, true, true, true, true, true, true, true, true, true, true, true, true, true, true, true, true, true, true, true, false, false, false, false, false, false, false, false, false, false, false, false, false, false, false, false, false, false, false, false, false, false, false, false] rfl rfl (any_of HT_.out (by kernel_rfl)) (fun _ _ _ h => h) (Or.inl ⟨by rfl, ?_⟩) ?_ ?_
                         rotate_left
                         ·intro w'
                          go_simp
                          with_reducible rfl
                         rotate_left
                         ·simp only [Act.put, List.setIfInBounds_toArray, List.set_cons_zero, List.set_cons_succ, i64_w, i32_w]
                          rfl
                         refine pure_ (i := 45) (N := some 110) (v := ?_) (a' := ?_) #[true, true, true, true, true, true, true, true, true, true, true, true, true, true, true, true, true, true, true, true, true, true, true, true, true, true, true, true, true, true, true, true, true, true, true, true, true, true, true, true, true, true, true, true, true, true, false, false, false, false, false, false, false, false, false, false, false, false, false, false, false, false, false, false, false, false, false, false, false] rfl rfl (any_of HT_.out (by kernel_rfl)) (fun _ _ _ h => h) (Or.inl ⟨by rfl, ?_⟩) ?_ ?_
                         rotate_left
                         ·intro w'
                          go_simp
                          with_reducible rfl
                         rotate_left
                         ·simp only [Act.put, List.setIfInBounds_toArray, List.set_cons_zero, List.set_cons_succ, i64_w, i32_w]
                          rfl
                         refine pure_ (i := 46) (N := some 111) (v := ?_) (a' := ?_) #[true, true, true, true, true, true, true, true, true, true, true, true, true, true, true, true, true, true, true, true, true, true, true, true, true, true, true, true, true, true, true, true, true, true, true, true, true, true, true, true, true, true, true, true, true, true, true, false, false, false, false, false, false, false, false, false, false, false, false, false, false, false, false, false, false, false, false, false, false] rfl rfl (any_of HT_.out (by kernel_rfl)) (fun _ _ _ h => h) (Or.inl ⟨by rfl, ?_⟩) ?_ ?_
                         rotate_left
                         ·intro w'
                          go_simp
                          with_reducible rfl
                         rotate_left
                         ·simp only [Act.put, List.setIfInBounds_toArray, List.set_cons_zero, List.set_cons_succ, i64_w, i32_w]
                          rfl
                         refine pure_ (i := 47) (N := some 112) (v := ?_) (a' := ?_) #[true, true, true, true, true, true, true, true, true, true, true, true, true, true, true, true, true, true, true, true, true, true, true, true, true, true, true, true, true, true, true, true, true, true, true, true, true, true, true, true, true, true, true, true, true, true, true, true, false, false, false, false, false, false, false, false, false, false, false, false, false, false, false, false, false, false, false, false, false] rfl rfl (any_of HT_.out (by kernel_rfl)) (fun _ _ _ h => h) (Or.inl ⟨by rfl, ?_⟩) ?_ ?_
                         rotate_left
                         ·intro w'
                          go_simp
                          with_reducible rfl
                         rotate_left
                         ·simp only [Act.put, List.setIfInBounds_toArray, List.set_cons_zero, List.set_cons_succ, i64_w, i32_w]
                          rfl
                         refine pure_ (i := 49) (N := some 114) (v := ?_) (a' := ?_) #[true, true, true, true, true, true, true, true, true, true, true, true, true, true, true, true, true, true, true, true, true, true, true, true, true, true, true, true, true, true, true, true, true, true, true, true, true, true, true, true, true, true, true, true, true, true, true, true, false, true, false, false, false, false, false, false, false, false, false, false, false, false, false, false, false, false, false, false, false] rfl rfl (any_of HT_.out (by kernel_rfl)) (fun _ _ _ h => h) (Or.inl ⟨by rfl, ?_⟩) ?_ ?_
                         rotate_left
                         ·intro w'
                          go_simp
                          with_reducible rfl
                         rotate_left
                         ·simp only [Act.put, List.setIfInBounds_toArray, List.set_cons_zero, List.set_cons_succ, i64_w, i32_w]
                          rfl
                         refine pure_ (i := 50) (N := some 115) (v := ?_) (a' := ?_) #[true, true, true, true, true, true, true, true, true, true, true, true, true, true, true, true, true, true, true, true, true, true, true, true, true, true, true, true, true, true, true, true, true, true, true, true, true, true, true, true, true, true, true, true, true, true, true, true, false, true, true, false, false, false, false, false, false, false, false, false, false, false, false, false, false, false, false, false, false] rfl rfl (any_of HT_.out (by kernel_rfl)) (fun _ _ _ h => h) (Or.inl ⟨by rfl, ?_⟩) ?_ ?_
                         rotate_left
                         ·intro w'
                          go_simp
                          with_reducible rfl
                         rotate_left
                         ·simp only [Act.put, List.setIfInBounds_toArray, List.set_cons_zero, List.set_cons_succ, i64_w, i32_w]
                          rfl
                         refine pure_ (i := 51) (N := some 116) (v := ?_) (a' := ?_) #[true, true, true, true, true, true, true, true, true, true, true, true, true, true, true, true, true, true, true, true, true, true, true, true, true, true, true, true, true, true, true, true, true, true, true, true, true, true, true, true, true, true, true, true, true, true, true, true, false, true, true, true, false, false, false, false, false, false, false, false, false, false, false, false, false, false, false, false, false] rfl rfl (any_of HT_.out (by kernel_rfl)) (fun _ _ _ h => h) (Or.inl ⟨by rfl, ?_⟩) ?_ ?_
                         rotate_left
                         ·intro w'
                          go_simp
                          with_reducible rfl
                         rotate_left
                         ·simp only [Act.put, List.setIfInBounds_toArray, List.set_cons_zero, List.set_cons_succ, i64_w, i32_w]
                          rfl
                         refine pure_ (i := 52) (N := some 117) (v := ?_) (a' := ?_) #[true, true, true, true, true, true, true, true, true, true, true, true, true, true, true, true, true, true, true, true, true, true, true, true, true, true, true, true, true, true, true, true, true, true, true, true, true, true, true, true, true, true, true, true, true, true, true, true, false, true, true, true, true, false, false, false, false, false, false, false, false, false, false, false, false, false, false, false, false] rfl rfl (any_of HT_.out (by kernel_rfl)) (fun _ _ _ h => h) (Or.inl ⟨by rfl, ?_⟩) ?_ ?_
                         rotate_left
                         ·intro w'
                          go_simp
                          with_reducible rfl
                         rotate_left
                         ·simp only [Act.put, List.setIfInBounds_toArray, List.set_cons_zero, List.set_cons_succ, i64_w, i32_w]
                          rfl
                         refine take_ (i := 48) (N := some 113) (v := ?_) (a' := ?_) #[true, true, true, true, true, true, true, true, true, true, true, true, true, true, true, true, true, true, true, true, true, true, true, true, true, true, true, true, true, true, true, true, true, true, true, true, true, true, true, true, true, true, true, true, true, true, true, true, true, true, true, true, true, false, false, false, false, false, false, false, false, false, false, false, false, false, false, false, false] rfl rfl (take_ofW HT_.out HW_.out (by kernel_rfl)) (fun _ _ _ h => h) (Or.inl ⟨by rfl, ?_⟩) hHeld ?_ ?_
                         rotate_left
                         ·rintro w' ⟨s0, s1, s2, s3, s4, s5, s6, s7, s8, s9, s10, s11, s12, s13, s14, s15, s16, s17, s18, s19, s20, s21, s22, s23, s24, s25, s26⟩
                          go_simp
                          with_reducible rfl
                         rotate_left
                         ·simp only [Act.put, List.setIfInBounds_toArray, List.set_cons_zero, List.set_cons_succ, i64_w, i32_w]
                          rfl
                         refine pure_ (i := 54) (N := some 119) (v := ?_) (a' := ?_) #[true, true, true, true, true, true, true, true, true, true, true, true, true, true, true, true, true, true, true, true, true, true, true, true, true, true, true, true, true, true, true, true, true, true, true, true, true, true, true, true, true, true, true, true, true, true, true, true, true, true, true, true, true, false, true, false, false, false, false, false, false, false, false, false, false, false, false, false, false] rfl rfl (any_of HT_.out (by kernel_rfl)) (fun _ _ _ h => h) (Or.inl ⟨by rfl, ?_⟩) ?_ ?_
                         rotate_left
                         ·intro w'
                          go_simp
                          with_reducible rfl
                         rotate_left
                         ·simp only [Act.put, List.setIfInBounds_toArray, List.set_cons_zero, List.set_cons_succ, i64_w, i32_w]
                          rfl
                         refine take_ (i := 53) (N := some 118) (v := ?_) (a' := ?_) #[true, true, true, true, true, true, true, true, true, true, true, true, true, true, true, true, true, true, true, true, true, true, true, true, true, true, true, true, true, true, true, true, true, true, true, true, true, true, true, true, true, true, true, true, true, true, true, true, true, true, true, true, true, true, true, false, false, false, false, false, false, false, false, false, false, false, false, false, false] rfl rfl (take_ofW HT_.out HW_.out (by kernel_rfl)) (fun _ _ _ h => h) (Or.inl ⟨by rfl, ?_⟩) hHeld ?_ ?_
                         rotate_left
                         ·rintro w' ⟨s0, s1, s2, s3, s4, s5, s6, s7, s8, s9, s10, s11, s12, s13, s14, s15, s16, s17, s18, s19, s20, s21, s22, s23, s24, s25, s26⟩
                          go_simp
                          with_reducible rfl
                         rotate_left
                         ·simp only [Act.put, List.setIfInBounds_toArray, List.set_cons_zero, List.set_cons_succ, i64_w, i32_w]
                          rfl
                         refine pure_ (i := 55) (N := some 120) (v := ?_) (a' := ?_) #[true, true, true, true, true, true, true, true, true, true, true, true, true, true, true, true, true, true, true, true, true, true, true, true, true, true, true, true, true, true, true, true, true, true, true, true, true, true, true, true, true, true, true, true, true, true, true, true, true, true, true, true, true, true, true, true, false, false, false, false, false, false, false, false, false, false, false, false, false] rfl rfl (any_of HT_.out (by kernel_rfl)) (fun _ _ _ h => h) (Or.inl ⟨by rfl, ?_⟩) ?_ ?_
                         rotate_left
                         ·intro w'
                          go_simp
                          with_reducible rfl
                         rotate_left
                         ·simp only [Act.put, List.setIfInBounds_toArray, List.set_cons_zero, List.set_cons_succ, i64_w, i32_w]
                          rfl
                         refine take_ (i := 56) (N := some 121) (v := ?_) (a' := ?_) #[true, true, true, true, true, true, true, true, true, true, true, true, true, true, true, true, true, true, true, true, true, true, true, true, true, true, true, true, true, true, true, true, true, true, true, true, true, true, true, true, true, true, true, true, true, true, true, true, true, true, true, true, true, true, true, true, true, false, false, false, false, false, false, false, false, false, false, false, false] rfl rfl (take_ofW HT_.out HW_.out (by kernel_rfl)) (fun _ _ _ h => h) (Or.inl ⟨by rfl, ?_⟩) hHeld ?_ ?_
                         rotate_left
                         ·rintro w' ⟨s0, s1, s2, s3, s4, s5, s6, s7, s8, s9, s10, s11, s12, s13, s14, s15, s16, s17, s18, s19, s20, s21, s22, s23, s24, s25, s26⟩
                          go_simp
                          with_reducible rfl
                         rotate_left
                         ·simp only [Act.put, List.setIfInBounds_toArray, List.set_cons_zero, List.set_cons_succ, i64_w, i32_w]
                          rfl
                         refine pure_ (i := 57) (N := some 122) (v := ?_) (a' := ?_) #[true, true, true, true, true, true, true, true, true, true, true, true, true, true, true, true, true, true, true, true, true, true, true, true, true, true, true, true, true, true, true, true, true, true, true, true, true, true, true, true, true, true, true, true, true, true, true, true, true, true, true, true, true, true, true, true, true, true, false, false, false, false, false, false, false, false, false, false, false] rfl rfl (any_of HT_.out (by kernel_rfl)) (fun _ _ _ h => h) (Or.inl ⟨by rfl, ?_⟩) ?_ ?_
                         rotate_left
                         ·intro w'
                          go_simp
                          with_reducible rfl
                         rotate_left
                         ·simp only [Act.put, List.setIfInBounds_toArray, List.set_cons_zero, List.set_cons_succ, i64_w, i32_w]
                          rfl
                         refine pure_ (i := 58) (N := some 123) (v := ?_) (a' := ?_) #[true, true, true, true, true, true, true, true, true, true, true, true, true, true, true, true, true, true, true, true, true, true, true, true, true, true, true, true, true, true, true, true, true, true, true, true, true, true, true, true, true, true, true, true, true, true, true, true, true, true, true, true, true, true, true, true, true, true, true, false, false, false, false, false, false, false, false, false, false] rfl rfl (any_of HT_.out (by kernel_rfl)) (fun _ _ _ h => h) (Or.inl ⟨by rfl, ?_⟩) ?_ ?_
                         rotate_left
                         ·intro w'
                          go_simp
                          with_reducible rfl
                         rotate_left
                         ·simp only [Act.put, List.setIfInBounds_toArray, List.set_cons_zero, List.set_cons_succ, i64_w, i32_w]
                          rfl
                         refine pure_ (i := 60) (N := some 125) (v := ?_) (a' := ?_) #[true, true, true, true, true, true, true, true, true, true, true, true, true, true, true, true, true, true, true, true, true, true, true, true, true, true, true, true, true, true, true, true, true, true, true, true, true, true, true, true, true, true, true, true, true, true, true, true, true, true, true, true, true, true, true, true, true, true, true, false, true, false, false, false, false, false, false, false, false] rfl rfl (any_of HT_.out (by kernel_rfl)) (fun _ _ _ h => h) (Or.inl ⟨by rfl, ?_⟩) ?_ ?_
                         rotate_left
                         ·intro w'
                          go_simp
                          with_reducible rfl
                         rotate_left
                         ·simp only [Act.put, List.setIfInBounds_toArray, List.set_cons_zero, List.set_cons_succ, i64_w, i32_w]
                          rfl
                         refine pure_ (i := 61) (N := some 126) (v := ?_) (a' := ?_) #[true, true, true, true, true, true, true, true, true, true, true, true, true, true, true, true, true, true, true, true, true, true, true, true, true, true, true, true, true, true, true, true, true, true, true, true, true, true, true, true, true, true, true, true, true, true, true, true, true, true, true, true, true, true, true, true, true, true, true, false, true, true, false, false, false, false, false, false, false] rfl rfl (any_of HT_.out (by kernel_rfl)) (fun _ _ _ h => h) (Or.inl ⟨by rfl, ?_⟩) ?_ ?_
                         rotate_left
                         ·intro w'
                          go_simp
                          with_reducible rfl
                         rotate_left
                         ·simp only [Act.put, List.setIfInBounds_toArray, List.set_cons_zero, List.set_cons_succ, i64_w, i32_w]
                          rfl
                         refine pure_ (i := 62) (N := some 127) (v := ?_) (a' := ?_) #[true, true, true, true, true, true, true, true, true, true, true, true, true, true, true, true, true, true, true, true, true, true, true, true, true, true, true, true, true, true, true, true, true, true, true, true, true, true, true, true, true, true, true, true, true, true, true, true, true, true, true, true, true, true, true, true, true, true, true, false, true, true, true, false, false, false, false, false, false] rfl rfl (any_of HT_.out (by kernel_rfl)) (fun _ _ _ h => h) (Or.inl ⟨by rfl, ?_⟩) ?_ ?_
                         rotate_left
                         ·intro w'
                          go_simp
                          with_reducible rfl
                         rotate_left
                         ·simp only [Act.put, List.setIfInBounds_toArray, List.set_cons_zero, List.set_cons_succ, i64_w, i32_w]
                          rfl
                         refine pure_ (i := 63) (N := some 128) (v := ?_) (a' := ?_) #[true, true, true, true, true, true, true, true, true, true, true, true, true, true, true, true, true, true, true, true, true, true, true, true, true, true, true, true, true, true, true, true, true, true, true, true, true, true, true, true, true, true, true, true, true, true, true, true, true, true, true, true, true, true, true, true, true, true, true, false, true, true, true, true, false, false, false, false, false] rfl rfl (any_of HT_.out (by kernel_rfl)) (fun _ _ _ h => h) (Or.inl ⟨by rfl, ?_⟩) ?_ ?_
                         rotate_left
                         ·intro w'
                          go_simp
                          with_reducible rfl
                         rotate_left
                         ·simp only [Act.put, List.setIfInBounds_toArray, List.set_cons_zero, List.set_cons_succ, i64_w, i32_w]
                          rfl
                         refine pure_ (i := 66) (N := some 131) (v := ?_) (a' := ?_) #[true, true, true, true, true, true, true, true, true, true, true, true, true, true, true, true, true, true, true, true, true, true, true, true, true, true, true, true, true, true, true, true, true, true, true, true, true, true, true, true, true, true, true, true, true, true, true, true, true, true, true, true, true, true, true, true, true, true, true, false, true, true, true, true, false, false, true, false, false] rfl rfl (any_of HT_.out (by kernel_rfl)) (fun _ _ _ h => h) (Or.inl ⟨by rfl, ?_⟩) ?_ ?_
                         rotate_left
                         ·intro w'
                          go_simp
                          with_reducible rfl
                         rotate_left
                         ·simp only [Act.put, List.setIfInBounds_toArray, List.set_cons_zero, List.set_cons_succ, i64_w, i32_w]
                          rfl
                         refine take_ (i := 59) (N := some 124) (v := ?_) (a' := ?_) #[true, true, true, true, true, true, true, true, true, true, true, true, true, true, true, true, true, true, true, true, true, true, true, true, true, true, true, true, true, true, true, true, true, true, true, true, true, true, true, true, true, true, true, true, true, true, true, true, true, true, true, true, true, true, true, true, true, true, true, true, true, true, true, true, false, false, true, false, false] rfl rfl (take_ofW HT_.out HW_.out (by kernel_rfl)) (fun _ _ _ h => h) (Or.inl ⟨by rfl, ?_⟩) hHeld ?_ ?_
                         rotate_left
                         ·rintro w' ⟨s0, s1, s2, s3, s4, s5, s6, s7, s8, s9, s10, s11, s12, s13, s14, s15, s16, s17, s18, s19, s20, s21, s22, s23, s24, s25, s26⟩
                          go_simp
                          with_reducible rfl
                         rotate_left
                         ·simp only [Act.put, List.setIfInBounds_toArray, List.set_cons_zero, List.set_cons_succ, i64_w, i32_w]
                          rfl
                         refine take_ (i := 64) (N := some 129) (v := ?_) (a' := ?_) #[true, true, true, true, true, true, true, true, true, true, true, true, true, true, true, true, true, true, true, true, true, true, true, true, true, true, true, true, true, true, true, true, true, true, true, true, true, true, true, true, true, true, true, true, true, true, true, true, true, true, true, true, true, true, true, true, true, true, true, true, true, true, true, true, true, false, true, false, false] rfl rfl (take_ofW HT_.out HW_.out (by kernel_rfl)) (fun _ _ _ h => h) (Or.inl ⟨by rfl, ?_⟩) hHeld ?_ ?_
                         rotate_left
                         ·rintro w' ⟨s0, s1, s2, s3, s4, s5, s6, s7, s8, s9, s10, s11, s12, s13, s14, s15, s16, s17, s18, s19, s20, s21, s22, s23, s24, s25, s26⟩
                          go_simp
                          with_reducible rfl
                         rotate_left
                         ·simp only [Act.put, List.setIfInBounds_toArray, List.set_cons_zero, List.set_cons_succ, i64_w, i32_w]
                          rfl
                         refine one_ (i := 65) (N := some 130) #[true, true, true, true, true, true, true, true, true, true, true, true, true, true, true, true, true, true, true, true, true, true, true, true, true, true, true, true, true, true, true, true, true, true, true, true, true, true, true, true, true, true, true, true, true, true, true, true, true, true, true, true, true, true, true, true, true, true, true, true, true, true, true, true, true, true, true, false, false] rfl rfl (one_of HT_.out (by kernel_rfl)) (by decide) (fun K hK => ?_)
                         refine goes_ Try.func25 (by kernel_rfl) rfl #[.agg #[.slice Ao15 t295.length co15], .int .i64 ((rd_T53 t310 x13_3).f0)] (by rfl) rfl rfl (by (try simp only [List.map_toArray, List.map_cons, List.map_nil]); first | done | rfl | (simp only [List.length_drop, List.length_take]; rfl)) ?_
                         with_reducible refine (booklet_PageOf.calls k3 _ _ t295 ((rd_T53 t310 x13_3).f0) t323 _ ?side1 ?side2 A52.out).mono ?_
                         (case side1 => repeat (first | exact (Kd.S_reads' HO_300000.out).2.2 | (with_reducible refine Kd.C_alloc ?_ _) | (with_reducible refine Kd.C_drewN ?_ _) | (with_reducible refine Kd.C_drew ?_)))
                         (case side2 => exact (Kd.S_reads' HO_300000.out).2.1)
                         rintro e w60 ⟨rfl, hb⟩
                         have HS4_ := (hb.cell (World.block_lt_of_cell? _ _ (hHeld.2.2.2.2.1))).trans (hHeld.2.2.2.2.1)
                         have HS5_ := (hb.cell (World.block_lt_of_cell? _ _ (hHeld.2.2.2.2.2.1))).trans (hHeld.2.2.2.2.2.1)
                         have HS6_ := (hb.cell (World.block_lt_of_cell? _ _ (hHeld.2.2.2.2.2.2.1))).trans (hHeld.2.2.2.2.2.2.1)
                         have HS7_ := (hb.cell (World.block_lt_of_cell? _ _ (hHeld.2.2.2.2.2.2.2.1))).trans (hHeld.2.2.2.2.2.2.2.1)
                         have HS8_ := (hb.cell (World.block_lt_of_cell? _ _ (hHeld.2.2.2.2.2.2.2.2.1))).trans (hHeld.2.2.2.2.2.2.2.2.1)
                         have HS9_ := (hb.cell (World.block_lt_of_cell? _ _ (hHeld.2.2.2.2.2.2.2.2.2.1))).trans (hHeld.2.2.2.2.2.2.2.2.2.1)
                         have HS10_ := (hb.cell (World.block_lt_of_cell? _ _ (hHeld.2.2.2.2.2.2.2.2.2.2.1))).trans (hHeld.2.2.2.2.2.2.2.2.2.2.1)
                         have HS11_ := (hb.cell (World.block_lt_of_cell? _ _ (hHeld.2.2.2.2.2.2.2.2.2.2.2.1))).trans (hHeld.2.2.2.2.2.2.2.2.2.2.2.1)
                         have HS12_ := (hb.cell (World.block_lt_of_cell? _ _ (hHeld.2.2.2.2.2.2.2.2.2.2.2.2.1))).trans (hHeld.2.2.2.2.2.2.2.2.2.2.2.2.1)
                         have HS13_ := (hb.cell (World.block_lt_of_cell? _ _ (hHeld.2.2.2.2.2.2.2.2.2.2.2.2.2.1))).trans (hHeld.2.2.2.2.2.2.2.2.2.2.2.2.2.1)
                         have HS14_ := (hb.cell (World.block_lt_of_cell? _ _ (hHeld.2.2.2.2.2.2.2.2.2.2.2.2.2.2.1))).trans (hHeld.2.2.2.2.2.2.2.2.2.2.2.2.2.2.1)
                         have HS15_ := (hb.cell (World.block_lt_of_cell? _ _ (hHeld.2.2.2.2.2.2.2.2.2.2.2.2.2.2.2.1))).trans (hHeld.2.2.2.2.2.2.2.2.2.2.2.2.2.2.2.1)
                         have HS16_ := (hb.cell (World.block_lt_of_cell? _ _ (hHeld.2.2.2.2.2.2.2.2.2.2.2.2.2.2.2.2.1))).trans (hHeld.2.2.2.2.2.2.2.2.2.2.2.2.2.2.2.2.1)
                         have HS17_ := (hb.cell (World.block_lt_of_cell? _ _ (hHeld.2.2.2.2.2.2.2.2.2.2.2.2.2.2.2.2.2.1))).trans (hHeld.2.2.2.2.2.2.2.2.2.2.2.2.2.2.2.2.2.1)
                         have HS18_ := (hb.cell (World.block_lt_of_cell? _ _ (hHeld.2.2.2.2.2.2.2.2.2.2.2.2.2.2.2.2.2.2.1))).trans (hHeld.2.2.2.2.2.2.2.2.2.2.2.2.2.2.2.2.2.2.1)
                         have HS19_ := (hb.cell (World.block_lt_of_cell? _ _ (hHeld.2.2.2.2.2.2.2.2.2.2.2.2.2.2.2.2.2.2.2.1))).trans (hHeld.2.2.2.2.2.2.2.2.2.2.2.2.2.2.2.2.2.2.2.1)
                         have HS20_ := (hb.cell (World.block_lt_of_cell? _ _ (hHeld.2.2.2.2.2.2.2.2.2.2.2.2.2.2.2.2.2.2.2.2.1))).trans (hHeld.2.2.2.2.2.2.2.2.2.2.2.2.2.2.2.2.2.2.2.2.1)
                         have HS21_ := (hb.cell (World.block_lt_of_cell? _ _ (hHeld.2.2.2.2.2.2.2.2.2.2.2.2.2.2.2.2.2.2.2.2.2.1))).trans (hHeld.2.2.2.2.2.2.2.2.2.2.2.2.2.2.2.2.2.2.2.2.2.1)
                         have HS22_ := (hb.cell (World.block_lt_of_cell? _ _ (hHeld.2.2.2.2.2.2.2.2.2.2.2.2.2.2.2.2.2.2.2.2.2.2.1))).trans (hHeld.2.2.2.2.2.2.2.2.2.2.2.2.2.2.2.2.2.2.2.2.2.2.1)
                         have HS23_ := (hb.cell (World.block_lt_of_cell? _ _ (hHeld.2.2.2.2.2.2.2.2.2.2.2.2.2.2.2.2.2.2.2.2.2.2.2.1))).trans (hHeld.2.2.2.2.2.2.2.2.2.2.2.2.2.2.2.2.2.2.2.2.2.2.2.1)
                         have HS24_ := (hb.cell (World.block_lt_of_cell? _ _ (hHeld.2.2.2.2.2.2.2.2.2.2.2.2.2.2.2.2.2.2.2.2.2.2.2.2.1))).trans (hHeld.2.2.2.2.2.2.2.2.2.2.2.2.2.2.2.2.2.2.2.2.2.2.2.2.1)
                         have HS25_ := (hb.cell (World.block_lt_of_cell? _ _ (hHeld.2.2.2.2.2.2.2.2.2.2.2.2.2.2.2.2.2.2.2.2.2.2.2.2.2.1))).trans (hHeld.2.2.2.2.2.2.2.2.2.2.2.2.2.2.2.2.2.2.2.2.2.2.2.2.2.1)
                         have HS26_ := (hb.cell (World.block_lt_of_cell? _ _ (hHeld.2.2.2.2.2.2.2.2.2.2.2.2.2.2.2.2.2.2.2.2.2.2.2.2.2.2))).trans (hHeld.2.2.2.2.2.2.2.2.2.2.2.2.2.2.2.2.2.2.2.2.2.2.2.2.2.2)
                         refine ⟨_, rfl, ?_⟩
                         replace HO_10 := zR HO_10 hb
                         replace HO_12 := zR HO_12 hb
                         replace HO_295002 := zR HO_295002 hb
                         replace HO_300000 := zS HO_300000 hb
                         replace BK294 := zb BK294 hb
                         replace BK299 := zb BK299 hb
                         replace HB := zs HB hb
                         (try clear hb)
                         (try clear hb2)
                         (try clear hk)
                         (try clear hi)
                         refine hK.out _ _ ⟨(blk_cell BK294.out 0).trans rfl, (blk_cell BK294.out 1).trans rfl, (blk_cell BK294.out 2).trans rfl, (blk_cell BK299.out 0).trans rfl, HS4_, HS5_, HS6_, HS7_, HS8_, HS9_, HS10_, HS11_, HS12_, HS13_, HS14_, HS15_, HS16_, HS17_, HS18_, HS19_, HS20_, HS21_, HS22_, HS23_, HS24_, HS25_, HS26_⟩ (fun hHeld => ?_)
                         clear hK K
                         refine norm_ (a' := ?_) ?_ ?_
                         rotate_left
                         ·show Act.put _ (some 130) _ = _
                          simp only [Act.put, List.setIfInBounds_toArray, List.set_cons_zero, List.set_cons_succ, i64_w, i32_w]
                          rfl
                         refine pure_ (i := 67) (N := some 132) (v := ?_) (a' := ?_) #[true, true, true, true, true, true, true, true, true, true, true, true, true, true, true, true, true, true, true, true, true, true, true, true, true, true, true, true, true, true, true, true, true, true, true, true, true, true, true, true, true, true, true, true, true, true, true, true, true, true, true, true, true, true, true, true, true, true, true, true, true, true, true, true, true, true, true, true, false] rfl rfl (any_of HT_.out (by kernel_rfl)) (fun _ _ _ h => h) (Or.inl ⟨by rfl, ?_⟩) ?_ ?_
                         rotate_left
                         ·intro w'
                          go_simp
                          with_reducible rfl
                         rotate_left
                         ·simp only [Act.put, List.setIfInBounds_toArray, List.set_cons_zero, List.set_cons_succ, i64_w, i32_w]
                          rfl
                         refine pure_ (i := 68) (N := some 133) (v := ?_) (a' := ?_) #[true, true, true, true, true, true, true, true, true, true, true, true, true, true, true, true, true, true, true, true, true, true, true, true, true, true, true, true, true, true, true, true, true, true, true, true, true, true, true, true, true, true, true, true, true, true, true, true, true, true, true, true, true, true, true, true, true, true, true, true, true, true, true, true, true, true, true, true, true] rfl rfl (any_of HT_.out (by kernel_rfl)) (fun _ _ _ h => h) (Or.inl ⟨by rfl, ?_⟩) ?_ ?_
                         rotate_left
                         ·intro w'
                          go_simp
                          with_reducible rfl
                         rotate_left
                         ·simp only [Act.put, List.setIfInBounds_toArray, List.set_cons_zero, List.set_cons_succ, i64_w, i32_w]
                          rfl
                         refine done_ (done_of HT_.out (by kernel_rfl)) ?_
                         try go_wp2
                         replace HO_10 := za (Kd.R_drew HO_10.out)
                         replace HO_12 := za (Kd.R_drew HO_12.out)
                         replace HO_295002 := za (Kd.R_drew HO_295002.out)
                         replace HO_300000 := za (Kd.S_drew HO_300000.out)
                         replace BK294 := za (blk_drew BK294.out)
                         replace BK299 := za (blk_drew BK299.out)
                         replace HB := za (below_drew1 HB.out)
                         have p324 : 0 ≤ (x13_3 : Int) := of_decide_eq_true (by first | (with_reducible assumption) | assumption)
                         have q324 : x13_3 < (t310.length : Int) := of_decide_eq_true (by first | (with_reducible assumption) | assumption)
                         obtain ⟨ad324, e324, hx324_0, hx324_1⟩ := at_T53 (Kd.R_reads' HO_12.out).2.2 x13_3 p324 q324
                         obtain rfl : ad313 = ad324 := (by injection e324)
                         replace p324 := eq_true p324
                         replace q324 := eq_true q324
                         have p325 : 0 ≤ (x13_3 : Int) := of_decide_eq_true (by first | (with_reducible assumption) | assumption)
                         have q325 : x13_3 < (t310.length : Int) := of_decide_eq_true (by first | (with_reducible assumption) | assumption)
                         obtain ⟨ad325, e325, hx325_0, hx325_1⟩ := at_T53 (Kd.R_reads' HO_12.out).2.2 x13_3 p325 q325
                         obtain rfl : ad313 = ad325 := (by injection e325)
                         replace p325 := eq_true p325
                         replace q325 := eq_true q325
                         have p62 : 0 ≤ (((rd_T53 t310 x13_3).f0) : Int) := of_decide_eq_true (by first | (with_reducible assumption) | assumption)
                         have q62 : (((rd_T53 t310 x13_3).f0) : Int) < 24 := of_decide_eq_true (by first | (with_reducible assumption) | assumption)
                         replace p62 := eq_true p62
                         replace q62 := eq_true q62
                         have p63 : 0 ≤ (((rd_T53 t310 x13_3).f1) : Int) := of_decide_eq_true (by first | (with_reducible assumption) | assumption)
                         have q63 : (((rd_T53 t310 x13_3).f1) : Int) < 5 := of_decide_eq_true (by first | (with_reducible assumption) | assumption)
                         have hxi63 := arr_ix ((rd_T53 t310 x13_3).f0) ((rd_T53 t310 x13_3).f1) 5 (of_decide_eq_true (by first | (with_reducible assumption) | assumption)) p63
                         have hxe63 := fun ad_ : Addr => arr_at ad_ 5 ((rd_T53 t310 x13_3).f0) ((rd_T53 t310 x13_3).f1) (of_decide_eq_true (by first | (with_reducible assumption) | assumption)) p63
                         replace p63 := eq_true p63
                         replace q63 := eq_true q63
                         have p54 : 0 ≤ ((ji47) : Int) := of_decide_eq_true (by first | (with_reducible assumption) | assumption)
                         have q54 : ((ji47) : Int) < ((x10_3.length : Int) : Int) := of_decide_eq_true (by first | (with_reducible assumption) | assumption)
                         obtain ⟨go54, co54, eo54, gb54, gl54, cl54, HG54⟩ := Kd.R_form HO_10.out (by omega)
                         (first | cases eo54 | (injection eo54 with ea_ en_ ec_; (first | subst ea_ | (injection ea_ with ea_; subst ea_)); subst ec_; clear en_))
                         have GB54 := za gb54
                         have GG54 := za HG54
                         clear gb54 gl54 HG54
                         (first | simp only [add_plain] at hx321_0 | skip)
                         obtain ⟨hx54_0, hf54_0⟩ := Kd.R_celln false HO_10.out ((ji47) : Int) p54 q54
                         have hxp54 := add_plain go54 ((ji47) : Int).toNat
                         replace p54 := eq_true p54
                         replace q54 := eq_true q54
                         have HP64 := Kd.R_putn HO_10.out ((ji47) : Int) true
                         rw [← Ny326.out] at HP64
                         have HQ64 := za HP64
                         clear HP64
                         refine start_ (n := 13) (S := fun w' => w'.cell? (ad313.add ((x13_3).toNat * 2)) = some (.int .i64 ((rd_T53 t310 x13_3).f0)) ∧ w'.cell? ⟨(ad313.add ((x13_3).toNat * 2)).block, (ad313.add ((x13_3).toNat * 2)).off + 1, none⟩ = some (.int .i64 ((rd_T53 t310 x13_3).f1)) ∧ w'.cell? (ad313.add ((x13_3).toNat * 2)) = some (.int .i64 ((rd_T53 t310 x13_3).f0)) ∧ w'.cell? ⟨(ad313.add ((x13_3).toNat * 2)).block, (ad313.add ((x13_3).toNat * 2)).off + 1, none⟩ = some (.int .i64 ((rd_T53 t310 x13_3).f1))) (ds := [12]) #[false, false, false, false, false, false, false, false, false, false, false, false, false] (by kernel_rfl) rfl rfl ⟨hx324_0, hx324_1, hx325_0, hx325_1⟩ (fun hHeld => ?_); refine with_tabW awardingbodylaw12_BookletOnce.tab21 awardingbodylaw12_BookletOnce.bits21 (fun HT_ HW_ => ?_)
                         generalize w60.drew = w61 at HO_10 HO_12 HO_295002 HO_300000 BK294 BK299 HB GG54 HQ64 hf54_0 hx321_0 hx324_0 hx324_1 hx325_0 hx325_1 hx54_0 hHeld ⊢
                         refine pure_ (i := 0) (N := some 134) (v := ?_) (a' := ?_) #[true, false, false, false, false, false, false, false, false, false, false, false, false] rfl rfl (any_of HT_.out (by kernel_rfl)) (fun _ _ _ h => h) (Or.inl ⟨by rfl, ?_⟩) ?_ ?_
                         rotate_left
                         ·intro w'
                          go_simp
                          with_reducible rfl
                         rotate_left
                         ·simp only [Act.put, List.setIfInBounds_toArray, List.set_cons_zero, List.set_cons_succ, i64_w, i32_w]
                          rfl
                         refine pure_ (i := 1) (N := some 135) (v := ?_) (a' := ?_) #[true, true, false, false, false, false, false, false, false, false, false, false, false] rfl rfl (any_of HT_.out (by kernel_rfl)) (fun _ _ _ h => h) (Or.inl ⟨by rfl, ?_⟩) ?_ ?_
                         rotate_left
                         ·intro w'
                          go_simp
                          with_reducible rfl
                         rotate_left
                         ·simp only [Act.put, List.setIfInBounds_toArray, List.set_cons_zero, List.set_cons_succ, i64_w, i32_w]
                          rfl
                         refine pure_ (i := 2) (N := some 136) (v := ?_) (a' := ?_) #[true, true, true, false, false, false, false, false, false, false, false, false, false] rfl rfl (any_of HT_.out (by kernel_rfl)) (fun _ _ _ h => h) (Or.inl ⟨by rfl, ?_⟩) ?_ ?_
                         rotate_left
                         ·intro w'
                          go_simp
                          with_reducible rfl
                         rotate_left
                         ·simp only [Act.put, List.setIfInBounds_toArray, List.set_cons_zero, List.set_cons_succ, i64_w, i32_w]
                          rfl
                         refine pure_ (i := 3) (N := some 137) (v := ?_) (a' := ?_) #[true, true, true, true, false, false, false, false, false, false, false, false, false] rfl rfl (any_of HT_.out (by kernel_rfl)) (fun _ _ _ h => h) (Or.inl ⟨by rfl, ?_⟩) ?_ ?_
                         rotate_left
                         ·intro w'
                          go_simp
                          with_reducible rfl
                         rotate_left
                         ·simp only [Act.put, List.setIfInBounds_toArray, List.set_cons_zero, List.set_cons_succ, i64_w, i32_w]
                          rfl
                         refine pure_ (i := 5) (N := some 139) (v := ?_) (a' := ?_) #[true, true, true, true, false, true, false, false, false, false, false, false, false] rfl rfl (any_of HT_.out (by kernel_rfl)) (fun _ _ _ h => h) (Or.inl ⟨by rfl, ?_⟩) ?_ ?_
                         rotate_left
                         ·intro w'
                          go_simp
                          with_reducible rfl
                         rotate_left
                         ·simp only [Act.put, List.setIfInBounds_toArray, List.set_cons_zero, List.set_cons_succ, i64_w, i32_w]
                          rfl
                         refine pure_ (i := 6) (N := some 140) (v := ?_) (a' := ?_) #[true, true, true, true, false, true, true, false, false, false, false, false, false] rfl rfl (any_of HT_.out (by kernel_rfl)) (fun _ _ _ h => h) (Or.inl ⟨by rfl, ?_⟩) ?_ ?_
                         rotate_left
                         ·intro w'
                          go_simp
                          with_reducible rfl
                         rotate_left
                         ·simp only [Act.put, List.setIfInBounds_toArray, List.set_cons_zero, List.set_cons_succ, i64_w, i32_w]
                          rfl
                         refine pure_ (i := 7) (N := some 141) (v := ?_) (a' := ?_) #[true, true, true, true, false, true, true, true, false, false, false, false, false] rfl rfl (any_of HT_.out (by kernel_rfl)) (fun _ _ _ h => h) (Or.inl ⟨by rfl, ?_⟩) ?_ ?_
                         rotate_left
                         ·intro w'
                          go_simp
                          with_reducible rfl
                         rotate_left
                         ·simp only [Act.put, List.setIfInBounds_toArray, List.set_cons_zero, List.set_cons_succ, i64_w, i32_w]
                          rfl
                         refine pure_ (i := 8) (N := some 142) (v := ?_) (a' := ?_) #[true, true, true, true, false, true, true, true, true, false, false, false, false] rfl rfl (any_of HT_.out (by kernel_rfl)) (fun _ _ _ h => h) (Or.inl ⟨by rfl, ?_⟩) ?_ ?_
                         rotate_left
                         ·intro w'
                          go_simp
                          with_reducible rfl
                         rotate_left
                         ·simp only [Act.put, List.setIfInBounds_toArray, List.set_cons_zero, List.set_cons_succ, i64_w, i32_w]
                          rfl
                         refine take_ (i := 4) (N := some 138) (v := ?_) (a' := ?_) #[true, true, true, true, true, true, true, true, true, false, false, false, false] rfl rfl (take_ofW HT_.out HW_.out (by kernel_rfl)) (fun _ _ _ h => h) (Or.inl ⟨by rfl, ?_⟩) hHeld ?_ ?_
                         rotate_left
                         ·rintro w' ⟨s0, s1, s2, s3⟩
                          go_simp
                          with_reducible rfl
                         rotate_left
                         ·simp only [Act.put, List.setIfInBounds_toArray, List.set_cons_zero, List.set_cons_succ, i64_w, i32_w]
                          rfl
                         refine pure_ (i := 10) (N := some 144) (v := ?_) (a' := ?_) #[true, true, true, true, true, true, true, true, true, false, true, false, false] rfl rfl (any_of HT_.out (by kernel_rfl)) (fun _ _ _ h => h) (Or.inl ⟨by rfl, ?_⟩) ?_ ?_
                         rotate_left
                         ·intro w'
                          go_simp
                          with_reducible rfl
                         rotate_left
                         ·simp only [Act.put, List.setIfInBounds_toArray, List.set_cons_zero, List.set_cons_succ, i64_w, i32_w]
                          rfl
                         refine take_ (i := 9) (N := some 143) (v := ?_) (a' := ?_) #[true, true, true, true, true, true, true, true, true, true, true, false, false] rfl rfl (take_ofW HT_.out HW_.out (by kernel_rfl)) (fun _ _ _ h => h) (Or.inl ⟨by rfl, ?_⟩) hHeld ?_ ?_
                         rotate_left
                         ·rintro w' ⟨s0, s1, s2, s3⟩
                          go_simp
                          with_reducible rfl
                         rotate_left
                         ·simp only [Act.put, List.setIfInBounds_toArray, List.set_cons_zero, List.set_cons_succ, i64_w, i32_w]
                          rfl
                         refine pure_ (i := 11) (N := some 145) (v := ?_) (a' := ?_) #[true, true, true, true, true, true, true, true, true, true, true, true, false] rfl rfl (any_of HT_.out (by kernel_rfl)) (fun _ _ _ h => h) (Or.inl ⟨by rfl, ?_⟩) ?_ ?_
                         rotate_left
                         ·intro w'
                          go_simp
                          with_reducible rfl
                         rotate_left
                         ·simp only [Act.put, List.setIfInBounds_toArray, List.set_cons_zero, List.set_cons_succ, i64_w, i32_w]
                          rfl
                         refine last_ (i := 12) (N := none) #[true, true, true, true, true, true, true, true, true, true, true, true, true] rfl rfl (one_of HT_.out (by kernel_rfl)) (by decide) (fun K hK => ?_)
                         refine skip_ (w1 := ?_) (by rfl) rfl ?_ ?_
                         rotate_left
                         ·go_simp
                          rfl
                         refine hK.out _ _ ?_
                         clear hK K
                         refine done_ (done_of HT_.out (by kernel_rfl)) ?_
                         try go_wp2
                         go_roundg k3
                         case measure => have := HK1.out; have := HK2.out; have := HK3.out; omega
                         case rel => exact ⟨(wrap64 (x8_3 + 1)), (y326), (wrap64 (x13_3 + 1)), (by first | rfl | (simp; done) | (simp [*]; done)), (by first | rfl | (simp; done) | (simp [*]; done)), H', ⟨by have := HK1.out; have := HK2.out; have := HK3.out; omega⟩, ⟨by (with_reducible repeat (first | apply Kd.R_alloc | apply Kd.R_drewN | apply Kd.R_drew)); exact HQ64.out⟩, ⟨by (with_reducible repeat (first | apply Kd.R_alloc | apply Kd.R_drewN | apply Kd.R_drew)); exact Kd.R_mono (Kd.R_far (p := ⟨go54, ((ji47) : Int).toNat, none⟩) (Kd.R_types HO_12.out GG54.out (by decide)) (fun _ hk => hk.2) (.bool true)) (fun _ hk => trivial)⟩, ⟨by (with_reducible repeat (first | apply Kd.R_alloc | apply Kd.R_drewN | apply Kd.R_drew)); exact Kd.R_mono (Kd.R_far (p := ⟨go54, ((ji47) : Int).toNat, none⟩) (Kd.R_types HO_295002.out GG54.out (by decide)) (fun _ hk => hk.2) (.bool true)) (fun _ hk => trivial)⟩, ⟨by (with_reducible repeat (first | apply Kd.S_alloc | apply Kd.S_drewN | apply Kd.S_drew)); exact Kd.S_mono (Kd.S_far (p := ⟨go54, ((ji47) : Int).toNat, none⟩) (Kd.S_types HO_300000.out GG54.out (by decide)) (fun _ hk => hk.2) (.bool true)) (fun _ hk => trivial)⟩, ⟨by (with_reducible repeat (first | refine blk_drewN ?_ _ | refine blk_drew ?_ | refine blk_alloc ?_ _)); refine blk_far ?_ (by have h_ := Kd.R_ne HO_10.out BK294.out (by decide); intro e_; exact h_ (by rw [e_]; rfl)) _; (with_reducible repeat (first | refine blk_drewN ?_ _ | refine blk_drew ?_ | refine blk_alloc ?_ _)); exact BK294.out⟩, ⟨by (with_reducible repeat (first | refine blk_drewN ?_ _ | refine blk_drew ?_ | refine blk_alloc ?_ _)); refine blk_far ?_ (by have h_ := Kd.R_ne HO_10.out BK299.out (by decide); intro e_; exact h_ (by rw [e_]; rfl)) _; (with_reducible repeat (first | refine blk_drewN ?_ _ | refine blk_drew ?_ | refine blk_alloc ?_ _)); exact BK299.out⟩, ⟨zm HB⟩⟩
                        ·rw [if_neg c53] at H
                         exact absurd H (by simp)
                      ·rw [if_neg c49] at H
                       exact absurd H (by simp)
                     ·rw [if_neg c48] at H
                      exact absurd H (by simp)
                    ·rw [if_neg c46] at H
                     exact absurd H (by simp)
                   ·rw [if_neg c45] at H
                    exact absurd H (by simp)
                  ·rw [if_neg c44] at H
                   exact absurd H (by simp)
                ·rw [if_neg c42] at H
                 exact absurd H (by simp)
               ·rw [if_neg c41] at H
                exact absurd H (by simp)
           ·rw [if_neg c37] at H
            exact absurd H (by simp)
          ·rw [if_neg c36] at H
           have c36b0 : decide (x13_3 < (t310.length : Int)) = false := decide_eq_false c36
           clear c36
           have H' := za H
           clear H
           obtain ⟨Ao65, co65, eo65⟩ := Kd.R_slice HO_12.out
           subst eo65
           go_wp2
           go_roundg k3
           case measure => have := HK1.out; have := HK2.out; have := HK3.out; omega
           case rel => exact ⟨(x8_3), (x10_3), (wrap64 (x11_2 + 1)), (by first | rfl | (simp; done) | (simp [*]; done)), (by first | rfl | (simp; done) | (simp [*]; done)), H', ⟨by have := HK1.out; have := HK2.out; have := HK3.out; omega⟩, ⟨by (with_reducible repeat (first | apply Kd.R_alloc | apply Kd.R_drewN | apply Kd.R_drew)); exact HO_10.out⟩, ⟨by (with_reducible repeat (first | apply Kd.R_alloc | apply Kd.R_drewN | apply Kd.R_drew)); exact HO_295002.out⟩, ⟨by (with_reducible repeat (first | apply Kd.S_alloc | apply Kd.S_drewN | apply Kd.S_drew)); exact HO_300000.out⟩, ⟨by (with_reducible repeat (first | refine blk_drewN ?_ _ | refine blk_drew ?_ | refine blk_alloc ?_ _)); exact BK294.out⟩, ⟨by (with_reducible repeat (first | refine blk_drewN ?_ _ | refine blk_drew ?_ | refine blk_alloc ?_ _)); exact BK299.out⟩, ⟨zm HB⟩⟩
       ·rw [if_neg c30] at H
        have c30b0 : decide (x11_2 < (t295.length : Int)) = false := decide_eq_false c30
        clear c30
        by_cases c66 : x8_2 = x7_1
        ·rw [if_pos c66] at H
         have c66b0 : (x8_2 == x7_1) = true := beq_iff_eq.mpr c66
         have c66b1 : (x8_2 != x7_1) = false := bne_eq_false_iff_eq.mpr c66
         clear c66
         replace H := Option.bind_eq_some_iff.mp H
         obtain ⟨t309, A670, H⟩ := H
         replace H : (some t309) = some r := H
         have A67 := za A670
         clear A670
         obtain rfl := Option.some.inj H
         have hnb68 := NB299_294.out
         have hnc68 := NB294_299.out
         obtain ⟨hcz69_0, hfz69_0⟩ := z1 BK299
         go_wp2_with (first | (go_at_call 14; (with_reducible refine (awardingbodylaw12_awake.calls k2  t309 _ A67.out).mono ?_); rintro e w70 ⟨rfl, hb⟩; replace HO_10 := zR HO_10 hb; replace HO_295002 := zR HO_295002 hb; replace HO_300000 := zS HO_300000 hb; replace BK294 := zb BK294 hb; replace BK299 := zb BK299 hb; replace HB := zs HB hb; (try clear hb); (try clear hb2); (try clear hk); (try clear hi)))
         go_ret
         exact ⟨zf, zm HB⟩
        ·rw [if_neg c66] at H
         exact absurd H (by simp)
 ·rw [if_neg c5] at H
  have c5b0 : (t298 == 0) = false := beq_eq_false_iff_ne.mpr c5
  have c5b1 : (t298 != 0) = true := bne_iff_ne.mpr c5
  by_cases c71 : t298 = 3
  ·rw [if_pos c71] at H
   have c71b0 : (t298 == 3) = true := beq_iff_eq.mpr c71
   have c71b1 : (t298 != 3) = false := bne_eq_false_iff_eq.mpr c71
   clear c71
   replace H := Option.bind_eq_some_iff.mp H
   obtain ⟨t300, A720, H⟩ := H
   replace H : (some t300) = some r := H
   have A72 := za A720
   clear A720
   obtain rfl := Option.some.inj H
   go_enter Try.func10, Try.ntmps10
   go_wp2_with (first | ((with_reducible refine gate_callee (f := 15) rfl ?_); refine zL (some 15) Try.func15 #[.slice A0 l0.length c0] ?_; (with_reducible refine (awardingbodymake_New.calls _ _ l0 t285 t286 w _ ?side1 ?side2 ?side3 A2.out).mono ?_); (case side1 => repeat (first | (with_reducible first | exact HB.out | apply below_alloc | apply pw_below_drewN | apply below_drew1) | exact HB.out)); (case side2 => exact HR0.out); (case side3 => exact HC0.out); rintro e w73 ⟨g287, rfl, hi, hb, hb2⟩; refine ⟨_, rfl, ?_⟩; have HI287 := za (hi); replace HB := za (hb); (try clear hb); (try clear hb2); (try clear hk); (try clear hi)) | ((with_reducible refine gate_callee (f := 17) rfl ?_); refine zL (some 16) Try.func17 #[.pointer (some ⟨g287, 0, none⟩)] ?_; (with_reducible refine (awardingbodymake_Tape_Long.calls k g287 t285 t286 t288 t289 t290 t293 w _ ?side1 ?side2 A3.out).mono ?_); (case side1 => repeat (first | (with_reducible first | exact HI287.out | apply IsS61.alloc | apply IsS61.drewN | apply IsS61.drew | apply IsS61.set_1) | exact HI287.out)); (case side2 => repeat (first | (with_reducible first | exact HB.out | apply below_alloc | apply pw_below_drewN | apply below_drew1 | refine below_set ?_ (IsS61.ge HI287.out)) | exact HB.out)); rintro e w74 ⟨v291, rfl, ho0, hi, hb, hk⟩; refine ⟨_, rfl, ?_⟩; have HO292 := za (Kd.R_lower ho0 (below_size (zm HB))); replace HB := za (hb); replace HI287 := za (hi); (try clear hb); (try clear hb2); (try clear hk); (try clear hi); (try clear ho0)) | ((with_reducible refine gate_dst (N := 3) rfl ?_); (try (refine gate_guard (by rfl) ?_; dsimp only)); refine zE 3 #[.int .i64 0, .int .i64 0, .slice none 0 0] 33 ?_; intro gb294 hg w75 hbox hb; have BK294 := za (hbox); have GW294 := zg HB hg; have GE294 := zg HB hg; have NB287_294 := za ((by rw [hg]; exact Nat.ne_of_lt (IsS61.lt (show IsS61 w _ g287 t285 t293 from by repeat (first | (with_reducible first | exact HI287.out | apply IsS61.alloc | apply IsS61.drewN | apply IsS61.drew | apply IsS61.set_1) | exact HI287.out))) : g287 ≠ gb294)); have NB294_287 := za ((by rw [hg]; exact Nat.ne_of_gt (IsS61.lt (show IsS61 w _ g287 t285 t293 from by repeat (first | (with_reducible first | exact HI287.out | apply IsS61.alloc | apply IsS61.drewN | apply IsS61.drew | apply IsS61.set_1) | exact HI287.out))) : gb294 ≠ g287)); replace HO292 := zR HO292 hb; replace HI287 := za (IsS61.below (by repeat (first | (with_reducible first | exact HI287.out | apply IsS61.alloc | apply IsS61.drewN | apply IsS61.drew | apply IsS61.set_1) | exact HI287.out)) hb); replace HB := zs HB hb; clear hb hbox hg; have hnb76 := NB294_287.out; have hnc76 := NB287_294.out; obtain ⟨hcz77_0, hcz77_1, hcz77_2, hfz77_0, hfz77_1, hfz77_2⟩ := z3 BK294; obtain ⟨Ao78, co78, eo78⟩ := Kd.R_slice HO292.out; subst eo78) | ((with_reducible refine gate_callee (f := 18) rfl ?_); refine zL (some 19) Try.func18 #[.agg #[.int .i64 t288, .int .i64 t289, .slice Ao78 t290.length co78]] ?_; (with_reducible refine (booklet_Make.calls k t288 t289 _ _ t290 t295 t298 _ ?side1 ?side2 A4.out).mono ?_); (case side1 => refine (Kd.R_reads' (e := 23) (base := w.heap.size) (ok := fun k_ => True) (n := t290.length) (c := co78) ?_).2.2; exact (by (with_reducible repeat (first | apply Kd.R_alloc | apply Kd.R_drewN | apply Kd.R_drew)); exact (Kd.R_mono (Kd.R_far (p := ⟨gb294, 2, none⟩) (Kd.R_far (p := ⟨gb294, 1, none⟩) (Kd.R_far (p := ⟨gb294, 0, none⟩) (Kd.R_types HO292.out BK294.out (by decide)) (fun _ hk => hk.2) (.int .i64 t288)) (fun _ hk => hk.2) (.int .i64 t289)) (fun _ hk => hk.2) (.slice Ao78 t290.length co78)) (fun _ h_ => h_.1)))); (case side2 => exact (Kd.R_reads' HO292.out).2.1); rintro e w79 ⟨v296, rfl, ho0, hb⟩; refine ⟨_, rfl, ?_⟩; have HO297 := za (Kd.S_lower ho0 (below_size (zm HB))); replace HO292 := za (Kd.R_below (by (with_reducible repeat (first | apply Kd.R_alloc | apply Kd.R_drewN | apply Kd.R_drew)); exact (Kd.R_mono (Kd.R_far (p := ⟨gb294, 2, none⟩) (Kd.R_far (p := ⟨gb294, 1, none⟩) (Kd.R_far (p := ⟨gb294, 0, none⟩) (Kd.R_types HO292.out BK294.out (by decide)) (fun _ hk => hk.2) (.int .i64 t288)) (fun _ hk => hk.2) (.int .i64 t289)) (fun _ hk => hk.2) (.slice Ao78 t290.length co78)) (fun _ h_ => h_.1))) hb); replace HI287 := za (IsS61.below (show IsS61 w (((w75.setCell ⟨gb294, 0, none⟩ (.int .i64 t288)).setCell ⟨gb294, 1, none⟩ (.int .i64 t289)).setCell ⟨gb294, 2, none⟩ (.slice Ao78 t290.length co78)) g287 t285 t293 from by repeat (first | (with_reducible first | exact HI287.out | apply IsS61.alloc | apply IsS61.drewN | apply IsS61.drew | apply IsS61.set_1 | refine IsS61.far ?_ NB287_294.out _) | exact HI287.out)) hb); replace BK294 := za (blk_below (g := gb294) (o := .cells #[.int .i64 t288, .int .i64 t289, .slice Ao78 t290.length co78] 33 (0, 0)) (by (with_reducible repeat (first | refine blk_drewN ?_ _ | refine blk_drew ?_ | refine blk_alloc ?_ _)); refine blk_put (cs := #[.int .i64 t288, .int .i64 t289, .slice none 0 0]) ?_ 2 _ rfl; (with_reducible repeat (first | refine blk_drewN ?_ _ | refine blk_drew ?_ | refine blk_alloc ?_ _)); refine blk_put (cs := #[.int .i64 t288, .int .i64 0, .slice none 0 0]) ?_ 1 _ rfl; (with_reducible repeat (first | refine blk_drewN ?_ _ | refine blk_drew ?_ | refine blk_alloc ?_ _)); refine blk_put (cs := #[.int .i64 0, .int .i64 0, .slice none 0 0]) ?_ 0 _ rfl; (with_reducible repeat (first | refine blk_drewN ?_ _ | refine blk_drew ?_ | refine blk_alloc ?_ _)); exact BK294.out) hb); replace HB := zs HB hb; (try clear hb); (try clear hb2); (try clear hk); (try clear hi); (try clear ho0)) | ((with_reducible refine gate_dst (N := 4) rfl ?_); (try (refine gate_guard (by rfl) ?_; dsimp only)); refine zE 4 #[.slice none 0 0] 38 ?_; intro gb299 hg w80 hbox hb; have BK299 := za (hbox); have GW299 := zg HB hg; have GE299 := zg HB hg; have NB294_299 := zl BK294 hg; have NB299_294 := zr BK294 hg; have NB287_299 := za ((by rw [hg]; exact Nat.ne_of_lt (IsS61.lt (show IsS61 w _ g287 t285 t293 from by repeat (first | (with_reducible first | exact HI287.out | apply IsS61.alloc | apply IsS61.drewN | apply IsS61.drew | apply IsS61.set_1 | refine IsS61.far ?_ NB287_294.out _) | exact HI287.out))) : g287 ≠ gb299)); have NB299_287 := za ((by rw [hg]; exact Nat.ne_of_gt (IsS61.lt (show IsS61 w _ g287 t285 t293 from by repeat (first | (with_reducible first | exact HI287.out | apply IsS61.alloc | apply IsS61.drewN | apply IsS61.drew | apply IsS61.set_1 | refine IsS61.far ?_ NB287_294.out _) | exact HI287.out))) : gb299 ≠ g287)); replace HO292 := zR HO292 hb; replace HO297 := zS HO297 hb; replace HI287 := za (IsS61.below (by repeat (first | (with_reducible first | exact HI287.out | apply IsS61.alloc | apply IsS61.drewN | apply IsS61.drew | apply IsS61.set_1 | refine IsS61.far ?_ NB287_294.out _) | exact HI287.out)) hb); replace BK294 := zb BK294 hb; replace HB := zs HB hb; clear hb hbox hg; obtain ⟨Ao81, co81, eo81⟩ := Kd.S_slice HO297.out; subst eo81; have hnb82 := NB299_294.out; have hnc82 := NB294_299.out; have hnb83 := NB299_287.out; have hnc83 := NB287_299.out; obtain ⟨hcz84_0, hfz84_0⟩ := z1 BK299) | (go_at_call 14; (with_reducible refine (awardingbodylaw12_awake.calls k  t300 _ A72.out).mono ?_); rintro e w85 ⟨rfl, hb⟩; replace HO292 := za (Kd.R_below (by (with_reducible repeat (first | apply Kd.R_alloc | apply Kd.R_drewN | apply Kd.R_drew)); exact (Kd.R_mono (Kd.R_far (p := ⟨gb299, 0, none⟩) (Kd.R_types HO292.out BK299.out (by decide)) (fun _ hk => hk.2) (.slice Ao81 t295.length co81)) (fun _ h_ => h_.1))) hb); replace HO297 := za (Kd.S_below (by (with_reducible repeat (first | apply Kd.S_alloc | apply Kd.S_drewN | apply Kd.S_drew)); exact (Kd.S_mono (Kd.S_far (p := ⟨gb299, 0, none⟩) (Kd.S_types HO297.out BK299.out (by decide)) (fun _ hk => hk.2) (.slice Ao81 t295.length co81)) (fun _ h_ => h_.1))) hb); replace HI287 := za (IsS61.below (show IsS61 w (w80.setCell ⟨gb299, 0, none⟩ (.slice Ao81 t295.length co81)) g287 t285 t293 from by repeat (first | (with_reducible first | exact HI287.out | apply IsS61.alloc | apply IsS61.drewN | apply IsS61.drew | apply IsS61.set_1 | refine IsS61.far ?_ NB287_294.out _ | refine IsS61.far ?_ NB287_299.out _) | exact HI287.out)) hb); replace BK294 := zb BK294 hb; replace BK299 := za (blk_below (g := gb299) (o := .cells #[.slice Ao81 t295.length co81] 38 (0, 0)) (by (with_reducible repeat (first | refine blk_drewN ?_ _ | refine blk_drew ?_ | refine blk_alloc ?_ _)); refine blk_put (cs := #[.slice none 0 0]) ?_ 0 _ rfl; (with_reducible repeat (first | refine blk_drewN ?_ _ | refine blk_drew ?_ | refine blk_alloc ?_ _)); exact BK299.out) hb); replace HB := zs HB hb; (try clear hb); (try clear hb2); (try clear hk); (try clear hi)))
   go_ret
   exact ⟨zf, zm HB⟩
  ·rw [if_neg c71] at H
   exact absurd H (by simp)

/-- THE ONE PURE STATEMENT of awardingbodylaw12_BookletOnce: yours. -/
def awardingbodylaw12_BookletOnce.Pure : Prop := ∀ (l0 : List Int), l0.length ≤ maxLen → l0.length * 8 ≤ 140737488351232 → (∀ x ∈ l0, (Lit.int .i64 x).wf = true) → ∃ k, awardingbodylaw12_BookletOnce.f k l0 = some true
theorem awardingbodylaw12_BookletOnce.walk (P : awardingbodylaw12_BookletOnce.Pure) (a0 : Option Addr) (len0 cap0 : Nat) (z0 : List Int) (w : World) (w0 : (a0 = none ∧ len0 = 0 ∧ cap0 = 0 ∧ z0 = []) ∨ ∃ x, a0 = some x ∧ len0 ≤ cap0 ∧ cap0 ≤ maxLen ∧ z0.length = cap0 ∧ (∀ i, i < z0.length → w.cell? (x.add i) = some (.int .i64 (z0.getD i 0))) ∧ ∀ n ∈ z0, (Lit.int .i64 n).wf = true) (y0 : len0 * 8 ≤ 140737488351232) :
  Calls Try.prog 10 #[.slice a0 len0 cap0] w fun e w' => e = .returned (.bool true) ∧ Below w.heap.size w w' := by
 obtain ⟨l0, rfl, hr0, hm0, hw0, hc0⟩ := ReadsInt.ofRowC w0
 obtain ⟨k, h⟩ := P l0 hm0 y0 hw0
 refine (awardingbodylaw12_BookletOnce.calls k _ _ l0 true w (Kd.C_of_reads (d := (0 : Int)) (h1 := fun _ => rfl) hr0) hc0 h).mono ?_
 rintro e w' ⟨rfl, hd⟩
 exact ⟨rfl, hd⟩

end Go.Proofs.Ytdmlbgdefapcjaa.Print
