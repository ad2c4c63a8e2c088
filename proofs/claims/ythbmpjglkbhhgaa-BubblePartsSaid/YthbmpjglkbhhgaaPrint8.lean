-- Printed by a program of this session (wip/own_print.py) out of the translation; Lean checks it.
import Derived.Test.YthbmpjglkbhhgaaShort
import Derived.Test.YthbmpjglkbhhgaaPrint0
import Derived.Test.YthbmpjglkbhhgaaPrint1
import Derived.Test.YthbmpjglkbhhgaaPrint2
import Derived.Test.YthbmpjglkbhhgaaPrint3
import Derived.Test.YthbmpjglkbhhgaaPrint4
import Derived.Test.YthbmpjglkbhhgaaPrint5
import Derived.Test.YthbmpjglkbhhgaaPrint7
namespace Go.Proofs.Ythbmpjglkbhhgaa.Print
open Go.RowKit Go.Proofs.YthbmpjglkbhhgaaW.PrintWords Go.Proofs.YthbmpjglkbhhgaaW.PrintLast Go.Proofs.YthbmpjglkbhhgaaW.PrintMore
attribute [local go_sem] max2_int min2_int max_two min_two max_three min_three max_four min_four   -- for this text's walks alone
set_option linter.unusedVariables false
set_option linter.unusedSimpArgs false

/-! ### awardingbodylaw20_BubbleParts: function 10 -/
mutual
def awardingbodylaw20_BubbleParts.l0 : Nat → Int → Int → List (S46) → List Int → Int → List Int → Int → Int → Int → List (S65) → List (List Int) → Int → Int → Int → Option (Bool)
  | 0, _, _, _, _, _, _, _, _, _, _, _, _, _, _ => none
  | k + 1, x6, x8, x9, x10, x11, x344000, x344001, x351000, x351001, x351002, x356000, x361000, x361001, x361002 => if x11 < (x9.length : Int) then ((awardingbodymake_Tape_Next.f x344000 x344001 10).bind fun bt366 => (if x10.length < 17592186044416 then (awardingbodylaw20_BubbleParts.l0 k x6 x8 x9 (x10 ++ [bt366.1]) (wrap64 (x11 + 1)) x344000 bt366.2 x351000 x351001 x351002 x356000 x361000 x361001 x361002) else (none))) else ((bubble_Page.f k x351000 x351001 x351002 x356000 x361000 x361001 x361002 x8 x10).bind fun bt371 => ((bubble_Split.f k x9 x10).bind fun bt375 => (if x6 = 0 then (if bt371.2 = 0 then (if bt375.2 = 0 then (awardingbodylaw20_BubbleParts.j1 k x8 bt371.1 bt375.1 ((bt371.1.length : Int) != (x351002.length : Int)) x351000 x351001 x351002 x356000 x361000 x361001 x361002) else (awardingbodylaw20_BubbleParts.j1 k x8 bt371.1 bt375.1 true x351000 x351001 x351002 x356000 x361000 x361001 x361002)) else (awardingbodylaw20_BubbleParts.j1 k x8 bt371.1 bt375.1 true x351000 x351001 x351002 x356000 x361000 x361001 x361002)) else (awardingbodylaw20_BubbleParts.j1 k x8 bt371.1 bt375.1 true x351000 x351001 x351002 x356000 x361000 x361001 x361002))))
def awardingbodylaw20_BubbleParts.j1 : Nat → Int → List Int → List (List Int) → Bool → Int → Int → List (S65) → List (List Int) → Int → Int → Int → Option (Bool)
  | 0, _, _, _, _, _, _, _, _, _, _, _ => none
  | k + 1, x8, x12, x14, x79, x351000, x351001, x351002, x356000, x361000, x361001, x361002 => if x79 = true then (none) else (awardingbodylaw20_BubbleParts.l1 k x8 x12 x14 0 0 x351000 x351001 x351002 x356000 x361000 x361001 x361002)
def awardingbodylaw20_BubbleParts.l1 : Nat → Int → List Int → List (List Int) → Int → Int → Int → Int → List (S65) → List (List Int) → Int → Int → Int → Option (Bool)
  | 0, _, _, _, _, _, _, _, _, _, _, _, _ => none
  | k + 1, x8, x12, x14, x16, x17, x351000, x351001, x351002, x356000, x361000, x361001, x361002 => if x17 < (x351002.length : Int) then (if 0 ≤ x17 then (if ((rd_T65 x351002 x17).f0) = 2 then ((booklet_PageOf.f k x356000 x17).bind fun t381 => (awardingbodylaw20_BubbleParts.j3 k x8 x12 x14 x16 x17 (-1) (t381 == x8) x351000 x351001 x351002 x356000 x361000 x361001 x361002)) else (awardingbodylaw20_BubbleParts.j3 k x8 x12 x14 x16 x17 (-1) false x351000 x351001 x351002 x356000 x361000 x361001 x361002)) else (none)) else (if x16 = (x14.length : Int) then ((awardingbodylaw20_awake.f k).bind fun t379 => (some t379)) else (none))
def awardingbodylaw20_BubbleParts.j3 : Nat → Int → List Int → List (List Int) → Int → Int → Int → Bool → Int → Int → List (S65) → List (List Int) → Int → Int → Int → Option (Bool)
  | 0, _, _, _, _, _, _, _, _, _, _, _, _, _, _ => none
  | k + 1, x8, x12, x14, x16, x17, x18, x100, x351000, x351001, x351002, x356000, x361000, x361001, x361002 => if x100 = true then (if x16 ≥ (x14.length : Int) then (none) else (if 0 ≤ x16 then (if x16 < (x14.length : Int) then ((bubble_Judge.f k x361000 x361001 x361002 (rd_L2 x14 x16)).bind fun bt383 => (if 0 ≤ x17 then (if x17 < (x12.length : Int) then (if (rd x12 x17) = bt383.1 then (awardingbodylaw20_BubbleParts.l1 k x8 x12 x14 (wrap64 (x16 + 1)) (wrap64 (x17 + 1)) x351000 x351001 x351002 x356000 x361000 x361001 x361002) else (none)) else (none)) else (none))) else (none)) else (none))) else (if 0 ≤ x17 then (if x17 < (x12.length : Int) then (if (rd x12 x17) = x18 then (awardingbodylaw20_BubbleParts.l1 k x8 x12 x14 x16 (wrap64 (x17 + 1)) x351000 x351001 x351002 x356000 x361000 x361001 x361002) else (none)) else (none)) else (none))
end
def awardingbodylaw20_BubbleParts.f (k : Nat) (l0 : List Int) : Option (Bool) := (awardingbodymake_New.f l0).bind fun bt341 => ((awardingbodymake_Tape_Paper.f k bt341.1 bt341.2 0 0).bind fun bt344 => ((booklet_Make.f k bt344.1 bt344.2.1 bt344.2.2.1).bind fun bt351 => ((awardingbodymake_Tape_Threshold.f bt341.1 bt344.2.2.2 0).bind fun bt356 => ((awardingbodymake_Tape_Next.f bt341.1 bt356.2.2.2 4).bind fun bt361 => ((booklet_Fields.f k bt344.1 bt344.2.1 bt344.2.2.1 bt351.1 bt361.1).bind fun t363 => (awardingbodylaw20_BubbleParts.l0 k bt351.2 bt361.1 t363 ([] : List Int) 0 bt341.1 bt361.2 bt344.1 bt344.2.1 bt344.2.2.1 bt351.1 bt356.1 bt356.2.1 bt356.2.2.1))))))
theorem awardingbodylaw20_BubbleParts.mono_l : ∀ k, (∀ y0 y1 y2 y3 y4 y5 y6 y7 y8 y9 y10 y11 y12 y13, LeO (awardingbodylaw20_BubbleParts.l0 k y0 y1 y2 y3 y4 y5 y6 y7 y8 y9 y10 y11 y12 y13) (awardingbodylaw20_BubbleParts.l0 (k + 1) y0 y1 y2 y3 y4 y5 y6 y7 y8 y9 y10 y11 y12 y13)) ∧ (∀ y0 y1 y2 y3 y4 y5 y6 y7 y8 y9 y10, LeO (awardingbodylaw20_BubbleParts.j1 k y0 y1 y2 y3 y4 y5 y6 y7 y8 y9 y10) (awardingbodylaw20_BubbleParts.j1 (k + 1) y0 y1 y2 y3 y4 y5 y6 y7 y8 y9 y10)) ∧ (∀ y0 y1 y2 y3 y4 y5 y6 y7 y8 y9 y10 y11, LeO (awardingbodylaw20_BubbleParts.l1 k y0 y1 y2 y3 y4 y5 y6 y7 y8 y9 y10 y11) (awardingbodylaw20_BubbleParts.l1 (k + 1) y0 y1 y2 y3 y4 y5 y6 y7 y8 y9 y10 y11)) ∧ (∀ y0 y1 y2 y3 y4 y5 y6 y7 y8 y9 y10 y11 y12 y13, LeO (awardingbodylaw20_BubbleParts.j3 k y0 y1 y2 y3 y4 y5 y6 y7 y8 y9 y10 y11 y12 y13) (awardingbodylaw20_BubbleParts.j3 (k + 1) y0 y1 y2 y3 y4 y5 y6 y7 y8 y9 y10 y11 y12 y13))
  | 0 => ⟨fun _ _ _ _ _ _ _ _ _ _ _ _ _ _ r h => by simp [awardingbodylaw20_BubbleParts.l0] at h, fun _ _ _ _ _ _ _ _ _ _ _ r h => by simp [awardingbodylaw20_BubbleParts.j1] at h, fun _ _ _ _ _ _ _ _ _ _ _ _ r h => by simp [awardingbodylaw20_BubbleParts.l1] at h, fun _ _ _ _ _ _ _ _ _ _ _ _ _ _ r h => by simp [awardingbodylaw20_BubbleParts.j3] at h⟩
  | k + 1 => by
    obtain ⟨ih0, ih1, ih2, ih3⟩ := awardingbodylaw20_BubbleParts.mono_l k
    refine ⟨?_, ?_, ?_, ?_⟩
    · intro y0 y1 y2 y3 y4 y5 y6 y7 y8 y9 y10 y11 y12 y13
      unfold awardingbodylaw20_BubbleParts.l0
      repeat' first
      | (with_reducible exact ih0 _ _ _ _ _ _ _ _ _ _ _ _ _ _)
      | (with_reducible exact ih1 _ _ _ _ _ _ _ _ _ _ _)
      | (with_reducible exact ih2 _ _ _ _ _ _ _ _ _ _ _ _)
      | (with_reducible exact ih3 _ _ _ _ _ _ _ _ _ _ _ _ _ _)
      | (with_reducible exact awardingbodylaw20_awake.mono _)
      | (with_reducible exact awardingbodymake_Tape_Paper.mono _ _ _ _ _)
      | (with_reducible exact booklet_Fields.mono _ _ _ _ _ _)
      | (with_reducible exact booklet_Make.mono _ _ _ _)
      | (with_reducible exact booklet_PageOf.mono _ _ _)
      | (with_reducible exact bubble_Judge.mono _ _ _ _ _)
      | (with_reducible exact bubble_Page.mono _ _ _ _ _ _ _ _ _ _)
      | (with_reducible exact bubble_Split.mono _ _ _)
      | (with_reducible exact LeO.refl _)
      | (with_reducible exact LeO.none _)
      | (with_reducible refine LeO.ite ?_ ?_)
      | (with_reducible refine LeO.bind ?_ (fun _ => ?_))
      | exact ih0 _ _ _ _ _ _ _ _ _ _ _ _ _ _
      | exact ih1 _ _ _ _ _ _ _ _ _ _ _
      | exact ih2 _ _ _ _ _ _ _ _ _ _ _ _
      | exact ih3 _ _ _ _ _ _ _ _ _ _ _ _ _ _
      | exact awardingbodylaw20_awake.mono _
      | exact awardingbodymake_Tape_Paper.mono _ _ _ _ _
      | exact booklet_Fields.mono _ _ _ _ _ _
      | exact booklet_Make.mono _ _ _ _
      | exact booklet_PageOf.mono _ _ _
      | exact bubble_Judge.mono _ _ _ _ _
      | exact bubble_Page.mono _ _ _ _ _ _ _ _ _ _
      | exact bubble_Split.mono _ _ _
      | exact LeO.none _
      | refine LeO.ite ?_ ?_
      | refine LeO.bind ?_ (fun _ => ?_)
    · intro y0 y1 y2 y3 y4 y5 y6 y7 y8 y9 y10
      unfold awardingbodylaw20_BubbleParts.j1
      repeat' first
      | (with_reducible exact ih0 _ _ _ _ _ _ _ _ _ _ _ _ _ _)
      | (with_reducible exact ih1 _ _ _ _ _ _ _ _ _ _ _)
      | (with_reducible exact ih2 _ _ _ _ _ _ _ _ _ _ _ _)
      | (with_reducible exact ih3 _ _ _ _ _ _ _ _ _ _ _ _ _ _)
      | (with_reducible exact awardingbodylaw20_awake.mono _)
      | (with_reducible exact awardingbodymake_Tape_Paper.mono _ _ _ _ _)
      | (with_reducible exact booklet_Fields.mono _ _ _ _ _ _)
      | (with_reducible exact booklet_Make.mono _ _ _ _)
      | (with_reducible exact booklet_PageOf.mono _ _ _)
      | (with_reducible exact bubble_Judge.mono _ _ _ _ _)
      | (with_reducible exact bubble_Page.mono _ _ _ _ _ _ _ _ _ _)
      | (with_reducible exact bubble_Split.mono _ _ _)
      | (with_reducible exact LeO.refl _)
      | (with_reducible exact LeO.none _)
      | (with_reducible refine LeO.ite ?_ ?_)
      | (with_reducible refine LeO.bind ?_ (fun _ => ?_))
      | exact ih0 _ _ _ _ _ _ _ _ _ _ _ _ _ _
      | exact ih1 _ _ _ _ _ _ _ _ _ _ _
      | exact ih2 _ _ _ _ _ _ _ _ _ _ _ _
      | exact ih3 _ _ _ _ _ _ _ _ _ _ _ _ _ _
      | exact awardingbodylaw20_awake.mono _
      | exact awardingbodymake_Tape_Paper.mono _ _ _ _ _
      | exact booklet_Fields.mono _ _ _ _ _ _
      | exact booklet_Make.mono _ _ _ _
      | exact booklet_PageOf.mono _ _ _
      | exact bubble_Judge.mono _ _ _ _ _
      | exact bubble_Page.mono _ _ _ _ _ _ _ _ _ _
      | exact bubble_Split.mono _ _ _
      | exact LeO.none _
      | refine LeO.ite ?_ ?_
      | refine LeO.bind ?_ (fun _ => ?_)
    · intro y0 y1 y2 y3 y4 y5 y6 y7 y8 y9 y10 y11
      unfold awardingbodylaw20_BubbleParts.l1
      repeat' first
      | (with_reducible exact ih0 _ _ _ _ _ _ _ _ _ _ _ _ _ _)
      | (with_reducible exact ih1 _ _ _ _ _ _ _ _ _ _ _)
      | (with_reducible exact ih2 _ _ _ _ _ _ _ _ _ _ _ _)
      | (with_reducible exact ih3 _ _ _ _ _ _ _ _ _ _ _ _ _ _)
      | (with_reducible exact awardingbodylaw20_awake.mono _)
      | (with_reducible exact awardingbodymake_Tape_Paper.mono _ _ _ _ _)
      | (with_reducible exact booklet_Fields.mono _ _ _ _ _ _)
      | (with_reducible exact booklet_Make.mono _ _ _ _)
      | (with_reducible exact booklet_PageOf.mono _ _ _)
      | (with_reducible exact bubble_Judge.mono _ _ _ _ _)
      | (with_reducible exact bubble_Page.mono _ _ _ _ _ _ _ _ _ _)
      | (with_reducible exact bubble_Split.mono _ _ _)
      | (with_reducible exact LeO.refl _)
      | (with_reducible exact LeO.none _)
      | (with_reducible refine LeO.ite ?_ ?_)
      | (with_reducible refine LeO.bind ?_ (fun _ => ?_))
      | exact ih0 _ _ _ _ _ _ _ _ _ _ _ _ _ _
      | exact ih1 _ _ _ _ _ _ _ _ _ _ _
      | exact ih2 _ _ _ _ _ _ _ _ _ _ _ _
      | exact ih3 _ _ _ _ _ _ _ _ _ _ _ _ _ _
      | exact awardingbodylaw20_awake.mono _
      | exact awardingbodymake_Tape_Paper.mono _ _ _ _ _
      | exact booklet_Fields.mono _ _ _ _ _ _
      | exact booklet_Make.mono _ _ _ _
      | exact booklet_PageOf.mono _ _ _
      | exact bubble_Judge.mono _ _ _ _ _
      | exact bubble_Page.mono _ _ _ _ _ _ _ _ _ _
      | exact bubble_Split.mono _ _ _
      | exact LeO.none _
      | refine LeO.ite ?_ ?_
      | refine LeO.bind ?_ (fun _ => ?_)
    · intro y0 y1 y2 y3 y4 y5 y6 y7 y8 y9 y10 y11 y12 y13
      unfold awardingbodylaw20_BubbleParts.j3
      repeat' first
      | (with_reducible exact ih0 _ _ _ _ _ _ _ _ _ _ _ _ _ _)
      | (with_reducible exact ih1 _ _ _ _ _ _ _ _ _ _ _)
      | (with_reducible exact ih2 _ _ _ _ _ _ _ _ _ _ _ _)
      | (with_reducible exact ih3 _ _ _ _ _ _ _ _ _ _ _ _ _ _)
      | (with_reducible exact awardingbodylaw20_awake.mono _)
      | (with_reducible exact awardingbodymake_Tape_Paper.mono _ _ _ _ _)
      | (with_reducible exact booklet_Fields.mono _ _ _ _ _ _)
      | (with_reducible exact booklet_Make.mono _ _ _ _)
      | (with_reducible exact booklet_PageOf.mono _ _ _)
      | (with_reducible exact bubble_Judge.mono _ _ _ _ _)
      | (with_reducible exact bubble_Page.mono _ _ _ _ _ _ _ _ _ _)
      | (with_reducible exact bubble_Split.mono _ _ _)
      | (with_reducible exact LeO.refl _)
      | (with_reducible exact LeO.none _)
      | (with_reducible refine LeO.ite ?_ ?_)
      | (with_reducible refine LeO.bind ?_ (fun _ => ?_))
      | exact ih0 _ _ _ _ _ _ _ _ _ _ _ _ _ _
      | exact ih1 _ _ _ _ _ _ _ _ _ _ _
      | exact ih2 _ _ _ _ _ _ _ _ _ _ _ _
      | exact ih3 _ _ _ _ _ _ _ _ _ _ _ _ _ _
      | exact awardingbodylaw20_awake.mono _
      | exact awardingbodymake_Tape_Paper.mono _ _ _ _ _
      | exact booklet_Fields.mono _ _ _ _ _ _
      | exact booklet_Make.mono _ _ _ _
      | exact booklet_PageOf.mono _ _ _
      | exact bubble_Judge.mono _ _ _ _ _
      | exact bubble_Page.mono _ _ _ _ _ _ _ _ _ _
      | exact bubble_Split.mono _ _ _
      | exact LeO.none _
      | refine LeO.ite ?_ ?_
      | refine LeO.bind ?_ (fun _ => ?_)
theorem awardingbodylaw20_BubbleParts.mono : ∀ a0 k, LeO (awardingbodylaw20_BubbleParts.f k a0) (awardingbodylaw20_BubbleParts.f (k + 1) a0) := by
  intro a0 k
  obtain ⟨ih0, ih1, ih2, ih3⟩ := awardingbodylaw20_BubbleParts.mono_l k
  unfold awardingbodylaw20_BubbleParts.f
  repeat' first
      | (with_reducible exact ih0 _ _ _ _ _ _ _ _ _ _ _ _ _ _)
      | (with_reducible exact ih1 _ _ _ _ _ _ _ _ _ _ _)
      | (with_reducible exact ih2 _ _ _ _ _ _ _ _ _ _ _ _)
      | (with_reducible exact ih3 _ _ _ _ _ _ _ _ _ _ _ _ _ _)
      | (with_reducible exact awardingbodylaw20_awake.mono _)
      | (with_reducible exact awardingbodymake_Tape_Paper.mono _ _ _ _ _)
      | (with_reducible exact booklet_Fields.mono _ _ _ _ _ _)
      | (with_reducible exact booklet_Make.mono _ _ _ _)
      | (with_reducible exact booklet_PageOf.mono _ _ _)
      | (with_reducible exact bubble_Judge.mono _ _ _ _ _)
      | (with_reducible exact bubble_Page.mono _ _ _ _ _ _ _ _ _ _)
      | (with_reducible exact bubble_Split.mono _ _ _)
      | (with_reducible exact LeO.refl _)
      | (with_reducible exact LeO.none _)
      | (with_reducible refine LeO.ite ?_ ?_)
      | (with_reducible refine LeO.bind ?_ (fun _ => ?_))
      | exact ih0 _ _ _ _ _ _ _ _ _ _ _ _ _ _
      | exact ih1 _ _ _ _ _ _ _ _ _ _ _
      | exact ih2 _ _ _ _ _ _ _ _ _ _ _ _
      | exact ih3 _ _ _ _ _ _ _ _ _ _ _ _ _ _
      | exact awardingbodylaw20_awake.mono _
      | exact awardingbodymake_Tape_Paper.mono _ _ _ _ _
      | exact booklet_Fields.mono _ _ _ _ _ _
      | exact booklet_Make.mono _ _ _ _
      | exact booklet_PageOf.mono _ _ _
      | exact bubble_Judge.mono _ _ _ _ _
      | exact bubble_Page.mono _ _ _ _ _ _ _ _ _ _
      | exact bubble_Split.mono _ _ _
      | exact LeO.none _
      | refine LeO.ite ?_ ?_
      | refine LeO.bind ?_ (fun _ => ?_)
def awardingbodylaw20_BubbleParts.T24 : Bool × List (List Nat × List Nat) := (true, [([], []), ([], []), ([], []), ([1, 2], [1, 2]), ([3], [3]), ([0, 4], [0, 4]), ([5], [5]), ([6], [6]), ([6], [6]), ([7, 5, 0, 1, 2, 3, 4, 5, 6, 7], [7])])
def awardingbodylaw20_BubbleParts.B24 : List Nat := [0, 0, 0, 6, 14, 31, 63, 127, 127, 255]
theorem awardingbodylaw20_BubbleParts.tab24 : rtab .any (opsOf Try.f10 24) = awardingbodylaw20_BubbleParts.T24 := by kernel_rfl
theorem awardingbodylaw20_BubbleParts.bits24 : waitsOk awardingbodylaw20_BubbleParts.T24.2 awardingbodylaw20_BubbleParts.B24 = true := by kernel_rfl
set_option maxHeartbeats 8000000 in
set_option maxRecDepth 100000 in
theorem awardingbodylaw20_BubbleParts.calls (k : Nat) (A0 : Option Addr) (c0 : Nat) (l0 : List Int) (r : Bool) (w : World) (hr0 : Kd.C (Kd.int .i64) w A0 l0.length l0) (hc0 : l0.length ≤ c0) (h : awardingbodylaw20_BubbleParts.f k l0 = some r) :
    Calls Try.prog 10 #[.slice A0 l0.length c0] w fun e w' => e = .returned (.bool r) ∧ Below w.heap.size w w' := by
 have hu53 := Try.underlying53
 have hu56 := Try.underlying56
 have hu23 := Try.underlying23
 have HR0 := za hr0
 have HC0 := za hc0
 clear hr0 hc0
 have HB := za (Below.refl w.heap.size w)
 have H : ((awardingbodymake_New.f l0).bind fun bt341 => ((awardingbodymake_Tape_Paper.f k bt341.1 bt341.2 0 0).bind fun bt344 => ((booklet_Make.f k bt344.1 bt344.2.1 bt344.2.2.1).bind fun bt351 => ((awardingbodymake_Tape_Threshold.f bt341.1 bt344.2.2.2 0).bind fun bt356 => ((awardingbodymake_Tape_Next.f bt341.1 bt356.2.2.2 4).bind fun bt361 => ((booklet_Fields.f k bt344.1 bt344.2.1 bt344.2.2.1 bt351.1 bt361.1).bind fun t363 => (awardingbodylaw20_BubbleParts.l0 k bt351.2 bt361.1 t363 ([] : List Int) 0 bt341.1 bt361.2 bt344.1 bt344.2.1 bt344.2.2.1 bt351.1 bt356.1 bt356.2.1 bt356.2.2.1))))))) = some r := h
 clear h
 replace H := Option.bind_eq_some_iff.mp H
 obtain ⟨⟨t341, t342⟩, A20, H⟩ := H
 replace H : ((awardingbodymake_Tape_Paper.f k t341 t342 0 0).bind fun bt344 => ((booklet_Make.f k bt344.1 bt344.2.1 bt344.2.2.1).bind fun bt351 => ((awardingbodymake_Tape_Threshold.f t341 bt344.2.2.2 0).bind fun bt356 => ((awardingbodymake_Tape_Next.f t341 bt356.2.2.2 4).bind fun bt361 => ((booklet_Fields.f k bt344.1 bt344.2.1 bt344.2.2.1 bt351.1 bt361.1).bind fun t363 => (awardingbodylaw20_BubbleParts.l0 k bt351.2 bt361.1 t363 ([] : List Int) 0 t341 bt361.2 bt344.1 bt344.2.1 bt344.2.2.1 bt351.1 bt356.1 bt356.2.1 bt356.2.2.1)))))) = some r := H
 have A2 := za A20
 clear A20
 replace H := Option.bind_eq_some_iff.mp H
 obtain ⟨⟨t344, t345, t346, t349⟩, A30, H⟩ := H
 replace H : ((booklet_Make.f k t344 t345 t346).bind fun bt351 => ((awardingbodymake_Tape_Threshold.f t341 t349 0).bind fun bt356 => ((awardingbodymake_Tape_Next.f t341 bt356.2.2.2 4).bind fun bt361 => ((booklet_Fields.f k t344 t345 t346 bt351.1 bt361.1).bind fun t363 => (awardingbodylaw20_BubbleParts.l0 k bt351.2 bt361.1 t363 ([] : List Int) 0 t341 bt361.2 t344 t345 t346 bt351.1 bt356.1 bt356.2.1 bt356.2.2.1))))) = some r := H
 have A3 := za A30
 clear A30
 replace H := Option.bind_eq_some_iff.mp H
 obtain ⟨⟨t351, t354⟩, A40, H⟩ := H
 replace H : ((awardingbodymake_Tape_Threshold.f t341 t349 0).bind fun bt356 => ((awardingbodymake_Tape_Next.f t341 bt356.2.2.2 4).bind fun bt361 => ((booklet_Fields.f k t344 t345 t346 t351 bt361.1).bind fun t363 => (awardingbodylaw20_BubbleParts.l0 k t354 bt361.1 t363 ([] : List Int) 0 t341 bt361.2 t344 t345 t346 t351 bt356.1 bt356.2.1 bt356.2.2.1)))) = some r := H
 have A4 := za A40
 clear A40
 replace H := Option.bind_eq_some_iff.mp H
 obtain ⟨⟨t356, t357, t358, t359⟩, A50, H⟩ := H
 replace H : ((awardingbodymake_Tape_Next.f t341 t359 4).bind fun bt361 => ((booklet_Fields.f k t344 t345 t346 t351 bt361.1).bind fun t363 => (awardingbodylaw20_BubbleParts.l0 k t354 bt361.1 t363 ([] : List Int) 0 t341 bt361.2 t344 t345 t346 t351 t356 t357 t358))) = some r := H
 have A5 := za A50
 clear A50
 replace H := Option.bind_eq_some_iff.mp H
 obtain ⟨⟨t361, t362⟩, A60, H⟩ := H
 replace H : ((booklet_Fields.f k t344 t345 t346 t351 t361).bind fun t363 => (awardingbodylaw20_BubbleParts.l0 k t354 t361 t363 ([] : List Int) 0 t341 t362 t344 t345 t346 t351 t356 t357 t358)) = some r := H
 have A6 := za A60
 clear A60
 replace H := Option.bind_eq_some_iff.mp H
 obtain ⟨t363, A70, H⟩ := H
 replace H : (awardingbodylaw20_BubbleParts.l0 k t354 t361 t363 ([] : List Int) 0 t341 t362 t344 t345 t346 t351 t356 t357 t358) = some r := H
 have A7 := za A70
 clear A70
 have H' := za H
 clear H
 go_enter Try.func10, Try.ntmps10
 go_wp2_with (first | ((with_reducible refine gate_callee (f := 15) rfl ?_); refine zL (some 20) Try.func15 #[.slice A0 l0.length c0] ?_; (with_reducible refine (awardingbodymake_New.calls _ _ l0 t341 t342 w _ ?side1 ?side2 ?side3 A2.out).mono ?_); (case side1 => repeat (first | (with_reducible first | exact HB.out | apply below_alloc | apply pw_below_drewN | apply below_drew1) | exact HB.out)); (case side2 => exact HR0.out); (case side3 => exact HC0.out); rintro e w8 ⟨g343, rfl, hi, hb, hb2⟩; refine ⟨_, rfl, ?_⟩; have HI343 := za (hi); replace HB := za (hb); (try clear hb); (try clear hb2); (try clear hk); (try clear hi)) | ((with_reducible refine gate_callee (f := 34) rfl ?_); refine zL (some 22) Try.func34 #[.pointer (some ⟨g343, 0, none⟩), .int .i64 0, .int .i64 0] ?_; (with_reducible refine (awardingbodymake_Tape_Paper.calls k g343 t341 t342 0 0 t344 t345 t346 t349 w _ ?side1 ?side2 A3.out).mono ?_); (case side1 => repeat (first | (with_reducible first | exact HI343.out | apply IsS68.alloc | apply IsS68.drewN | apply IsS68.drew | apply IsS68.set_1) | exact HI343.out)); (case side2 => repeat (first | (with_reducible first | exact HB.out | apply below_alloc | apply pw_below_drewN | apply below_drew1 | refine below_set ?_ (IsS68.ge HI343.out)) | exact HB.out)); rintro e w9 ⟨v347, rfl, ho0, hi, hb, hk⟩; refine ⟨_, rfl, ?_⟩; have HO348 := za (Kd.R_lower ho0 (below_size (zm HB))); replace HB := za (hb); replace HI343 := za (hi); (try clear hb); (try clear hb2); (try clear hk); (try clear hi); (try clear ho0)) | ((with_reducible refine gate_dst (N := 4) rfl ?_); (try (refine gate_guard (by rfl) ?_; dsimp only)); refine zE 4 #[.int .i64 0, .int .i64 0, .slice none 0 0] 53 ?_; intro gb350 hg w10 hbox hb; have BK350 := za (hbox); have GW350 := zg HB hg; have GE350 := zg HB hg; have NB343_350 := za ((by rw [hg]; exact Nat.ne_of_lt (IsS68.lt (show IsS68 w _ g343 t341 t349 from by repeat (first | (with_reducible first | exact HI343.out | apply IsS68.alloc | apply IsS68.drewN | apply IsS68.drew | apply IsS68.set_1) | exact HI343.out))) : g343 ≠ gb350)); have NB350_343 := za ((by rw [hg]; exact Nat.ne_of_gt (IsS68.lt (show IsS68 w _ g343 t341 t349 from by repeat (first | (with_reducible first | exact HI343.out | apply IsS68.alloc | apply IsS68.drewN | apply IsS68.drew | apply IsS68.set_1) | exact HI343.out))) : gb350 ≠ g343)); replace HO348 := zR HO348 hb; replace HI343 := za (IsS68.below (by repeat (first | (with_reducible first | exact HI343.out | apply IsS68.alloc | apply IsS68.drewN | apply IsS68.drew | apply IsS68.set_1) | exact HI343.out)) hb); replace HB := zs HB hb; clear hb hbox hg; have hnb11 := NB350_343.out; have hnc11 := NB343_350.out; obtain ⟨hcz12_0, hcz12_1, hcz12_2, hfz12_0, hfz12_1, hfz12_2⟩ := z3 BK350; obtain ⟨Ao13, co13, eo13⟩ := Kd.R_slice HO348.out; subst eo13) | ((with_reducible refine gate_callee (f := 35) rfl ?_); refine zL (some 25) Try.func35 #[.agg #[.int .i64 t344, .int .i64 t345, .slice Ao13 t346.length co13]] ?_; (with_reducible refine (booklet_Make.calls k t344 t345 _ _ t346 t351 t354 _ ?side1 ?side2 A4.out).mono ?_); (case side1 => refine (Kd.R_reads' (e := 65) (base := w.heap.size) (ok := fun k_ => True) (n := t346.length) (c := co13) ?_).2.2; exact (by (with_reducible repeat (first | apply Kd.R_alloc | apply Kd.R_drewN | apply Kd.R_drew)); exact (Kd.R_mono (Kd.R_far (p := ⟨gb350, 2, none⟩) (Kd.R_far (p := ⟨gb350, 1, none⟩) (Kd.R_far (p := ⟨gb350, 0, none⟩) (Kd.R_types HO348.out BK350.out (by decide)) (fun _ hk => hk.2) (.int .i64 t344)) (fun _ hk => hk.2) (.int .i64 t345)) (fun _ hk => hk.2) (.slice Ao13 t346.length co13)) (fun _ h_ => h_.1)))); (case side2 => exact (Kd.R_reads' HO348.out).2.1); rintro e w14 ⟨v352, rfl, ho0, hb⟩; refine ⟨_, rfl, ?_⟩; have HO353 := za (Kd.N_lower (Kd.N_mono (ok' := fun k_ => some k_ ≠ (.slice Ao13 t346.length co13 : Value).ownBlock ∧ k_ ≠ gb350 ∧ k_ ≠ g343) (Kd.S_N (Kd.S_bound ho0)) (fun k_ hk_ => ⟨(Kd.fresh' (Kd.R_lt (by (with_reducible repeat (first | apply Kd.R_alloc | apply Kd.R_drewN | apply Kd.R_drew)); exact (Kd.R_mono (Kd.R_far (p := ⟨gb350, 2, none⟩) (Kd.R_far (p := ⟨gb350, 1, none⟩) (Kd.R_far (p := ⟨gb350, 0, none⟩) (Kd.R_types HO348.out BK350.out (by decide)) (fun _ hk => hk.2) (.int .i64 t344)) (fun _ hk => hk.2) (.int .i64 t345)) (fun _ hk => hk.2) (.slice Ao13 t346.length co13)) (fun _ h_ => h_.1)))) k_ hk_.2.1), (Kd.freshB (g := gb350) (o := .cells #[.int .i64 t344, .int .i64 t345, .slice Ao13 t346.length co13] 53 (0, 0)) (by (with_reducible repeat (first | refine blk_drewN ?_ _ | refine blk_drew ?_ | refine blk_alloc ?_ _)); refine blk_put (cs := #[.int .i64 t344, .int .i64 t345, .slice none 0 0]) ?_ 2 _ rfl; (with_reducible repeat (first | refine blk_drewN ?_ _ | refine blk_drew ?_ | refine blk_alloc ?_ _)); refine blk_put (cs := #[.int .i64 t344, .int .i64 0, .slice none 0 0]) ?_ 1 _ rfl; (with_reducible repeat (first | refine blk_drewN ?_ _ | refine blk_drew ?_ | refine blk_alloc ?_ _)); refine blk_put (cs := #[.int .i64 0, .int .i64 0, .slice none 0 0]) ?_ 0 _ rfl; (with_reducible repeat (first | refine blk_drewN ?_ _ | refine blk_drew ?_ | refine blk_alloc ?_ _)); exact BK350.out) k_ hk_.2.1), (IsS68.fresh (by repeat (first | (with_reducible first | exact HI343.out | apply IsS68.alloc | apply IsS68.drewN | apply IsS68.drew | apply IsS68.set_1 | refine IsS68.far ?_ NB343_350.out _) | exact HI343.out)) k_ hk_.2.1)⟩)) (below_size (zm HB))); replace HO348 := za (Kd.R_below (by (with_reducible repeat (first | apply Kd.R_alloc | apply Kd.R_drewN | apply Kd.R_drew)); exact (Kd.R_mono (Kd.R_far (p := ⟨gb350, 2, none⟩) (Kd.R_far (p := ⟨gb350, 1, none⟩) (Kd.R_far (p := ⟨gb350, 0, none⟩) (Kd.R_types HO348.out BK350.out (by decide)) (fun _ hk => hk.2) (.int .i64 t344)) (fun _ hk => hk.2) (.int .i64 t345)) (fun _ hk => hk.2) (.slice Ao13 t346.length co13)) (fun _ h_ => h_.1))) hb); replace HI343 := za (IsS68.below (show IsS68 w (((w10.setCell ⟨gb350, 0, none⟩ (.int .i64 t344)).setCell ⟨gb350, 1, none⟩ (.int .i64 t345)).setCell ⟨gb350, 2, none⟩ (.slice Ao13 t346.length co13)) g343 t341 t349 from by repeat (first | (with_reducible first | exact HI343.out | apply IsS68.alloc | apply IsS68.drewN | apply IsS68.drew | apply IsS68.set_1 | refine IsS68.far ?_ NB343_350.out _) | exact HI343.out)) hb); replace BK350 := za (blk_below (g := gb350) (o := .cells #[.int .i64 t344, .int .i64 t345, .slice Ao13 t346.length co13] 53 (0, 0)) (by (with_reducible repeat (first | refine blk_drewN ?_ _ | refine blk_drew ?_ | refine blk_alloc ?_ _)); refine blk_put (cs := #[.int .i64 t344, .int .i64 t345, .slice none 0 0]) ?_ 2 _ rfl; (with_reducible repeat (first | refine blk_drewN ?_ _ | refine blk_drew ?_ | refine blk_alloc ?_ _)); refine blk_put (cs := #[.int .i64 t344, .int .i64 0, .slice none 0 0]) ?_ 1 _ rfl; (with_reducible repeat (first | refine blk_drewN ?_ _ | refine blk_drew ?_ | refine blk_alloc ?_ _)); refine blk_put (cs := #[.int .i64 0, .int .i64 0, .slice none 0 0]) ?_ 0 _ rfl; (with_reducible repeat (first | refine blk_drewN ?_ _ | refine blk_drew ?_ | refine blk_alloc ?_ _)); exact BK350.out) hb); replace HB := zs HB hb; (try clear hb); (try clear hb2); (try clear hk); (try clear hi); (try clear ho0)) | ((with_reducible refine gate_dst (N := 5) rfl ?_); (try (refine gate_guard (by rfl) ?_; dsimp only)); refine zE 5 #[.slice none 0 0] 56 ?_; intro gb355 hg w15 hbox hb; have BK355 := za (hbox); have GW355 := zg HB hg; have GE355 := zg HB hg; have NB350_355 := zl BK350 hg; have NB355_350 := zr BK350 hg; have NB343_355 := za ((by rw [hg]; exact Nat.ne_of_lt (IsS68.lt (show IsS68 w _ g343 t341 t349 from by repeat (first | (with_reducible first | exact HI343.out | apply IsS68.alloc | apply IsS68.drewN | apply IsS68.drew | apply IsS68.set_1 | refine IsS68.far ?_ NB343_350.out _) | exact HI343.out))) : g343 ≠ gb355)); have NB355_343 := za ((by rw [hg]; exact Nat.ne_of_gt (IsS68.lt (show IsS68 w _ g343 t341 t349 from by repeat (first | (with_reducible first | exact HI343.out | apply IsS68.alloc | apply IsS68.drewN | apply IsS68.drew | apply IsS68.set_1 | refine IsS68.far ?_ NB343_350.out _) | exact HI343.out))) : gb355 ≠ g343)); replace HO348 := zR HO348 hb; replace HO353 := za (Kd.N_below (Kd.N_elderB (by (with_reducible repeat (first | apply Kd.N_alloc | apply Kd.N_drewN | apply Kd.N_drew)); exact HO353.out) gb355 (Nat.le_of_eq hg.symm)) hb); replace HI343 := za (IsS68.below (by repeat (first | (with_reducible first | exact HI343.out | apply IsS68.alloc | apply IsS68.drewN | apply IsS68.drew | apply IsS68.set_1 | refine IsS68.far ?_ NB343_350.out _) | exact HI343.out)) hb); replace BK350 := zb BK350 hb; replace HB := zs HB hb; clear hb hbox hg; obtain ⟨Ao16, co16, eo16⟩ := Kd.N_slice HO353.out; subst eo16; have hnb17 := NB355_350.out; have hnc17 := NB350_355.out; have hnb18 := NB355_343.out; have hnc18 := NB343_355.out; obtain ⟨hcz19_0, hfz19_0⟩ := z1 BK355) | ((with_reducible refine gate_callee (f := 16) rfl ?_); refine zL (some 29) Try.func16 #[.pointer (some ⟨g343, 0, none⟩), .int .i64 0] ?_; (with_reducible refine (awardingbodymake_Tape_Threshold.calls g343 t341 t349 0 t356 t357 t358 t359 w _ ?side1 ?side2 A5.out).mono ?_); (case side1 => repeat (first | (with_reducible first | exact HI343.out | apply IsS68.alloc | apply IsS68.drewN | apply IsS68.drew | apply IsS68.set_1 | refine IsS68.far ?_ NB343_350.out _ | refine IsS68.far ?_ NB343_355.out _) | exact HI343.out)); (case side2 => repeat (first | (with_reducible first | exact HB.out | apply below_alloc | apply pw_below_drewN | apply below_drew1 | refine below_set ?_ (IsS68.ge HI343.out) | refine below_set ?_ GE350.out | refine below_set ?_ GE355.out) | exact HB.out)); rintro e w20 ⟨rfl, hi, hb, hk⟩; refine ⟨_, rfl, ?_⟩; replace HO348 := za (Kd.R_mono (Kd.R_keep (IsS68.apart (show IsS68 w _ g343 t341 t349 from by repeat (first | (with_reducible first | exact HI343.out | apply IsS68.alloc | apply IsS68.drewN | apply IsS68.drew | apply IsS68.set_1 | refine IsS68.far ?_ NB343_350.out _ | refine IsS68.far ?_ NB343_355.out _) | exact HI343.out)) (by (with_reducible repeat (first | apply Kd.R_alloc | apply Kd.R_drewN | apply Kd.R_drew)); exact (Kd.R_mono (Kd.R_far (p := ⟨gb355, 0, none⟩) (Kd.R_types HO348.out BK355.out (by decide)) (fun _ hk => hk.2) (.slice Ao16 t351.length co16)) (fun _ h_ => h_.1))) (by decide)) hk (fun _ h => h.2)) (fun _ h => h.1)); replace BK350 := zk hk BK350 NB350_343; replace HO353 := za (Kd.N_mono (Kd.N_keep (Kd.N_mono (ok := fun k_ => ((some k_ ≠ (.slice Ao13 t346.length co13 : Value).ownBlock ∧ (k_ ≠ gb350 ∧ k_ ≠ g343)) ∧ k_ ≠ gb355)) (by (with_reducible repeat (first | apply Kd.N_alloc | apply Kd.N_drewN | apply Kd.N_drew)); exact (Kd.N_mono (Kd.N_far (p := ⟨gb355, 0, none⟩) (Kd.N_mono HO353.out (fun k_ hk => (⟨hk, hk.2⟩ : _ ∧ k_ ≠ gb355))) (fun _ hk => hk.2) (.slice Ao16 t351.length co16)) (fun _ h_ => h_.1))) (fun k_ hk_ => (⟨hk_, hk_.1.2.2⟩ : _ ∧ k_ ≠ g343))) hk (fun _ h => h.2)) (fun _ h => h.1)); replace BK355 := za (KeepBut.blk hk (g' := gb355) (o := .cells #[.slice Ao16 t351.length co16] 56 (0, 0)) (by (with_reducible repeat (first | refine blk_drewN ?_ _ | refine blk_drew ?_ | refine blk_alloc ?_ _)); refine blk_put (cs := #[.slice none 0 0]) ?_ 0 _ rfl; (with_reducible repeat (first | refine blk_drewN ?_ _ | refine blk_drew ?_ | refine blk_alloc ?_ _)); exact BK355.out) NB355_343.out (by simp)); replace HB := za (hb); replace HI343 := za (hi); (try clear hb); (try clear hb2); (try clear hk); (try clear hi)) | ((with_reducible refine gate_dst (N := 7) rfl ?_); (try (refine gate_guard (by rfl) ?_; dsimp only)); refine zE 7 #[.int .i64 0, .int .i64 0, .int .i64 0] 23 ?_; intro gb360 hg w21 hbox hb; have BK360 := za (hbox); have GW360 := zg HB hg; have GE360 := zg HB hg; have NB350_360 := zl BK350 hg; have NB360_350 := zr BK350 hg; have NB355_360 := zl BK355 hg; have NB360_355 := zr BK355 hg; have NB343_360 := za ((by rw [hg]; exact Nat.ne_of_lt (IsS68.lt (show IsS68 w _ g343 t341 t359 from by repeat (first | (with_reducible first | exact HI343.out | apply IsS68.alloc | apply IsS68.drewN | apply IsS68.drew | apply IsS68.set_1 | refine IsS68.far ?_ NB343_350.out _ | refine IsS68.far ?_ NB343_355.out _) | exact HI343.out))) : g343 ≠ gb360)); have NB360_343 := za ((by rw [hg]; exact Nat.ne_of_gt (IsS68.lt (show IsS68 w _ g343 t341 t359 from by repeat (first | (with_reducible first | exact HI343.out | apply IsS68.alloc | apply IsS68.drewN | apply IsS68.drew | apply IsS68.set_1 | refine IsS68.far ?_ NB343_350.out _ | refine IsS68.far ?_ NB343_355.out _) | exact HI343.out))) : gb360 ≠ g343)); replace HO348 := zR HO348 hb; replace HO353 := za (Kd.N_below (Kd.N_elderB (by (with_reducible repeat (first | apply Kd.N_alloc | apply Kd.N_drewN | apply Kd.N_drew)); exact HO353.out) gb360 (Nat.le_of_eq hg.symm)) hb); replace HI343 := za (IsS68.below (by repeat (first | (with_reducible first | exact HI343.out | apply IsS68.alloc | apply IsS68.drewN | apply IsS68.drew | apply IsS68.set_1 | refine IsS68.far ?_ NB343_350.out _ | refine IsS68.far ?_ NB343_355.out _) | exact HI343.out)) hb); replace BK350 := zb BK350 hb; replace BK355 := zb BK355 hb; replace HB := zs HB hb; clear hb hbox hg; have hnb22 := NB360_350.out; have hnc22 := NB350_360.out; have hnb23 := NB360_355.out; have hnc23 := NB355_360.out; have hnb24 := NB360_343.out; have hnc24 := NB343_360.out; obtain ⟨hcz25_0, hcz25_1, hcz25_2, hfz25_0, hfz25_1, hfz25_2⟩ := z3 BK360) | ((with_reducible refine gate_callee (f := 20) rfl ?_); refine zL (some 31) Try.func20 #[.pointer (some ⟨g343, 0, none⟩), .int .i64 4] ?_; (with_reducible refine (awardingbodymake_Tape_Next.calls g343 t341 t359 4 t361 t362 w _ ?side1 ?side2 A6.out).mono ?_); (case side1 => repeat (first | (with_reducible first | exact HI343.out | apply IsS68.alloc | apply IsS68.drewN | apply IsS68.drew | apply IsS68.set_1 | refine IsS68.far ?_ NB343_350.out _ | refine IsS68.far ?_ NB343_355.out _ | refine IsS68.far ?_ NB343_360.out _) | exact HI343.out)); (case side2 => repeat (first | (with_reducible first | exact HB.out | apply below_alloc | apply pw_below_drewN | apply below_drew1 | refine below_set ?_ (IsS68.ge HI343.out) | refine below_set ?_ GE350.out | refine below_set ?_ GE355.out | refine below_set ?_ GE360.out) | exact HB.out)); rintro e w26 ⟨rfl, hi, hb, hk⟩; refine ⟨_, rfl, ?_⟩; replace HO348 := za (Kd.R_mono (Kd.R_keep (IsS68.apart (show IsS68 w _ g343 t341 t359 from by repeat (first | (with_reducible first | exact HI343.out | apply IsS68.alloc | apply IsS68.drewN | apply IsS68.drew | apply IsS68.set_1 | refine IsS68.far ?_ NB343_350.out _ | refine IsS68.far ?_ NB343_355.out _ | refine IsS68.far ?_ NB343_360.out _) | exact HI343.out)) (by (with_reducible repeat (first | apply Kd.R_alloc | apply Kd.R_drewN | apply Kd.R_drew)); exact (Kd.R_mono (Kd.R_far (p := ⟨gb360, 2, none⟩) (Kd.R_far (p := ⟨gb360, 1, none⟩) (Kd.R_far (p := ⟨gb360, 0, none⟩) (Kd.R_types HO348.out BK360.out (by decide)) (fun _ hk => hk.2) (.int .i64 t356)) (fun _ hk => hk.2) (.int .i64 t357)) (fun _ hk => hk.2) (.int .i64 t358)) (fun _ h_ => h_.1))) (by decide)) hk (fun _ h => h.2)) (fun _ h => h.1)); replace BK350 := zk hk BK350 NB350_343; replace HO353 := za (Kd.N_mono (Kd.N_keep (Kd.N_mono (ok := fun k_ => (((some k_ ≠ (.slice Ao13 t346.length co13 : Value).ownBlock ∧ (k_ ≠ gb350 ∧ k_ ≠ g343)) ∧ k_ ≠ gb355) ∧ k_ ≠ gb360)) (by (with_reducible repeat (first | apply Kd.N_alloc | apply Kd.N_drewN | apply Kd.N_drew)); exact (Kd.N_mono (Kd.N_far (p := ⟨gb360, 2, none⟩) (Kd.N_far (p := ⟨gb360, 1, none⟩) (Kd.N_far (p := ⟨gb360, 0, none⟩) (Kd.N_mono HO353.out (fun k_ hk => (⟨hk, hk.2⟩ : _ ∧ k_ ≠ gb360))) (fun _ hk => hk.2) (.int .i64 t356)) (fun _ hk => hk.2) (.int .i64 t357)) (fun _ hk => hk.2) (.int .i64 t358)) (fun _ h_ => h_.1))) (fun k_ hk_ => (⟨hk_, hk_.1.1.2.2⟩ : _ ∧ k_ ≠ g343))) hk (fun _ h => h.2)) (fun _ h => h.1)); replace BK355 := zk hk BK355 NB355_343; replace BK360 := za (KeepBut.blk hk (g' := gb360) (o := .cells #[.int .i64 t356, .int .i64 t357, .int .i64 t358] 23 (0, 0)) (by (with_reducible repeat (first | refine blk_drewN ?_ _ | refine blk_drew ?_ | refine blk_alloc ?_ _)); refine blk_put (cs := #[.int .i64 t356, .int .i64 t357, .int .i64 0]) ?_ 2 _ rfl; (with_reducible repeat (first | refine blk_drewN ?_ _ | refine blk_drew ?_ | refine blk_alloc ?_ _)); refine blk_put (cs := #[.int .i64 t356, .int .i64 0, .int .i64 0]) ?_ 1 _ rfl; (with_reducible repeat (first | refine blk_drewN ?_ _ | refine blk_drew ?_ | refine blk_alloc ?_ _)); refine blk_put (cs := #[.int .i64 0, .int .i64 0, .int .i64 0]) ?_ 0 _ rfl; (with_reducible repeat (first | refine blk_drewN ?_ _ | refine blk_drew ?_ | refine blk_alloc ?_ _)); exact BK360.out) NB360_343.out (by simp)); replace HB := za (hb); replace HI343 := za (hi); (try clear hb); (try clear hb2); (try clear hk); (try clear hi); obtain ⟨hcz27_0, hcz27_1, hcz27_2, hfz27_0, hfz27_1, hfz27_2⟩ := z3 BK350; obtain ⟨hcz28_0, hfz28_0⟩ := z1 BK355) | ((with_reducible refine gate_callee (f := 36) rfl ?_); refine zL (some 35) Try.func36 #[.agg #[.int .i64 t344, .int .i64 t345, .slice Ao13 t346.length co13], .agg #[.slice Ao16 t351.length co16], .int .i64 t361] ?_; (with_reducible refine (booklet_Fields.calls k t344 t345 _ _ t346 _ _ t351 t361 t363 _ ?side1 ?side2 ?side3 ?side4 A7.out).mono ?_); (case side1 => exact zD HO348); (case side2 => exact (Kd.R_reads' HO348.out).2.1); (case side3 => repeat (first | exact (Kd.N_reads' HO353.out).2.2 | (with_reducible refine Kd.C_alloc ?_ _) | (with_reducible refine Kd.C_drewN ?_ _) | (with_reducible refine Kd.C_drew ?_))); (case side4 => exact (Kd.N_reads' HO353.out).2.1); rintro e w29 ⟨v364, rfl, ho0, hb⟩; refine ⟨_, rfl, ?_⟩; have HO365 := za (Kd.R_lower ho0 (below_size (zm HB))); replace HO348 := zR HO348 hb; replace HO353 := za (Kd.N_elder' (by (with_reducible repeat (first | apply Kd.N_alloc | apply Kd.N_drewN | apply Kd.N_drew)); exact HO353.out) (Kd.R_base ho0) hb); replace HI343 := za (IsS68.below (by repeat (first | (with_reducible first | exact HI343.out | apply IsS68.alloc | apply IsS68.drewN | apply IsS68.drew | apply IsS68.set_1 | refine IsS68.far ?_ NB343_350.out _ | refine IsS68.far ?_ NB343_355.out _ | refine IsS68.far ?_ NB343_360.out _) | exact HI343.out)) hb); replace BK350 := zb BK350 hb; replace BK355 := zb BK355 hb; replace BK360 := zb BK360 hb; replace HB := zs HB hb; (try clear hb); (try clear hb2); (try clear hk); (try clear hi); (try clear ho0)))
 go_loopg [10, 11] k (fun kq v10 v11 w' => ∃ (x10_1 : List Int) (x11_1 : Int) (x344001_1 : Int), v11 = .int .i64 x11_1 ∧ Aside0 (awardingbodylaw20_BubbleParts.l0 kq t354 t361 t363 x10_1 x11_1 t341 x344001_1 t344 t345 t346 t351 t356 t357 t358 = some r) ∧ Aside0 (kq ≤ k) ∧ Aside0 (Kd.R k46 46 w' w.heap.size (fun _ => True) v364 t363) ∧ Aside0 (Kd.R (Kd.int .i64) 3 w' w.heap.size (fun _ => True) v10 x10_1) ∧ Aside0 (Kd.R k65 65 w' w.heap.size (fun _ => True) (.slice Ao13 t346.length co13) t346) ∧ Aside0 (Kd.N (Kd.slice 3 (Kd.int .i64)) 28 w' w.heap.size (fun k_ => some k_ ≠ (v364 : Value).ownBlock ∧ some k_ ≠ (v10 : Value).ownBlock ∧ some k_ ≠ ((.slice Ao13 t346.length co13) : Value).ownBlock ∧ k_ ≠ gb350 ∧ k_ ≠ gb355 ∧ k_ ≠ gb360 ∧ k_ ≠ g343) (.slice Ao16 t351.length co16) t351) ∧ Aside0 (w'.heap[gb350]? = some (.cells #[.int .i64 t344, .int .i64 t345, (.slice Ao13 t346.length co13)] 53 (0, 0))) ∧ Aside0 (w'.heap[gb355]? = some (.cells #[(.slice Ao16 t351.length co16)] 56 (0, 0))) ∧ Aside0 (w'.heap[gb360]? = some (.cells #[.int .i64 t356, .int .i64 t357, .int .i64 t358] 23 (0, 0))) ∧ Aside0 (IsS68 w w' g343 t341 x344001_1) ∧ Aside0 (Below w.heap.size w w'))
 case atStart => exact ⟨(([] : List Int)), (0), (t362), (by first | rfl | (simp; done) | (simp [*]; done)), H', ⟨Nat.le_refl _⟩, ⟨by (with_reducible repeat (first | apply Kd.R_alloc | apply Kd.R_drewN | apply Kd.R_drew)); exact HO365.out⟩, ⟨by first | exact Kd.R_nil _ _ _ _ _ | exact Kd.N_nil _ _ _ _ _ | exact Kd.V_nil _ _ _ _ _ | exact Kd.Q_nil _ _ _ _ _ | exact Kd.S_nil _ _ _ _ _⟩, ⟨by (with_reducible repeat (first | apply Kd.R_alloc | apply Kd.R_drewN | apply Kd.R_drew)); exact HO348.out⟩, ⟨by (with_reducible repeat (first | apply Kd.N_alloc | apply Kd.N_drewN | apply Kd.N_drew)); exact Kd.N_mono HO353.out (fun _ hk => ⟨hk.2, ⟨(by simp [Value.ownBlock]), ⟨hk.1.1.1.1, ⟨hk.1.1.1.2.1, ⟨hk.1.1.2, ⟨hk.1.2, hk.1.1.1.2.2⟩⟩⟩⟩⟩⟩)⟩, ⟨by (with_reducible repeat (first | refine blk_drewN ?_ _ | refine blk_drew ?_ | refine blk_alloc ?_ _)); exact BK350.out⟩, ⟨by (with_reducible repeat (first | refine blk_drewN ?_ _ | refine blk_drew ?_ | refine blk_alloc ?_ _)); exact BK355.out⟩, ⟨by (with_reducible repeat (first | refine blk_drewN ?_ _ | refine blk_drew ?_ | refine blk_alloc ?_ _)); exact BK360.out⟩, ⟨by repeat (first | (with_reducible first | exact HI343.out | apply IsS68.alloc | apply IsS68.drewN | apply IsS68.drew | apply IsS68.set_1 | refine IsS68.far ?_ NB343_350.out _ | refine IsS68.far ?_ NB343_355.out _ | refine IsS68.far ?_ NB343_360.out _) | exact HI343.out)⟩, ⟨zm HB⟩⟩
 case round =>
  clear H'
  try clear c1
  try clear c2
  try clear p2
  try clear c3
  try clear c10
  try clear c11
  try clear c15
  try clear c16
  try clear c17
  try clear c18
  try clear c20
  try clear c22
  try clear c23
  try clear c24
  try clear hcz12_0
  try clear hcz12_1
  try clear hcz12_2
  try clear hcz19_0
  try clear hcz25_0
  try clear hcz25_1
  try clear hcz25_2
  try clear hcz27_0
  try clear hcz27_1
  try clear hcz27_2
  try clear hcz28_0
  try clear hfz12_0
  try clear hfz12_1
  try clear hfz12_2
  try clear hfz19_0
  try clear hfz25_0
  try clear hfz25_1
  try clear hfz25_2
  try clear hfz27_0
  try clear hfz27_1
  try clear hfz27_2
  try clear hfz28_0
  obtain ⟨x10_1, x11_1, x344001_1, rfl, HA, HK1, HO_9, HO_10, HO_351002, HO_356000, BK350, BK355, BK360, HI343, HB⟩ := hrel
  cases gk with
  | zero => exact absurd HA.out (by simp [awardingbodylaw20_BubbleParts.l0])
  | succ k1 =>
   have H := HA.out
   clear HA
   simp only [awardingbodylaw20_BubbleParts.l0] at H
   by_cases c30 : x11_1 < (t363.length : Int)
   ·rw [if_pos c30] at H
    have c30b0 : decide (x11_1 < (t363.length : Int)) = true := decide_eq_true c30
    clear c30
    replace H := Option.bind_eq_some_iff.mp H
    obtain ⟨⟨t366, t367⟩, A310, H⟩ := H
    replace H : (if x10_1.length < 17592186044416 then (awardingbodylaw20_BubbleParts.l0 k1 t354 t361 t363 (x10_1 ++ [t366]) (wrap64 (x11_1 + 1)) t341 t367 t344 t345 t346 t351 t356 t357 t358) else (none)) = some r := H
    have A31 := za A310
    clear A310
    by_cases c32 : x10_1.length < 17592186044416
    ·rw [if_pos c32] at H
     have LMc32 := za c32
     clear c32
     obtain ⟨y368, hy368⟩ : ∃ y_ : List Int, y_ = (x10_1 ++ [t366]) := ⟨_, rfl⟩
     replace H : (awardingbodylaw20_BubbleParts.l0 k1 t354 t361 t363 y368 (wrap64 (x11_1 + 1)) t341 t367 t344 t345 t346 t351 t356 t357 t358) = some r := by first | (rw [hy368]; with_reducible exact H) | (have H2_ := (Option.bind_some _ _).symm.trans H; rw [hy368]; with_reducible exact H2_) | (have H2_ := (Option.bind_some _ _).symm.trans H; with_reducible exact H2_) | with_reducible exact H | (rw [hy368]; exact H) | exact H
     have Ny368 := za hy368
     clear hy368
     have H' := za H
     clear H
     obtain ⟨Ao33, co33, eo33⟩ := Kd.R_slice HO_9.out
     subst eo33
     go_wp2_with (first | ((with_reducible refine gate_callee (f := 20) rfl ?_); refine zL (some 44) Try.func20 #[.pointer (some ⟨g343, 0, none⟩), .int .i64 10] ?_; (with_reducible refine (awardingbodymake_Tape_Next.calls g343 t341 x344001_1 10 t366 t367 w _ ?side1 ?side2 A31.out).mono ?_); (case side1 => repeat (first | (with_reducible first | exact HI343.out | apply IsS68.alloc | apply IsS68.drewN | apply IsS68.drew | apply IsS68.set_1 | refine IsS68.far ?_ NB343_350.out _ | refine IsS68.far ?_ NB343_355.out _ | refine IsS68.far ?_ NB343_360.out _) | exact HI343.out)); (case side2 => repeat (first | (with_reducible first | exact HB.out | apply below_alloc | apply pw_below_drewN | apply below_drew1 | refine below_set ?_ (IsS68.ge HI343.out) | refine below_set ?_ GE350.out | refine below_set ?_ GE355.out | refine below_set ?_ GE360.out) | exact HB.out)); rintro e w34 ⟨rfl, hi, hb, hk⟩; refine ⟨_, rfl, ?_⟩; replace HO_9 := za (Kd.R_mono (Kd.R_keep (IsS68.apart (show IsS68 w _ g343 t341 x344001_1 from by repeat (first | (with_reducible first | exact HI343.out | apply IsS68.alloc | apply IsS68.drewN | apply IsS68.drew | apply IsS68.set_1 | refine IsS68.far ?_ NB343_350.out _ | refine IsS68.far ?_ NB343_355.out _ | refine IsS68.far ?_ NB343_360.out _) | exact HI343.out)) (by (with_reducible repeat (first | apply Kd.R_alloc | apply Kd.R_drewN | apply Kd.R_drew)); exact HO_9.out) (by decide)) hk (fun _ h => h.2)) (fun _ h => h.1)); replace HO_10 := za (Kd.R_mono (Kd.R_keep (IsS68.apart (show IsS68 w _ g343 t341 x344001_1 from by repeat (first | (with_reducible first | exact HI343.out | apply IsS68.alloc | apply IsS68.drewN | apply IsS68.drew | apply IsS68.set_1 | refine IsS68.far ?_ NB343_350.out _ | refine IsS68.far ?_ NB343_355.out _ | refine IsS68.far ?_ NB343_360.out _) | exact HI343.out)) (by (with_reducible repeat (first | apply Kd.R_alloc | apply Kd.R_drewN | apply Kd.R_drew)); exact HO_10.out) (by decide)) hk (fun _ h => h.2)) (fun _ h => h.1)); replace HO_351002 := za (Kd.R_mono (Kd.R_keep (IsS68.apart (show IsS68 w _ g343 t341 x344001_1 from by repeat (first | (with_reducible first | exact HI343.out | apply IsS68.alloc | apply IsS68.drewN | apply IsS68.drew | apply IsS68.set_1 | refine IsS68.far ?_ NB343_350.out _ | refine IsS68.far ?_ NB343_355.out _ | refine IsS68.far ?_ NB343_360.out _) | exact HI343.out)) (by (with_reducible repeat (first | apply Kd.R_alloc | apply Kd.R_drewN | apply Kd.R_drew)); exact HO_351002.out) (by decide)) hk (fun _ h => h.2)) (fun _ h => h.1)); replace HO_356000 := za (Kd.N_mono (Kd.N_keep (Kd.N_mono (ok := fun k_ => (some k_ ≠ (.slice Ao33 t363.length co33 : Value).ownBlock ∧ (some k_ ≠ (u10 : Value).ownBlock ∧ (some k_ ≠ (.slice Ao13 t346.length co13 : Value).ownBlock ∧ (k_ ≠ gb350 ∧ (k_ ≠ gb355 ∧ (k_ ≠ gb360 ∧ k_ ≠ g343))))))) (by (with_reducible repeat (first | apply Kd.N_alloc | apply Kd.N_drewN | apply Kd.N_drew)); exact HO_356000.out) (fun k_ hk_ => (⟨hk_, hk_.2.2.2.2.2.2⟩ : _ ∧ k_ ≠ g343))) hk (fun _ h => h.2)) (fun _ h => h.1)); replace BK350 := zk hk BK350 NB350_343; replace BK355 := zk hk BK355 NB355_343; replace BK360 := zk hk BK360 NB360_343; replace HB := za (hb); replace HI343 := za (hi); (try clear hb); (try clear hb2); (try clear hk); (try clear hi)) | ((with_reducible refine gate_builtin (b := .append) (xs := #[.tmp 42, .tmp 45]) rfl ?_); (try (refine gate_guard (by rfl) ?_; dsimp only)); at_builtin; refine Kd.R_append (Kd.int .i64) (w0 := w) w.heap.size rfl (.tmp 42) (.tmp 45) 28 3 (.int .i64 0) 8 rfl Try.underlying28 info3 rfl (by decide) (by omega) u10 x10_1 t366 [.int .i64 t366] (fun _ => True) (fun _ => False) rfl rfl ?aP (fun _ hk => hk.elim) ?aF ?aO ?aB ?aS ?aL ?_; (case aP => exact rfl); (case aB => exact (zm HB)); (case aF => exact (fun _ _ => trivial)); (case aO => exact (by (with_reducible repeat (first | apply Kd.R_alloc | apply Kd.R_drewN | apply Kd.R_drew)); exact HO_10.out)); (case aS => exact (below_size (zm HB))); (case aL => have := LMc32.out; omega); intro v369 w35 ho hb hg hat; rw [← Ny368.out] at ho; have HO370 := za (ho); replace HO_9 := za (Kd.R_over' (by (with_reducible repeat (first | apply Kd.R_alloc | apply Kd.R_drewN | apply Kd.R_drew)); exact HO_9.out) (Kd.R_typed (by (with_reducible repeat (first | apply Kd.R_alloc | apply Kd.R_drewN | apply Kd.R_drew)); exact HO_10.out)) (by decide) hg); replace HO_351002 := za (Kd.R_over' (by (with_reducible repeat (first | apply Kd.R_alloc | apply Kd.R_drewN | apply Kd.R_drew)); exact HO_351002.out) (Kd.R_typed (by (with_reducible repeat (first | apply Kd.R_alloc | apply Kd.R_drewN | apply Kd.R_drew)); exact HO_10.out)) (by decide) hg); replace HO_356000 := za (Kd.N_afterv (ok := (fun k_ => some k_ ≠ (.slice Ao33 t363.length co33 : Value).ownBlock ∧ some k_ ≠ (.slice Ao13 t346.length co13 : Value).ownBlock ∧ k_ ≠ gb350 ∧ k_ ≠ gb355 ∧ k_ ≠ gb360 ∧ k_ ≠ g343)) (by (with_reducible repeat (first | apply Kd.N_alloc | apply Kd.N_drewN | apply Kd.N_drew)); exact Kd.N_mono HO_356000.out (fun _ hk => ⟨⟨hk.1, ⟨hk.2.2.1, ⟨hk.2.2.2.1, ⟨hk.2.2.2.2.1, ⟨hk.2.2.2.2.2.1, hk.2.2.2.2.2.2⟩⟩⟩⟩⟩, hk.2.1⟩)) hg hat); replace BK350 := (zw BK350 hg (Kd.R_ne HO_10.out BK350.out (by decide))); replace BK355 := (zw BK355 hg (Kd.R_ne HO_10.out BK355.out (by decide))); replace BK360 := (zw BK360 hg (Kd.R_ne HO_10.out BK360.out (by decide))); replace HI343 := za (IsS68.grown (by repeat (first | (with_reducible first | exact HI343.out | apply IsS68.alloc | apply IsS68.drewN | apply IsS68.drew | apply IsS68.set_1 | refine IsS68.far ?_ NB343_350.out _ | refine IsS68.far ?_ NB343_355.out _ | refine IsS68.far ?_ NB343_360.out _) | exact HI343.out)) hg (IsS68.own_ne HI343.out HO_10.out (by decide))); replace HB := za (hb); clear HO_10 ho hb hg hat))
     go_roundg k1
     case measure => have := HK1.out; omega
     case rel => exact ⟨(y368), (wrap64 (x11_1 + 1)), (t367), (by first | rfl | (simp; done) | (simp [*]; done)), H', ⟨by have := HK1.out; omega⟩, ⟨by (with_reducible repeat (first | apply Kd.R_alloc | apply Kd.R_drewN | apply Kd.R_drew)); exact HO_9.out⟩, ⟨by (with_reducible repeat (first | apply Kd.R_alloc | apply Kd.R_drewN | apply Kd.R_drew)); exact HO370.out⟩, ⟨by (with_reducible repeat (first | apply Kd.R_alloc | apply Kd.R_drewN | apply Kd.R_drew)); exact HO_351002.out⟩, ⟨by (with_reducible repeat (first | apply Kd.N_alloc | apply Kd.N_drewN | apply Kd.N_drew)); exact Kd.N_mono HO_356000.out (fun _ hk => ⟨hk.1.1, ⟨hk.2, ⟨hk.1.2.1, ⟨hk.1.2.2.1, ⟨hk.1.2.2.2.1, ⟨hk.1.2.2.2.2.1, hk.1.2.2.2.2.2⟩⟩⟩⟩⟩⟩)⟩, ⟨by (with_reducible repeat (first | refine blk_drewN ?_ _ | refine blk_drew ?_ | refine blk_alloc ?_ _)); exact BK350.out⟩, ⟨by (with_reducible repeat (first | refine blk_drewN ?_ _ | refine blk_drew ?_ | refine blk_alloc ?_ _)); exact BK355.out⟩, ⟨by (with_reducible repeat (first | refine blk_drewN ?_ _ | refine blk_drew ?_ | refine blk_alloc ?_ _)); exact BK360.out⟩, ⟨by repeat (first | (with_reducible first | exact HI343.out | apply IsS68.alloc | apply IsS68.drewN | apply IsS68.drew | apply IsS68.set_1 | refine IsS68.far ?_ NB343_350.out _ | refine IsS68.far ?_ NB343_355.out _ | refine IsS68.far ?_ NB343_360.out _) | exact HI343.out)⟩, ⟨zm HB⟩⟩
    ·rw [if_neg c32] at H
     exact absurd H (by simp)
   ·rw [if_neg c30] at H
    have c30b0 : decide (x11_1 < (t363.length : Int)) = false := decide_eq_false c30
    clear c30
    replace H := Option.bind_eq_some_iff.mp H
    obtain ⟨⟨t371, t374⟩, A360, H⟩ := H
    replace H : ((bubble_Split.f k1 t363 x10_1).bind fun bt375 => (if t354 = 0 then (if t374 = 0 then (if bt375.2 = 0 then (awardingbodylaw20_BubbleParts.j1 k1 t361 t371 bt375.1 ((t371.length : Int) != (t346.length : Int)) t344 t345 t346 t351 t356 t357 t358) else (awardingbodylaw20_BubbleParts.j1 k1 t361 t371 bt375.1 true t344 t345 t346 t351 t356 t357 t358)) else (awardingbodylaw20_BubbleParts.j1 k1 t361 t371 bt375.1 true t344 t345 t346 t351 t356 t357 t358)) else (awardingbodylaw20_BubbleParts.j1 k1 t361 t371 bt375.1 true t344 t345 t346 t351 t356 t357 t358))) = some r := H
    have A36 := za A360
    clear A360
    replace H := Option.bind_eq_some_iff.mp H
    obtain ⟨⟨t375, t378⟩, A370, H⟩ := H
    replace H : (if t354 = 0 then (if t374 = 0 then (if t378 = 0 then (awardingbodylaw20_BubbleParts.j1 k1 t361 t371 t375 ((t371.length : Int) != (t346.length : Int)) t344 t345 t346 t351 t356 t357 t358) else (awardingbodylaw20_BubbleParts.j1 k1 t361 t371 t375 true t344 t345 t346 t351 t356 t357 t358)) else (awardingbodylaw20_BubbleParts.j1 k1 t361 t371 t375 true t344 t345 t346 t351 t356 t357 t358)) else (awardingbodylaw20_BubbleParts.j1 k1 t361 t371 t375 true t344 t345 t346 t351 t356 t357 t358)) = some r := H
    have A37 := za A370
    clear A370
    have HC38 := za H
    clear H
    obtain ⟨Ao39, co39, eo39⟩ := Kd.R_slice HO_9.out
    subst eo39
    have hnb40 := NB350_355.out
    have hnc40 := NB355_350.out
    have hnb41 := NB350_360.out
    have hnc41 := NB360_350.out
    have hnb42 := NB350_343.out
    have hnc42 := NB343_350.out
    obtain ⟨hcz43_0, hcz43_1, hcz43_2, hfz43_0, hfz43_1, hfz43_2⟩ := z3 BK350
    have hnb44 := NB355_360.out
    have hnc44 := NB360_355.out
    have hnb45 := NB355_343.out
    have hnc45 := NB343_355.out
    obtain ⟨hcz46_0, hfz46_0⟩ := z1 BK355
    have hnb47 := NB360_343.out
    have hnc47 := NB343_360.out
    obtain ⟨hcz48_0, hcz48_1, hcz48_2, hfz48_0, hfz48_1, hfz48_2⟩ := z3 BK360
    obtain ⟨Ao49, co49, eo49⟩ := Kd.R_slice HO_10.out
    subst eo49
    go_upto_region 14 with (first | ((with_reducible refine gate_callee (f := 32) rfl ?_); refine zL (some 53) Try.func32 #[.agg #[.int .i64 t344, .int .i64 t345, .slice Ao13 t346.length co13], .agg #[.slice Ao16 t351.length co16], .agg #[.int .i64 t356, .int .i64 t357, .int .i64 t358], .int .i64 t361, .slice Ao49 x10_1.length co49] ?_; (with_reducible refine (bubble_Page.calls k1 t344 t345 _ _ t346 _ _ t351 t356 t357 t358 t361 _ _ x10_1 t371 t374 _ ?side1 ?side2 ?side3 ?side4 ?side5 ?side6 A36.out).mono ?_); (case side1 => exact zD HO_351002); (case side2 => exact (Kd.R_reads' HO_351002.out).2.1); (case side3 => repeat (first | exact (Kd.N_reads' HO_356000.out).2.2 | (with_reducible refine Kd.C_alloc ?_ _) | (with_reducible refine Kd.C_drewN ?_ _) | (with_reducible refine Kd.C_drew ?_))); (case side4 => exact (Kd.N_reads' HO_356000.out).2.1); (case side5 => exact zD HO_10); (case side6 => exact (Kd.R_reads' HO_10.out).2.1); rintro e w50 ⟨v372, rfl, ho0, hb⟩; refine ⟨_, rfl, ?_⟩; have HO373 := za (Kd.R_lower (Kd.R_new' ho0 (Kd.R_lt (by (with_reducible repeat (first | apply Kd.R_alloc | apply Kd.R_drewN | apply Kd.R_drew)); exact HO_10.out))) (below_size (zm HB))); replace HO_9 := zR HO_9 hb; replace HO_10 := za (Kd.R_elder' (by (with_reducible repeat (first | apply Kd.R_alloc | apply Kd.R_drewN | apply Kd.R_drew)); exact HO_10.out) (Kd.R_base ho0) hb); replace HO_351002 := zR HO_351002 hb; replace HO_356000 := za (Kd.N_elder' (by (with_reducible repeat (first | apply Kd.N_alloc | apply Kd.N_drewN | apply Kd.N_drew)); exact HO_356000.out) (Kd.R_base ho0) hb); replace BK350 := zb BK350 hb; replace BK355 := zb BK355 hb; replace BK360 := zb BK360 hb; replace HI343 := za (IsS68.below (by repeat (first | (with_reducible first | exact HI343.out | apply IsS68.alloc | apply IsS68.drewN | apply IsS68.drew | apply IsS68.set_1 | refine IsS68.far ?_ NB343_350.out _ | refine IsS68.far ?_ NB343_355.out _ | refine IsS68.far ?_ NB343_360.out _) | exact HI343.out)) hb); replace HB := zs HB hb; (try clear hb); (try clear hb2); (try clear hk); (try clear hi); (try clear ho0)) | ((with_reducible refine gate_callee (f := 25) rfl ?_); refine zL (some 59) Try.func25 #[.slice Ao39 t363.length co39, .slice Ao49 x10_1.length co49] ?_; (with_reducible refine (bubble_Split.calls k1 _ _ t363 _ _ x10_1 t375 t378 _ ?side1 ?side2 ?side3 ?side4 A37.out).mono ?_); (case side1 => exact zD HO_9); (case side2 => exact (Kd.R_reads' HO_9.out).2.1); (case side3 => exact zD HO_10); (case side4 => exact (Kd.R_reads' HO_10.out).2.1); rintro e w51 ⟨v376, rfl, ho0, hb⟩; refine ⟨_, rfl, ?_⟩; have HO377 := za (Kd.N_lower (Kd.N_mono (ok' := fun k_ => some k_ ≠ (.slice Ao39 t363.length co39 : Value).ownBlock ∧ some k_ ≠ (.slice Ao49 x10_1.length co49 : Value).ownBlock ∧ some k_ ≠ (.slice Ao13 t346.length co13 : Value).ownBlock ∧ some k_ ≠ (.slice Ao16 t351.length co16 : Value).ownBlock ∧ some k_ ≠ (v372 : Value).ownBlock ∧ k_ ≠ gb350 ∧ k_ ≠ gb355 ∧ k_ ≠ gb360 ∧ k_ ≠ g343) ho0 (fun k_ hk_ => ⟨(Kd.fresh' (Kd.R_lt (by (with_reducible repeat (first | apply Kd.R_alloc | apply Kd.R_drewN | apply Kd.R_drew)); exact HO_9.out)) k_ hk_), (Kd.fresh' (Kd.R_lt (by (with_reducible repeat (first | apply Kd.R_alloc | apply Kd.R_drewN | apply Kd.R_drew)); exact HO_10.out)) k_ hk_), (Kd.fresh' (Kd.R_lt (by (with_reducible repeat (first | apply Kd.R_alloc | apply Kd.R_drewN | apply Kd.R_drew)); exact HO_351002.out)) k_ hk_), (Kd.fresh' (Kd.N_lt (by (with_reducible repeat (first | apply Kd.N_alloc | apply Kd.N_drewN | apply Kd.N_drew)); exact HO_356000.out)) k_ hk_), (Kd.fresh' (Kd.R_lt (by (with_reducible repeat (first | apply Kd.R_alloc | apply Kd.R_drewN | apply Kd.R_drew)); exact HO373.out)) k_ hk_), (Kd.freshB (g := gb350) (o := .cells #[.int .i64 t344, .int .i64 t345, .slice Ao13 t346.length co13] 53 (0, 0)) (by (with_reducible repeat (first | refine blk_drewN ?_ _ | refine blk_drew ?_ | refine blk_alloc ?_ _)); exact BK350.out) k_ hk_), (Kd.freshB (g := gb355) (o := .cells #[.slice Ao16 t351.length co16] 56 (0, 0)) (by (with_reducible repeat (first | refine blk_drewN ?_ _ | refine blk_drew ?_ | refine blk_alloc ?_ _)); exact BK355.out) k_ hk_), (Kd.freshB (g := gb360) (o := .cells #[.int .i64 t356, .int .i64 t357, .int .i64 t358] 23 (0, 0)) (by (with_reducible repeat (first | refine blk_drewN ?_ _ | refine blk_drew ?_ | refine blk_alloc ?_ _)); exact BK360.out) k_ hk_), (IsS68.fresh (by repeat (first | (with_reducible first | exact HI343.out | apply IsS68.alloc | apply IsS68.drewN | apply IsS68.drew | apply IsS68.set_1 | refine IsS68.far ?_ NB343_350.out _ | refine IsS68.far ?_ NB343_355.out _ | refine IsS68.far ?_ NB343_360.out _) | exact HI343.out)) k_ hk_)⟩)) (below_size (zm HB))); replace HO_9 := zR HO_9 hb; replace HO_10 := zR HO_10 hb; replace HO_351002 := zR HO_351002 hb; replace HO_356000 := za (Kd.N_elder' (by (with_reducible repeat (first | apply Kd.N_alloc | apply Kd.N_drewN | apply Kd.N_drew)); exact HO_356000.out) (Kd.N_base ho0) hb); replace HO373 := zR HO373 hb; replace BK350 := zb BK350 hb; replace BK355 := zb BK355 hb; replace BK360 := zb BK360 hb; replace HI343 := za (IsS68.below (by repeat (first | (with_reducible first | exact HI343.out | apply IsS68.alloc | apply IsS68.drewN | apply IsS68.drew | apply IsS68.set_1 | refine IsS68.far ?_ NB343_350.out _ | refine IsS68.far ?_ NB343_355.out _ | refine IsS68.far ?_ NB343_360.out _) | exact HI343.out)) hb); replace HB := zs HB hb; (try clear hb); (try clear hb2); (try clear hk); (try clear hi); (try clear ho0)))
    (try simp only [Act.put, List.setIfInBounds_toArray, List.set_cons_zero, List.set_cons_succ])
    go_cut [79] (fun v79 wc => ∃ (kq : Nat) (x79_37 : Bool), v79 = .bool x79_37 ∧ Aside0 (awardingbodylaw20_BubbleParts.j1 kq t361 t371 t375 x79_37 t344 t345 t346 t351 t356 t357 t358 = some r) ∧ Aside0 (kq ≤ k1) ∧ Aside0 (Kd.R (Kd.int .i64) 3 wc w.heap.size (fun _ => True) v372 t371) ∧ Aside0 (Kd.N (Kd.slice 3 (Kd.int .i64)) 28 wc w.heap.size (fun k_ => some k_ ≠ (v372 : Value).ownBlock ∧ some k_ ≠ ((.slice Ao13 t346.length co13) : Value).ownBlock ∧ some k_ ≠ ((.slice Ao16 t351.length co16) : Value).ownBlock ∧ k_ ≠ gb350 ∧ k_ ≠ gb355 ∧ k_ ≠ gb360) v376 t375) ∧ Aside0 (Kd.R k65 65 wc w.heap.size (fun _ => True) (.slice Ao13 t346.length co13) t346) ∧ Aside0 (Kd.N (Kd.slice 3 (Kd.int .i64)) 28 wc w.heap.size (fun k_ => some k_ ≠ (v372 : Value).ownBlock ∧ some k_ ≠ (v376 : Value).ownBlock ∧ some k_ ≠ ((.slice Ao13 t346.length co13) : Value).ownBlock ∧ k_ ≠ gb350 ∧ k_ ≠ gb355 ∧ k_ ≠ gb360) (.slice Ao16 t351.length co16) t351) ∧ Aside0 (wc.heap[gb350]? = some (.cells #[.int .i64 t344, .int .i64 t345, (.slice Ao13 t346.length co13)] 53 (0, 0))) ∧ Aside0 (wc.heap[gb355]? = some (.cells #[(.slice Ao16 t351.length co16)] 56 (0, 0))) ∧ Aside0 (wc.heap[gb360]? = some (.cells #[.int .i64 t356, .int .i64 t357, .int .i64 t358] 23 (0, 0))) ∧ Aside0 (Below w.heap.size w wc))
    case first =>
     have H := HC38.out
     clear HC38
     by_cases c52 : t354 = 0
     ·rw [if_pos c52] at H
      have c52b0 : (t354 == 0) = true := beq_iff_eq.mpr c52
      have c52b1 : (t354 != 0) = false := bne_eq_false_iff_eq.mpr c52
      clear c52
      (first | rw [c52b0] | (simp only [i64_w, i32_w]; rw [c52b0]) | skip)
      by_cases c53 : t374 = 0
      ·rw [if_pos c53] at H
       have c53b0 : (t374 == 0) = true := beq_iff_eq.mpr c53
       have c53b1 : (t374 != 0) = false := bne_eq_false_iff_eq.mpr c53
       clear c53
       by_cases c54 : t378 = 0
       ·rw [if_pos c54] at H
        have c54b0 : (t378 == 0) = true := beq_iff_eq.mpr c54
        have c54b1 : (t378 != 0) = false := bne_eq_false_iff_eq.mpr c54
        clear c54
        have H' := za H
        clear H
        obtain ⟨Ao55, co55, eo55⟩ := Kd.R_slice HO373.out
        subst eo55
        have hnb56 := NB350_355.out
        have hnc56 := NB355_350.out
        have hnb57 := NB350_360.out
        have hnc57 := NB360_350.out
        have hnb58 := NB350_343.out
        have hnc58 := NB343_350.out
        obtain ⟨hcz59_0, hcz59_1, hcz59_2, hfz59_0, hfz59_1, hfz59_2⟩ := z3 BK350
        go_wp2
        go_meet
        case rel => exact ⟨_, (((t371.length : Int) != (t346.length : Int))), (by first | rfl | (simp; done) | (simp [*]; done)), H', ⟨by have := HK1.out; first | omega | exact Nat.le_refl _⟩, ⟨by (with_reducible repeat (first | apply Kd.R_alloc | apply Kd.R_drewN | apply Kd.R_drew)); exact Kd.R_mono HO373.out (fun _ hk => trivial)⟩, ⟨by (with_reducible repeat (first | apply Kd.N_alloc | apply Kd.N_drewN | apply Kd.N_drew)); exact Kd.N_mono HO377.out (fun _ hk => ⟨hk.2.2.2.2.1, ⟨hk.2.2.1, ⟨hk.2.2.2.1, ⟨hk.2.2.2.2.2.1, ⟨hk.2.2.2.2.2.2.1, hk.2.2.2.2.2.2.2.1⟩⟩⟩⟩⟩)⟩, ⟨by (with_reducible repeat (first | apply Kd.R_alloc | apply Kd.R_drewN | apply Kd.R_drew)); exact HO_351002.out⟩, ⟨by (with_reducible repeat (first | apply Kd.N_alloc | apply Kd.N_drewN | apply Kd.N_drew)); exact Kd.N_mono HO_356000.out (fun _ hk => ⟨hk.1.2, ⟨hk.2, ⟨hk.1.1.2.2.1, ⟨hk.1.1.2.2.2.1, ⟨hk.1.1.2.2.2.2.1, hk.1.1.2.2.2.2.2.1⟩⟩⟩⟩⟩)⟩, ⟨by (with_reducible repeat (first | refine blk_drewN ?_ _ | refine blk_drew ?_ | refine blk_alloc ?_ _)); exact BK350.out⟩, ⟨by (with_reducible repeat (first | refine blk_drewN ?_ _ | refine blk_drew ?_ | refine blk_alloc ?_ _)); exact BK355.out⟩, ⟨by (with_reducible repeat (first | refine blk_drewN ?_ _ | refine blk_drew ?_ | refine blk_alloc ?_ _)); exact BK360.out⟩, ⟨zm HB⟩⟩
       ·rw [if_neg c54] at H
        have c54b0 : (t378 == 0) = false := beq_eq_false_iff_ne.mpr c54
        have c54b1 : (t378 != 0) = true := bne_iff_ne.mpr c54
        have H' := za H
        clear H
        go_wp2
        go_meet
        case rel => exact ⟨_, (true), (by first | rfl | (simp; done) | (simp [*]; done)), H', ⟨by have := HK1.out; first | omega | exact Nat.le_refl _⟩, ⟨by (with_reducible repeat (first | apply Kd.R_alloc | apply Kd.R_drewN | apply Kd.R_drew)); exact Kd.R_mono HO373.out (fun _ hk => trivial)⟩, ⟨by (with_reducible repeat (first | apply Kd.N_alloc | apply Kd.N_drewN | apply Kd.N_drew)); exact Kd.N_mono HO377.out (fun _ hk => ⟨hk.2.2.2.2.1, ⟨hk.2.2.1, ⟨hk.2.2.2.1, ⟨hk.2.2.2.2.2.1, ⟨hk.2.2.2.2.2.2.1, hk.2.2.2.2.2.2.2.1⟩⟩⟩⟩⟩)⟩, ⟨by (with_reducible repeat (first | apply Kd.R_alloc | apply Kd.R_drewN | apply Kd.R_drew)); exact HO_351002.out⟩, ⟨by (with_reducible repeat (first | apply Kd.N_alloc | apply Kd.N_drewN | apply Kd.N_drew)); exact Kd.N_mono HO_356000.out (fun _ hk => ⟨hk.1.2, ⟨hk.2, ⟨hk.1.1.2.2.1, ⟨hk.1.1.2.2.2.1, ⟨hk.1.1.2.2.2.2.1, hk.1.1.2.2.2.2.2.1⟩⟩⟩⟩⟩)⟩, ⟨by (with_reducible repeat (first | refine blk_drewN ?_ _ | refine blk_drew ?_ | refine blk_alloc ?_ _)); exact BK350.out⟩, ⟨by (with_reducible repeat (first | refine blk_drewN ?_ _ | refine blk_drew ?_ | refine blk_alloc ?_ _)); exact BK355.out⟩, ⟨by (with_reducible repeat (first | refine blk_drewN ?_ _ | refine blk_drew ?_ | refine blk_alloc ?_ _)); exact BK360.out⟩, ⟨zm HB⟩⟩
      ·rw [if_neg c53] at H
       have c53b0 : (t374 == 0) = false := beq_eq_false_iff_ne.mpr c53
       have c53b1 : (t374 != 0) = true := bne_iff_ne.mpr c53
       have H' := za H
       clear H
       go_wp2
       go_meet
       case rel => exact ⟨_, (true), (by first | rfl | (simp; done) | (simp [*]; done)), H', ⟨by have := HK1.out; first | omega | exact Nat.le_refl _⟩, ⟨by (with_reducible repeat (first | apply Kd.R_alloc | apply Kd.R_drewN | apply Kd.R_drew)); exact Kd.R_mono HO373.out (fun _ hk => trivial)⟩, ⟨by (with_reducible repeat (first | apply Kd.N_alloc | apply Kd.N_drewN | apply Kd.N_drew)); exact Kd.N_mono HO377.out (fun _ hk => ⟨hk.2.2.2.2.1, ⟨hk.2.2.1, ⟨hk.2.2.2.1, ⟨hk.2.2.2.2.2.1, ⟨hk.2.2.2.2.2.2.1, hk.2.2.2.2.2.2.2.1⟩⟩⟩⟩⟩)⟩, ⟨by (with_reducible repeat (first | apply Kd.R_alloc | apply Kd.R_drewN | apply Kd.R_drew)); exact HO_351002.out⟩, ⟨by (with_reducible repeat (first | apply Kd.N_alloc | apply Kd.N_drewN | apply Kd.N_drew)); exact Kd.N_mono HO_356000.out (fun _ hk => ⟨hk.1.2, ⟨hk.2, ⟨hk.1.1.2.2.1, ⟨hk.1.1.2.2.2.1, ⟨hk.1.1.2.2.2.2.1, hk.1.1.2.2.2.2.2.1⟩⟩⟩⟩⟩)⟩, ⟨by (with_reducible repeat (first | refine blk_drewN ?_ _ | refine blk_drew ?_ | refine blk_alloc ?_ _)); exact BK350.out⟩, ⟨by (with_reducible repeat (first | refine blk_drewN ?_ _ | refine blk_drew ?_ | refine blk_alloc ?_ _)); exact BK355.out⟩, ⟨by (with_reducible repeat (first | refine blk_drewN ?_ _ | refine blk_drew ?_ | refine blk_alloc ?_ _)); exact BK360.out⟩, ⟨zm HB⟩⟩
     ·rw [if_neg c52] at H
      have c52b0 : (t354 == 0) = false := beq_eq_false_iff_ne.mpr c52
      have c52b1 : (t354 != 0) = true := bne_iff_ne.mpr c52
      (first | rw [c52b0] | (simp only [i64_w, i32_w]; rw [c52b0]) | skip)
      have H' := za H
      clear H
      go_wp2
      go_meet
      case rel => exact ⟨_, (true), (by first | rfl | (simp; done) | (simp [*]; done)), H', ⟨by have := HK1.out; first | omega | exact Nat.le_refl _⟩, ⟨by (with_reducible repeat (first | apply Kd.R_alloc | apply Kd.R_drewN | apply Kd.R_drew)); exact Kd.R_mono HO373.out (fun _ hk => trivial)⟩, ⟨by (with_reducible repeat (first | apply Kd.N_alloc | apply Kd.N_drewN | apply Kd.N_drew)); exact Kd.N_mono HO377.out (fun _ hk => ⟨hk.2.2.2.2.1, ⟨hk.2.2.1, ⟨hk.2.2.2.1, ⟨hk.2.2.2.2.2.1, ⟨hk.2.2.2.2.2.2.1, hk.2.2.2.2.2.2.2.1⟩⟩⟩⟩⟩)⟩, ⟨by (with_reducible repeat (first | apply Kd.R_alloc | apply Kd.R_drewN | apply Kd.R_drew)); exact HO_351002.out⟩, ⟨by (with_reducible repeat (first | apply Kd.N_alloc | apply Kd.N_drewN | apply Kd.N_drew)); exact Kd.N_mono HO_356000.out (fun _ hk => ⟨hk.1.2, ⟨hk.2, ⟨hk.1.1.2.2.1, ⟨hk.1.1.2.2.2.1, ⟨hk.1.1.2.2.2.2.1, hk.1.1.2.2.2.2.2.1⟩⟩⟩⟩⟩)⟩, ⟨by (with_reducible repeat (first | refine blk_drewN ?_ _ | refine blk_drew ?_ | refine blk_alloc ?_ _)); exact BK350.out⟩, ⟨by (with_reducible repeat (first | refine blk_drewN ?_ _ | refine blk_drew ?_ | refine blk_alloc ?_ _)); exact BK355.out⟩, ⟨by (with_reducible repeat (first | refine blk_drewN ?_ _ | refine blk_drew ?_ | refine blk_alloc ?_ _)); exact BK360.out⟩, ⟨zm HB⟩⟩
    case rest =>
     clear HC38
     try clear c1
     try clear c2
     try clear p2
     try clear c3
     try clear c4
     try clear c5
     try clear p6
     try clear c10
     try clear c11
     try clear c15
     try clear c16
     try clear c17
     try clear c18
     try clear c20
     try clear c22
     try clear c23
     try clear c24
     try clear c25
     try clear c30
     try clear c30b0
     try clear c32
     try clear c34
     try clear c35
     try clear c36
     try clear c40
     try clear c41
     try clear c42
     try clear c44
     try clear c45
     try clear c47
     try clear c52
     try clear c52b0
     try clear c52b1
     try clear c53
     try clear c53b0
     try clear c53b1
     try clear c54
     try clear c54b0
     try clear c54b1
     try clear c56
     try clear c57
     try clear c58
     try clear hcz12_0
     try clear hcz12_1
     try clear hcz12_2
     try clear hcz19_0
     try clear hcz25_0
     try clear hcz25_1
     try clear hcz25_2
     try clear hcz27_0
     try clear hcz27_1
     try clear hcz27_2
     try clear hcz28_0
     try clear hcz43_0
     try clear hcz43_1
     try clear hcz43_2
     try clear hcz46_0
     try clear hcz48_0
     try clear hcz48_1
     try clear hcz48_2
     try clear hcz59_0
     try clear hcz59_1
     try clear hcz59_2
     try clear hfz12_0
     try clear hfz12_1
     try clear hfz12_2
     try clear hfz19_0
     try clear hfz25_0
     try clear hfz25_1
     try clear hfz25_2
     try clear hfz27_0
     try clear hfz27_1
     try clear hfz27_2
     try clear hfz28_0
     try clear hfz43_0
     try clear hfz43_1
     try clear hfz43_2
     try clear hfz46_0
     try clear hfz48_0
     try clear hfz48_1
     try clear hfz48_2
     try clear hfz59_0
     try clear hfz59_1
     try clear hfz59_2
     try clear p2
     obtain ⟨kq, x79_37, rfl, HA, HJ37, HO_12, HO_14, HO_351002, HO_356000, BK350, BK355, BK360, HB⟩ := hcut
     cases kq with
     | zero => exact absurd HA.out (by simp [awardingbodylaw20_BubbleParts.j1])
     | succ kj37 =>
      have H := HA.out
      clear HA
      simp only [awardingbodylaw20_BubbleParts.j1] at H
      by_cases c60 : x79_37 = true
      ·subst c60
       have H1 : (none) = some r := by rw [if_pos rfl] at H; exact H
       clear H
       have H := H1
       clear H1
       exact absurd H (by simp)
      ·replace c60 := Bool.eq_false_iff.mpr c60
       subst c60
       have H1 : (awardingbodylaw20_BubbleParts.l1 kj37 t361 t371 t375 0 0 t344 t345 t346 t351 t356 t357 t358) = some r := by rw [if_neg (show ¬ (false = true) by decide)] at H; exact H
       clear H
       have H := H1
       clear H1
       have H' := za H
       clear H
       go_wp2
       go_loopg [16, 17] kj37 (fun kq v16 v17 w' => ∃ (x16_3 : Int) (x17_3 : Int), v16 = .int .i64 x16_3 ∧ v17 = .int .i64 x17_3 ∧ Aside0 (awardingbodylaw20_BubbleParts.l1 kq t361 t371 t375 x16_3 x17_3 t344 t345 t346 t351 t356 t357 t358 = some r) ∧ Aside0 (kq ≤ kj37) ∧ Aside0 (Kd.R (Kd.int .i64) 3 w' w.heap.size (fun _ => True) v372 t371) ∧ Aside0 (Kd.N (Kd.slice 3 (Kd.int .i64)) 28 w' w.heap.size (fun k_ => some k_ ≠ (v372 : Value).ownBlock ∧ some k_ ≠ ((.slice Ao13 t346.length co13) : Value).ownBlock ∧ some k_ ≠ ((.slice Ao16 t351.length co16) : Value).ownBlock ∧ k_ ≠ gb350 ∧ k_ ≠ gb355 ∧ k_ ≠ gb360) v376 t375) ∧ Aside0 (Kd.R k65 65 w' w.heap.size (fun _ => True) (.slice Ao13 t346.length co13) t346) ∧ Aside0 (Kd.N (Kd.slice 3 (Kd.int .i64)) 28 w' w.heap.size (fun k_ => some k_ ≠ (v372 : Value).ownBlock ∧ some k_ ≠ (v376 : Value).ownBlock ∧ some k_ ≠ ((.slice Ao13 t346.length co13) : Value).ownBlock ∧ k_ ≠ gb350 ∧ k_ ≠ gb355 ∧ k_ ≠ gb360) (.slice Ao16 t351.length co16) t351) ∧ Aside0 (w'.heap[gb350]? = some (.cells #[.int .i64 t344, .int .i64 t345, (.slice Ao13 t346.length co13)] 53 (0, 0))) ∧ Aside0 (w'.heap[gb355]? = some (.cells #[(.slice Ao16 t351.length co16)] 56 (0, 0))) ∧ Aside0 (w'.heap[gb360]? = some (.cells #[.int .i64 t356, .int .i64 t357, .int .i64 t358] 23 (0, 0))) ∧ Aside0 (Below w.heap.size w w'))
       case atStart => exact ⟨(0), (0), (by first | rfl | (simp; done) | (simp [*]; done)), (by first | rfl | (simp; done) | (simp [*]; done)), H', ⟨Nat.le_refl _⟩, ⟨by (with_reducible repeat (first | apply Kd.R_alloc | apply Kd.R_drewN | apply Kd.R_drew)); exact HO_12.out⟩, ⟨by (with_reducible repeat (first | apply Kd.N_alloc | apply Kd.N_drewN | apply Kd.N_drew)); exact HO_14.out⟩, ⟨by (with_reducible repeat (first | apply Kd.R_alloc | apply Kd.R_drewN | apply Kd.R_drew)); exact HO_351002.out⟩, ⟨by (with_reducible repeat (first | apply Kd.N_alloc | apply Kd.N_drewN | apply Kd.N_drew)); exact HO_356000.out⟩, ⟨by (with_reducible repeat (first | refine blk_drewN ?_ _ | refine blk_drew ?_ | refine blk_alloc ?_ _)); exact BK350.out⟩, ⟨by (with_reducible repeat (first | refine blk_drewN ?_ _ | refine blk_drew ?_ | refine blk_alloc ?_ _)); exact BK355.out⟩, ⟨by (with_reducible repeat (first | refine blk_drewN ?_ _ | refine blk_drew ?_ | refine blk_alloc ?_ _)); exact BK360.out⟩, ⟨zm HB⟩⟩
       case round =>
        clear H'
        try clear c1
        try clear c2
        try clear p2
        try clear c3
        try clear c4
        try clear c5
        try clear c6
        try clear p6
        try clear c10
        try clear c11
        try clear c15
        try clear c16
        try clear c17
        try clear c18
        try clear c20
        try clear c22
        try clear c23
        try clear c24
        try clear c25
        try clear c30
        try clear c30b0
        try clear c32
        try clear c34
        try clear c35
        try clear c36
        try clear c40
        try clear c41
        try clear c42
        try clear c44
        try clear c45
        try clear c47
        try clear c52
        try clear c52b0
        try clear c52b1
        try clear c53
        try clear c53b0
        try clear c53b1
        try clear c54
        try clear c54b0
        try clear c54b1
        try clear c56
        try clear c57
        try clear c58
        try clear c60
        try clear hcz12_0
        try clear hcz12_1
        try clear hcz12_2
        try clear hcz19_0
        try clear hcz25_0
        try clear hcz25_1
        try clear hcz25_2
        try clear hcz27_0
        try clear hcz27_1
        try clear hcz27_2
        try clear hcz28_0
        try clear hcz43_0
        try clear hcz43_1
        try clear hcz43_2
        try clear hcz46_0
        try clear hcz48_0
        try clear hcz48_1
        try clear hcz48_2
        try clear hcz59_0
        try clear hcz59_1
        try clear hcz59_2
        try clear hfz12_0
        try clear hfz12_1
        try clear hfz12_2
        try clear hfz19_0
        try clear hfz25_0
        try clear hfz25_1
        try clear hfz25_2
        try clear hfz27_0
        try clear hfz27_1
        try clear hfz27_2
        try clear hfz28_0
        try clear hfz43_0
        try clear hfz43_1
        try clear hfz43_2
        try clear hfz46_0
        try clear hfz48_0
        try clear hfz48_1
        try clear hfz48_2
        try clear hfz59_0
        try clear hfz59_1
        try clear hfz59_2
        try clear p2
        try clear p6
        obtain ⟨x16_3, x17_3, rfl, rfl, HA, HK3, HO_12, HO_14, HO_351002, HO_356000, BK350, BK355, BK360, HB⟩ := hrel
        cases gk with
        | zero => exact absurd HA.out (by simp [awardingbodylaw20_BubbleParts.l1])
        | succ k3 =>
         have H := HA.out
         clear HA
         simp only [awardingbodylaw20_BubbleParts.l1] at H
         by_cases c61 : x17_3 < (t346.length : Int)
         ·rw [if_pos c61] at H
          have c61b0 : decide (x17_3 < (t346.length : Int)) = true := decide_eq_true c61
          clear c61
          have HC62 := za H
          clear H
          have hnb63 := NB350_355.out
          have hnc63 := NB355_350.out
          have hnb64 := NB350_360.out
          have hnc64 := NB360_350.out
          obtain ⟨hcz65_0, hcz65_1, hcz65_2, hfz65_0, hfz65_1, hfz65_2⟩ := z3 BK350
          go_upto_region 21 with (fail)
          go_cut [100] (fun v100 wc => ∃ (kq : Nat) (x100_61 : Bool), v100 = .bool x100_61 ∧ Aside0 (awardingbodylaw20_BubbleParts.j3 kq t361 t371 t375 x16_3 x17_3 (-1) x100_61 t344 t345 t346 t351 t356 t357 t358 = some r) ∧ Aside0 (kq ≤ k3) ∧ Aside0 (Kd.R (Kd.int .i64) 3 wc w.heap.size (fun _ => True) v372 t371) ∧ Aside0 (Kd.N (Kd.slice 3 (Kd.int .i64)) 28 wc w.heap.size (fun k_ => some k_ ≠ (v372 : Value).ownBlock ∧ some k_ ≠ ((.slice Ao13 t346.length co13) : Value).ownBlock ∧ some k_ ≠ ((.slice Ao16 t351.length co16) : Value).ownBlock ∧ k_ ≠ gb350 ∧ k_ ≠ gb355 ∧ k_ ≠ gb360) v376 t375) ∧ Aside0 (Kd.R k65 65 wc w.heap.size (fun _ => True) (.slice Ao13 t346.length co13) t346) ∧ Aside0 (Kd.N (Kd.slice 3 (Kd.int .i64)) 28 wc w.heap.size (fun k_ => some k_ ≠ (v372 : Value).ownBlock ∧ some k_ ≠ (v376 : Value).ownBlock ∧ some k_ ≠ ((.slice Ao13 t346.length co13) : Value).ownBlock ∧ k_ ≠ gb350 ∧ k_ ≠ gb355 ∧ k_ ≠ gb360) (.slice Ao16 t351.length co16) t351) ∧ Aside0 (wc.heap[gb350]? = some (.cells #[.int .i64 t344, .int .i64 t345, (.slice Ao13 t346.length co13)] 53 (0, 0))) ∧ Aside0 (wc.heap[gb355]? = some (.cells #[(.slice Ao16 t351.length co16)] 56 (0, 0))) ∧ Aside0 (wc.heap[gb360]? = some (.cells #[.int .i64 t356, .int .i64 t357, .int .i64 t358] 23 (0, 0))) ∧ Aside0 (Below w.heap.size w wc))
          case first =>
           have H := HC62.out
           clear HC62
           by_cases c66 : 0 ≤ x17_3
           ·rw [if_pos c66] at H
            have c66b0 : decide (0 ≤ x17_3) = true := decide_eq_true c66
            clear c66
            (first | rw [c66b0] | (simp only [i64_w, i32_w]; rw [c66b0]) | skip)
            by_cases c67 : ((rd_T65 t346 x17_3).f0) = 2
            ·rw [if_pos c67] at H
             have c67b0 : (((rd_T65 t346 x17_3).f0) == 2) = true := beq_iff_eq.mpr c67
             have c67b1 : (((rd_T65 t346 x17_3).f0) != 2) = false := bne_eq_false_iff_eq.mpr c67
             clear c67
             replace H := Option.bind_eq_some_iff.mp H
             obtain ⟨t381, A680, H⟩ := H
             replace H : (awardingbodylaw20_BubbleParts.j3 k3 t361 t371 t375 x16_3 x17_3 (-1) (t381 == t361) t344 t345 t346 t351 t356 t357 t358) = some r := H
             have A68 := za A680
             clear A680
             have H' := za H
             clear H
             have hnb69 := NB350_355.out
             have hnc69 := NB355_350.out
             have hnb70 := NB350_360.out
             have hnc70 := NB360_350.out
             obtain ⟨hcz71_0, hcz71_1, hcz71_2, hfz71_0, hfz71_1, hfz71_2⟩ := z3 BK350
             have p380 : 0 ≤ (x17_3 : Int) := of_decide_eq_true (by first | (with_reducible assumption) | assumption)
             have q380 : x17_3 < (t346.length : Int) := of_decide_eq_true (by first | (with_reducible assumption) | assumption)
             obtain ⟨ad380, e380, hx380_0, hx380_1, hx380_2, hx380_3, hx380_4, hx380_5⟩ := at_T65 (Kd.R_reads' HO_351002.out).2.2 x17_3 p380 q380
             cases e380
             replace p380 := eq_true p380
             replace q380 := eq_true q380
             have hnb72 := NB355_360.out
             have hnc72 := NB360_355.out
             obtain ⟨hcz73_0, hfz73_0⟩ := z1 BK355
             go_wp2_with (first | (go_at_call 37; (with_reducible refine (booklet_PageOf.calls k3 _ _ t351 x17_3 t381 _ ?side1 ?side2 A68.out).mono ?_); (case side1 => repeat (first | exact (Kd.N_reads' HO_356000.out).2.2 | (with_reducible refine Kd.C_alloc ?_ _) | (with_reducible refine Kd.C_drewN ?_ _) | (with_reducible refine Kd.C_drew ?_))); (case side2 => exact (Kd.N_reads' HO_356000.out).2.1); rintro e w74 ⟨rfl, hb⟩; replace HO_12 := zR HO_12 hb; replace HO_14 := za (Kd.N_below (by (with_reducible repeat (first | apply Kd.N_alloc | apply Kd.N_drewN | apply Kd.N_drew)); exact HO_14.out) hb); replace HO_351002 := zR HO_351002 hb; replace HO_356000 := za (Kd.N_below (by (with_reducible repeat (first | apply Kd.N_alloc | apply Kd.N_drewN | apply Kd.N_drew)); exact HO_356000.out) hb); replace BK350 := zb BK350 hb; replace BK355 := zb BK355 hb; replace BK360 := zb BK360 hb; replace HB := zs HB hb; (try clear hb); (try clear hb2); (try clear hk); (try clear hi)))
             go_meet
             case rel => exact ⟨_, ((t381 == t361)), (by first | rfl | (simp; done) | (simp [*]; done)), H', ⟨by have := HK1.out; have := HJ37.out; have := HK3.out; first | omega | exact Nat.le_refl _⟩, ⟨by (with_reducible repeat (first | apply Kd.R_alloc | apply Kd.R_drewN | apply Kd.R_drew)); exact HO_12.out⟩, ⟨by (with_reducible repeat (first | apply Kd.N_alloc | apply Kd.N_drewN | apply Kd.N_drew)); exact HO_14.out⟩, ⟨by (with_reducible repeat (first | apply Kd.R_alloc | apply Kd.R_drewN | apply Kd.R_drew)); exact HO_351002.out⟩, ⟨by (with_reducible repeat (first | apply Kd.N_alloc | apply Kd.N_drewN | apply Kd.N_drew)); exact HO_356000.out⟩, ⟨by (with_reducible repeat (first | refine blk_drewN ?_ _ | refine blk_drew ?_ | refine blk_alloc ?_ _)); exact BK350.out⟩, ⟨by (with_reducible repeat (first | refine blk_drewN ?_ _ | refine blk_drew ?_ | refine blk_alloc ?_ _)); exact BK355.out⟩, ⟨by (with_reducible repeat (first | refine blk_drewN ?_ _ | refine blk_drew ?_ | refine blk_alloc ?_ _)); exact BK360.out⟩, ⟨zm HB⟩⟩
            ·rw [if_neg c67] at H
             have c67b0 : (((rd_T65 t346 x17_3).f0) == 2) = false := beq_eq_false_iff_ne.mpr c67
             have c67b1 : (((rd_T65 t346 x17_3).f0) != 2) = true := bne_iff_ne.mpr c67
             have H' := za H
             clear H
             have hnb75 := NB350_355.out
             have hnc75 := NB355_350.out
             have hnb76 := NB350_360.out
             have hnc76 := NB360_350.out
             obtain ⟨hcz77_0, hcz77_1, hcz77_2, hfz77_0, hfz77_1, hfz77_2⟩ := z3 BK350
             have p380 : 0 ≤ (x17_3 : Int) := of_decide_eq_true (by first | (with_reducible assumption) | assumption)
             have q380 : x17_3 < (t346.length : Int) := of_decide_eq_true (by first | (with_reducible assumption) | assumption)
             obtain ⟨ad380, e380, hx380_0, hx380_1, hx380_2, hx380_3, hx380_4, hx380_5⟩ := at_T65 (Kd.R_reads' HO_351002.out).2.2 x17_3 p380 q380
             cases e380
             replace p380 := eq_true p380
             replace q380 := eq_true q380
             go_wp2
             go_meet
             case rel => exact ⟨_, (false), (by first | rfl | (simp; done) | (simp [*]; done)), H', ⟨by have := HK1.out; have := HJ37.out; have := HK3.out; first | omega | exact Nat.le_refl _⟩, ⟨by (with_reducible repeat (first | apply Kd.R_alloc | apply Kd.R_drewN | apply Kd.R_drew)); exact HO_12.out⟩, ⟨by (with_reducible repeat (first | apply Kd.N_alloc | apply Kd.N_drewN | apply Kd.N_drew)); exact HO_14.out⟩, ⟨by (with_reducible repeat (first | apply Kd.R_alloc | apply Kd.R_drewN | apply Kd.R_drew)); exact HO_351002.out⟩, ⟨by (with_reducible repeat (first | apply Kd.N_alloc | apply Kd.N_drewN | apply Kd.N_drew)); exact HO_356000.out⟩, ⟨by (with_reducible repeat (first | refine blk_drewN ?_ _ | refine blk_drew ?_ | refine blk_alloc ?_ _)); exact BK350.out⟩, ⟨by (with_reducible repeat (first | refine blk_drewN ?_ _ | refine blk_drew ?_ | refine blk_alloc ?_ _)); exact BK355.out⟩, ⟨by (with_reducible repeat (first | refine blk_drewN ?_ _ | refine blk_drew ?_ | refine blk_alloc ?_ _)); exact BK360.out⟩, ⟨zm HB⟩⟩
           ·rw [if_neg c66] at H
            exact absurd H (by simp)
          case rest =>
           clear HC62
           try clear c1
           try clear c2
           try clear p2
           try clear c3
           try clear p3
           try clear q3
           try clear hx3
           try clear c4
           try clear c5
           try clear c6
           try clear p6
           try clear c7
           try clear c10
           try clear c11
           try clear c15
           try clear c16
           try clear c17
           try clear c18
           try clear c20
           try clear c22
           try clear c23
           try clear c24
           try clear c25
           try clear c30
           try clear c30b0
           try clear c32
           try clear c34
           try clear c35
           try clear c36
           try clear p38
           try clear q38
           try clear hx38
           try clear c40
           try clear c41
           try clear c42
           try clear c44
           try clear c45
           try clear c47
           try clear c52
           try clear c52b0
           try clear c52b1
           try clear c53
           try clear c53b0
           try clear c53b1
           try clear c54
           try clear c54b0
           try clear c54b1
           try clear c56
           try clear c57
           try clear c58
           try clear c60
           try clear c61
           try clear c61b0
           try clear c63
           try clear c64
           try clear p64
           try clear c66
           try clear c66b0
           try clear c67
           try clear c67b0
           try clear c67b1
           try clear c69
           try clear c70
           try clear c72
           try clear c75
           try clear c76
           try clear hcz12_0
           try clear hcz12_1
           try clear hcz12_2
           try clear hcz19_0
           try clear hcz25_0
           try clear hcz25_1
           try clear hcz25_2
           try clear hcz27_0
           try clear hcz27_1
           try clear hcz27_2
           try clear hcz28_0
           try clear hcz43_0
           try clear hcz43_1
           try clear hcz43_2
           try clear hcz46_0
           try clear hcz48_0
           try clear hcz48_1
           try clear hcz48_2
           try clear hcz59_0
           try clear hcz59_1
           try clear hcz59_2
           try clear hcz65_0
           try clear hcz65_1
           try clear hcz65_2
           try clear hcz71_0
           try clear hcz71_1
           try clear hcz71_2
           try clear hcz73_0
           try clear hcz77_0
           try clear hcz77_1
           try clear hcz77_2
           try clear hfz12_0
           try clear hfz12_1
           try clear hfz12_2
           try clear hfz19_0
           try clear hfz25_0
           try clear hfz25_1
           try clear hfz25_2
           try clear hfz27_0
           try clear hfz27_1
           try clear hfz27_2
           try clear hfz28_0
           try clear hfz43_0
           try clear hfz43_1
           try clear hfz43_2
           try clear hfz46_0
           try clear hfz48_0
           try clear hfz48_1
           try clear hfz48_2
           try clear hfz59_0
           try clear hfz59_1
           try clear hfz59_2
           try clear hfz65_0
           try clear hfz65_1
           try clear hfz65_2
           try clear hfz71_0
           try clear hfz71_1
           try clear hfz71_2
           try clear hfz73_0
           try clear hfz77_0
           try clear hfz77_1
           try clear hfz77_2
           try clear hx380_0
           try clear hx380_1
           try clear hx380_2
           try clear hx380_3
           try clear hx380_4
           try clear hx380_5
           try clear p2
           try clear p380
           try clear p6
           try clear q380
           obtain ⟨kq, x100_61, rfl, HA, HJ61, HO_12, HO_14, HO_351002, HO_356000, BK350, BK355, BK360, HB⟩ := hcut
           cases kq with
           | zero => exact absurd HA.out (by simp [awardingbodylaw20_BubbleParts.j3])
           | succ kj61 =>
            have H := HA.out
            clear HA
            simp only [awardingbodylaw20_BubbleParts.j3] at H
            by_cases c78 : x100_61 = true
            ·subst c78
             have H1 : (if x16_3 ≥ (t375.length : Int) then (none) else (if 0 ≤ x16_3 then (if x16_3 < (t375.length : Int) then ((bubble_Judge.f kj61 t356 t357 t358 (rd_L2 t375 x16_3)).bind fun bt383 => (if 0 ≤ x17_3 then (if x17_3 < (t371.length : Int) then (if (rd t371 x17_3) = bt383.1 then (awardingbodylaw20_BubbleParts.l1 kj61 t361 t371 t375 (wrap64 (x16_3 + 1)) (wrap64 (x17_3 + 1)) t344 t345 t346 t351 t356 t357 t358) else (none)) else (none)) else (none))) else (none)) else (none))) = some r := by rw [if_pos rfl] at H; exact H
             clear H
             have H := H1
             clear H1
             by_cases c79 : x16_3 ≥ (t375.length : Int)
             ·rw [if_pos c79] at H
              exact absurd H (by simp)
             ·rw [if_neg c79] at H
              have c79b0 : decide ((t375.length : Int) ≤ x16_3) = false := decide_eq_false c79
              clear c79
              by_cases c80 : 0 ≤ x16_3
              ·rw [if_pos c80] at H
               have c80b0 : decide (0 ≤ x16_3) = true := decide_eq_true c80
               clear c80
               by_cases c81 : x16_3 < (t375.length : Int)
               ·rw [if_pos c81] at H
                have c81b0 : decide (x16_3 < (t375.length : Int)) = true := decide_eq_true c81
                clear c81
                replace H := Option.bind_eq_some_iff.mp H
                obtain ⟨⟨t383, t384⟩, A820, H⟩ := H
                replace H : (if 0 ≤ x17_3 then (if x17_3 < (t371.length : Int) then (if (rd t371 x17_3) = t383 then (awardingbodylaw20_BubbleParts.l1 kj61 t361 t371 t375 (wrap64 (x16_3 + 1)) (wrap64 (x17_3 + 1)) t344 t345 t346 t351 t356 t357 t358) else (none)) else (none)) else (none)) = some r := H
                have A82 := za A820
                clear A820
                by_cases c83 : 0 ≤ x17_3
                ·rw [if_pos c83] at H
                 have c83b0 : decide (0 ≤ x17_3) = true := decide_eq_true c83
                 clear c83
                 by_cases c84 : x17_3 < (t371.length : Int)
                 ·rw [if_pos c84] at H
                  have c84b0 : decide (x17_3 < (t371.length : Int)) = true := decide_eq_true c84
                  clear c84
                  by_cases c85 : (rd t371 x17_3) = t383
                  ·rw [if_pos c85] at H
                   have c85b0 : ((rd t371 x17_3) == t383) = true := beq_iff_eq.mpr c85
                   have c85b1 : ((rd t371 x17_3) != t383) = false := bne_eq_false_iff_eq.mpr c85
                   clear c85
                   have H' := za H
                   clear H
                   obtain ⟨Ao86, co86, eo86⟩ := Kd.N_slice HO_14.out
                   subst eo86
                   try go_wp2
                   replace HO_12 := za (Kd.R_drew HO_12.out)
                   replace HO_14 := za (Kd.N_drew HO_14.out)
                   replace HO_351002 := za (Kd.R_drew HO_351002.out)
                   replace HO_356000 := za (Kd.N_drew HO_356000.out)
                   replace BK350 := za (blk_drew BK350.out)
                   replace BK355 := za (blk_drew BK355.out)
                   replace BK360 := za (blk_drew BK360.out)
                   replace HB := za (below_drew1 HB.out)
                   have p382 : 0 ≤ (x16_3 : Int) := of_decide_eq_true (by first | (with_reducible assumption) | assumption)
                   have q382 : x16_3 < (t375.length : Int) := of_decide_eq_true (by first | (with_reducible assumption) | assumption)
                   obtain ⟨ad382, A382_0, c382_0, e382, hx382_0, hl382_0, hi382_0⟩ := at_L2 (Kd.N_reads' HO_14.out).2.2 x16_3 p382 q382
                   cases e382
                   obtain ⟨ce382, hce382, hMe382, hcc382⟩ := Kd.N_get HO_14.out [] x16_3 p382 (by first | exact q382 | exact of_decide_eq_true (by first | (with_reducible assumption) | assumption) | (have e_ := (Kd.N_reads' HO_14.out).1; omega))
                   obtain ⟨ua382_0, uc382_0, rfl, ul382_0, ge382_0⟩ := Kd.FK_slice_open hMe382
                   have hv382_0 := hcc382 0 _ rfl
                   rw [Nat.add_zero, show ((Kd.slice 3 (Kd.int .i64))).sz = 1 from rfl, Nat.mul_one] at hv382_0
                   replace hv382_0 := Option.some.inj (hv382_0.symm.trans hx382_0)
                   injection hv382_0 with hva_ hvn_ hvc_
                   rw [hva_] at ge382_0
                   rw [hvc_] at ul382_0
                   have HL382_0 := za (show Kd.V (Kd.int .i64) 3 _ w.heap.size _ _ (rd_L2 t375 x16_3) from Kd.V_mk ul382_0 ge382_0)
                   clear hva_ hvn_ hvc_ ge382_0 ul382_0 hcc382 hce382
                   have HR382_0 := za hi382_0
                   have HC382_0 := za hl382_0
                   clear hi382_0 hl382_0
                   replace p382 := eq_true p382
                   replace q382 := eq_true q382
                   refine start_ (n := 10) (S := fun w' => w'.cell? ⟨gb360, 0, none⟩ = some (.int .i64 t356) ∧ w'.cell? ⟨gb360, 1, none⟩ = some (.int .i64 t357) ∧ w'.cell? ⟨gb360, 2, none⟩ = some (.int .i64 t358) ∧ w'.cell? (ad382.add (x16_3).toNat) = some (.slice A382_0 (rd_L2 t375 x16_3).length c382_0)) (ds := []) #[false, false, false, false, false, false, false, false, false, false] (by kernel_rfl) rfl rfl ⟨(blk_cell BK360.out 0).trans rfl, (blk_cell BK360.out 1).trans rfl, (blk_cell BK360.out 2).trans rfl, hx382_0⟩ (fun hHeld => ?_); refine with_tabW awardingbodylaw20_BubbleParts.tab24 awardingbodylaw20_BubbleParts.bits24 (fun HT_ HW_ => ?_)
                   generalize wc.drew = w87 at HO_12 HO_14 HO_351002 HO_356000 BK350 BK355 BK360 HB HL382_0 HR382_0 hx382_0 hHeld ⊢
                   refine pure_ (i := 1) (N := some 107) (v := ?_) (a' := ?_) #[false, true, false, false, false, false, false, false, false, false] rfl rfl (any_of HT_.out (by kernel_rfl)) (fun _ _ _ h => h) (Or.inl ⟨by rfl, ?_⟩) ?_ ?_
                   rotate_left
                   ·intro w'
                    go_simp
                    with_reducible rfl
                   rotate_left
                   ·simp only [Act.put, List.setIfInBounds_toArray, List.set_cons_zero, List.set_cons_succ, i64_w, i32_w]
                    rfl
                   refine pure_ (i := 2) (N := some 108) (v := ?_) (a' := ?_) #[false, true, true, false, false, false, false, false, false, false] rfl rfl (any_of HT_.out (by kernel_rfl)) (fun _ _ _ h => h) (Or.inl ⟨by rfl, ?_⟩) ?_ ?_
                   rotate_left
                   ·intro w'
                    go_simp
                    with_reducible rfl
                   rotate_left
                   ·simp only [Act.put, List.setIfInBounds_toArray, List.set_cons_zero, List.set_cons_succ, i64_w, i32_w]
                    rfl
                   refine pure_ (i := 3) (N := some 109) (v := ?_) (a' := ?_) #[false, true, true, true, false, false, false, false, false, false] rfl rfl (any_of HT_.out (by kernel_rfl)) (fun _ _ _ h => h) (Or.inl ⟨by rfl, ?_⟩) ?_ ?_
                   rotate_left
                   ·intro w'
                    go_simp
                    with_reducible rfl
                   rotate_left
                   ·simp only [Act.put, List.setIfInBounds_toArray, List.set_cons_zero, List.set_cons_succ, i64_w, i32_w]
                    rfl
                   refine take_ (i := 0) (N := some 106) (v := ?_) (a' := ?_) #[true, true, true, true, false, false, false, false, false, false] rfl rfl (take_ofW HT_.out HW_.out (by kernel_rfl)) (fun _ _ _ h => h) (Or.inl ⟨by rfl, ?_⟩) hHeld ?_ ?_
                   rotate_left
                   ·rintro w' ⟨s0, s1, s2, s3⟩
                    go_simp
                    with_reducible rfl
                   rotate_left
                   ·simp only [Act.put, List.setIfInBounds_toArray, List.set_cons_zero, List.set_cons_succ, i64_w, i32_w]
                    rfl
                   refine take_ (i := 4) (N := some 110) (v := ?_) (a' := ?_) #[true, true, true, true, true, false, false, false, false, false] rfl rfl (take_ofW HT_.out HW_.out (by kernel_rfl)) (fun _ _ _ h => h) (Or.inl ⟨by rfl, ?_⟩) hHeld ?_ ?_
                   rotate_left
                   ·rintro w' ⟨s0, s1, s2, s3⟩
                    go_simp
                    with_reducible rfl
                   rotate_left
                   ·simp only [Act.put, List.setIfInBounds_toArray, List.set_cons_zero, List.set_cons_succ, i64_w, i32_w]
                    rfl
                   refine one_ (i := 5) (N := some 111) #[true, true, true, true, true, true, false, false, false, false] rfl rfl (one_of HT_.out (by kernel_rfl)) (by decide) (fun K hK => ?_)
                   refine goes_ Try.func21 (by kernel_rfl) rfl #[.agg #[.int .i64 t356, .int .i64 t357, .int .i64 t358], .slice A382_0 (rd_L2 t375 x16_3).length c382_0] (by rfl) rfl rfl (by (try simp only [List.map_toArray, List.map_cons, List.map_nil]); first | done | rfl | (simp only [List.length_drop, List.length_take]; rfl)) ?_
                   with_reducible refine (bubble_Judge.calls kj61 t356 t357 t358 _ _ (rd_L2 t375 x16_3) t383 t384 _ ?side1 ?side2 A82.out).mono ?_
                   (case side1 => repeat (first | exact (by repeat (first | (with_reducible exact HR382_0.out) | (with_reducible refine Kd.C_alloc ?_ _) | (with_reducible refine Kd.C_drewN ?_ _) | (with_reducible refine Kd.C_drew ?_) | exact HR382_0.out)) | (with_reducible refine Kd.C_alloc ?_ _) | (with_reducible refine Kd.C_drewN ?_ _) | (with_reducible refine Kd.C_drew ?_)))
                   (case side2 => exact HC382_0.out)
                   rintro e w88 ⟨rfl, hb⟩
                   have HS3_ := (hb.cell (World.block_lt_of_cell? _ _ (hHeld.2.2.2))).trans (hHeld.2.2.2)
                   refine ⟨_, rfl, ?_⟩
                   replace HO_12 := zR HO_12 hb
                   replace HO_14 := za (Kd.N_below (by (with_reducible repeat (first | apply Kd.N_alloc | apply Kd.N_drewN | apply Kd.N_drew)); exact HO_14.out) hb)
                   replace HO_351002 := zR HO_351002 hb
                   replace HO_356000 := za (Kd.N_below (by (with_reducible repeat (first | apply Kd.N_alloc | apply Kd.N_drewN | apply Kd.N_drew)); exact HO_356000.out) hb)
                   replace HL382_0 := za (Kd.V_below (by (with_reducible repeat (first | apply Kd.V_alloc | apply Kd.V_drewN | apply Kd.V_drew)); exact HL382_0.out) hb)
                   replace BK350 := zb BK350 hb
                   replace BK355 := zb BK355 hb
                   replace BK360 := zb BK360 hb
                   replace HR382_0 := za (Kd.C_below (by repeat (first | (with_reducible exact HR382_0.out) | (with_reducible refine Kd.C_alloc ?_ _) | (with_reducible refine Kd.C_drewN ?_ _) | (with_reducible refine Kd.C_drew ?_) | exact HR382_0.out)) hb)
                   replace HB := zs HB hb
                   (try clear hb)
                   (try clear hb2)
                   (try clear hk)
                   (try clear hi)
                   refine hK.out _ _ ⟨(blk_cell BK360.out 0).trans rfl, (blk_cell BK360.out 1).trans rfl, (blk_cell BK360.out 2).trans rfl, HS3_⟩ (fun hHeld => ?_)
                   clear hK K
                   refine norm_ (a' := ?_) ?_ ?_
                   rotate_left
                   ·show Act.put _ (some 111) _ = _
                    simp only [Act.put, List.setIfInBounds_toArray, List.set_cons_zero, List.set_cons_succ, i64_w, i32_w]
                    rfl
                   refine pure_ (i := 6) (N := some 105) (v := ?_) (a' := ?_) #[true, true, true, true, true, true, true, false, false, false] rfl rfl (any_of HT_.out (by kernel_rfl)) (fun _ _ _ h => h) (Or.inl ⟨by rfl, ?_⟩) ?_ ?_
                   rotate_left
                   ·intro w'
                    go_simp
                    with_reducible rfl
                   rotate_left
                   ·simp only [Act.put, List.setIfInBounds_toArray, List.set_cons_zero, List.set_cons_succ, i64_w, i32_w]
                    rfl
                   refine pure_ (i := 7) (N := some 112) (v := ?_) (a' := ?_) #[true, true, true, true, true, true, true, true, false, false] rfl rfl (any_of HT_.out (by kernel_rfl)) (fun _ _ _ h => h) (Or.inl ⟨by rfl, ?_⟩) ?_ ?_
                   rotate_left
                   ·intro w'
                    go_simp
                    with_reducible rfl
                   rotate_left
                   ·simp only [Act.put, List.setIfInBounds_toArray, List.set_cons_zero, List.set_cons_succ, i64_w, i32_w]
                    rfl
                   refine pure_ (i := 8) (N := some 113) (v := ?_) (a' := ?_) #[true, true, true, true, true, true, true, true, true, false] rfl rfl (any_of HT_.out (by kernel_rfl)) (fun _ _ _ h => h) (Or.inl ⟨by rfl, ?_⟩) ?_ ?_
                   rotate_left
                   ·intro w'
                    go_simp
                    with_reducible rfl
                   rotate_left
                   ·simp only [Act.put, List.setIfInBounds_toArray, List.set_cons_zero, List.set_cons_succ, i64_w, i32_w]
                    rfl
                   refine pure_ (i := 9) (N := some 18) (v := ?_) (a' := ?_) #[true, true, true, true, true, true, true, true, true, true] rfl rfl (any_of HT_.out (by kernel_rfl)) (fun _ _ _ h => h) (Or.inl ⟨by rfl, ?_⟩) ?_ ?_
                   rotate_left
                   ·intro w'
                    go_simp
                    with_reducible rfl
                   rotate_left
                   ·simp only [Act.put, List.setIfInBounds_toArray, List.set_cons_zero, List.set_cons_succ, i64_w, i32_w]
                    rfl
                   refine done_ (done_of HT_.out (by kernel_rfl)) ?_
                   obtain ⟨Ao89, co89, eo89⟩ := Kd.R_slice HO_12.out
                   subst eo89
                   have p385 : 0 ≤ (x17_3 : Int) := of_decide_eq_true (by first | (with_reducible assumption) | assumption)
                   have q385 : x17_3 < (t371.length : Int) := of_decide_eq_true (by first | (with_reducible assumption) | assumption)
                   obtain ⟨ad385, e385, hx385_0⟩ := Kd.at_int (Kd.R_reads' HO_12.out).2.2 x17_3 p385 q385
                   cases e385
                   replace p385 := eq_true p385
                   replace q385 := eq_true q385
                   try go_wp2
                   go_roundg kj61
                   case measure => have := HK1.out; have := HJ37.out; have := HK3.out; have := HJ61.out; omega
                   case rel => exact ⟨(wrap64 (x16_3 + 1)), (wrap64 (x17_3 + 1)), (by first | rfl | (simp; done) | (simp [*]; done)), (by first | rfl | (simp; done) | (simp [*]; done)), H', ⟨by have := HK1.out; have := HJ37.out; have := HK3.out; have := HJ61.out; omega⟩, ⟨by (with_reducible repeat (first | apply Kd.R_alloc | apply Kd.R_drewN | apply Kd.R_drew)); exact HO_12.out⟩, ⟨by (with_reducible repeat (first | apply Kd.N_alloc | apply Kd.N_drewN | apply Kd.N_drew)); exact HO_14.out⟩, ⟨by (with_reducible repeat (first | apply Kd.R_alloc | apply Kd.R_drewN | apply Kd.R_drew)); exact HO_351002.out⟩, ⟨by (with_reducible repeat (first | apply Kd.N_alloc | apply Kd.N_drewN | apply Kd.N_drew)); exact HO_356000.out⟩, ⟨by (with_reducible repeat (first | refine blk_drewN ?_ _ | refine blk_drew ?_ | refine blk_alloc ?_ _)); exact BK350.out⟩, ⟨by (with_reducible repeat (first | refine blk_drewN ?_ _ | refine blk_drew ?_ | refine blk_alloc ?_ _)); exact BK355.out⟩, ⟨by (with_reducible repeat (first | refine blk_drewN ?_ _ | refine blk_drew ?_ | refine blk_alloc ?_ _)); exact BK360.out⟩, ⟨zm HB⟩⟩
                  ·rw [if_neg c85] at H
                   exact absurd H (by simp)
                 ·rw [if_neg c84] at H
                  exact absurd H (by simp)
                ·rw [if_neg c83] at H
                 exact absurd H (by simp)
               ·rw [if_neg c81] at H
                exact absurd H (by simp)
              ·rw [if_neg c80] at H
               exact absurd H (by simp)
            ·replace c78 := Bool.eq_false_iff.mpr c78
             subst c78
             have H1 : (if 0 ≤ x17_3 then (if x17_3 < (t371.length : Int) then (if (rd t371 x17_3) = (-1) then (awardingbodylaw20_BubbleParts.l1 kj61 t361 t371 t375 x16_3 (wrap64 (x17_3 + 1)) t344 t345 t346 t351 t356 t357 t358) else (none)) else (none)) else (none)) = some r := by rw [if_neg (show ¬ (false = true) by decide)] at H; exact H
             clear H
             have H := H1
             clear H1
             by_cases c90 : 0 ≤ x17_3
             ·rw [if_pos c90] at H
              have c90b0 : decide (0 ≤ x17_3) = true := decide_eq_true c90
              clear c90
              by_cases c91 : x17_3 < (t371.length : Int)
              ·rw [if_pos c91] at H
               have c91b0 : decide (x17_3 < (t371.length : Int)) = true := decide_eq_true c91
               clear c91
               by_cases c92 : (rd t371 x17_3) = (-1)
               ·rw [if_pos c92] at H
                have c92b0 : ((rd t371 x17_3) == (-1)) = true := beq_iff_eq.mpr c92
                have c92b1 : ((rd t371 x17_3) != (-1)) = false := bne_eq_false_iff_eq.mpr c92
                clear c92
                have H' := za H
                clear H
                obtain ⟨Ao93, co93, eo93⟩ := Kd.R_slice HO_12.out
                subst eo93
                have p386 : 0 ≤ (x17_3 : Int) := of_decide_eq_true (by first | (with_reducible assumption) | assumption)
                have q386 : x17_3 < (t371.length : Int) := of_decide_eq_true (by first | (with_reducible assumption) | assumption)
                obtain ⟨ad386, e386, hx386_0⟩ := Kd.at_int (Kd.R_reads' HO_12.out).2.2 x17_3 p386 q386
                cases e386
                replace p386 := eq_true p386
                replace q386 := eq_true q386
                go_wp2
                go_roundg kj61
                case measure => have := HK1.out; have := HJ37.out; have := HK3.out; have := HJ61.out; omega
                case rel => exact ⟨(x16_3), (wrap64 (x17_3 + 1)), (by first | rfl | (simp; done) | (simp [*]; done)), (by first | rfl | (simp; done) | (simp [*]; done)), H', ⟨by have := HK1.out; have := HJ37.out; have := HK3.out; have := HJ61.out; omega⟩, ⟨by (with_reducible repeat (first | apply Kd.R_alloc | apply Kd.R_drewN | apply Kd.R_drew)); exact HO_12.out⟩, ⟨by (with_reducible repeat (first | apply Kd.N_alloc | apply Kd.N_drewN | apply Kd.N_drew)); exact HO_14.out⟩, ⟨by (with_reducible repeat (first | apply Kd.R_alloc | apply Kd.R_drewN | apply Kd.R_drew)); exact HO_351002.out⟩, ⟨by (with_reducible repeat (first | apply Kd.N_alloc | apply Kd.N_drewN | apply Kd.N_drew)); exact HO_356000.out⟩, ⟨by (with_reducible repeat (first | refine blk_drewN ?_ _ | refine blk_drew ?_ | refine blk_alloc ?_ _)); exact BK350.out⟩, ⟨by (with_reducible repeat (first | refine blk_drewN ?_ _ | refine blk_drew ?_ | refine blk_alloc ?_ _)); exact BK355.out⟩, ⟨by (with_reducible repeat (first | refine blk_drewN ?_ _ | refine blk_drew ?_ | refine blk_alloc ?_ _)); exact BK360.out⟩, ⟨zm HB⟩⟩
               ·rw [if_neg c92] at H
                exact absurd H (by simp)
              ·rw [if_neg c91] at H
               exact absurd H (by simp)
             ·rw [if_neg c90] at H
              exact absurd H (by simp)
         ·rw [if_neg c61] at H
          have c61b0 : decide (x17_3 < (t346.length : Int)) = false := decide_eq_false c61
          clear c61
          by_cases c94 : x16_3 = (t375.length : Int)
          ·rw [if_pos c94] at H
           have c94b0 : (x16_3 == (t375.length : Int)) = true := beq_iff_eq.mpr c94
           have c94b1 : (x16_3 != (t375.length : Int)) = false := bne_eq_false_iff_eq.mpr c94
           clear c94
           replace H := Option.bind_eq_some_iff.mp H
           obtain ⟨t379, A950, H⟩ := H
           replace H : (some t379) = some r := H
           have A95 := za A950
           clear A950
           obtain rfl := Option.some.inj H
           have hnb96 := NB350_355.out
           have hnc96 := NB355_350.out
           have hnb97 := NB350_360.out
           have hnc97 := NB360_350.out
           obtain ⟨hcz98_0, hcz98_1, hcz98_2, hfz98_0, hfz98_1, hfz98_2⟩ := z3 BK350
           obtain ⟨Ao99, co99, eo99⟩ := Kd.N_slice HO_14.out
           subst eo99
           go_wp2_with (first | (go_at_call 14; (with_reducible refine (awardingbodylaw20_awake.calls k3  t379 _ A95.out).mono ?_); rintro e w100 ⟨rfl, hb⟩; replace HO_12 := zR HO_12 hb; replace HO_14 := za (Kd.N_below (by (with_reducible repeat (first | apply Kd.N_alloc | apply Kd.N_drewN | apply Kd.N_drew)); exact HO_14.out) hb); replace HO_351002 := zR HO_351002 hb; replace HO_356000 := za (Kd.N_below (by (with_reducible repeat (first | apply Kd.N_alloc | apply Kd.N_drewN | apply Kd.N_drew)); exact HO_356000.out) hb); replace BK350 := zb BK350 hb; replace BK355 := zb BK355 hb; replace BK360 := zb BK360 hb; replace HB := zs HB hb; (try clear hb); (try clear hb2); (try clear hk); (try clear hi)))
           go_ret
           exact ⟨zf, zm HB⟩
          ·rw [if_neg c94] at H
           exact absurd H (by simp)

/-- THE ONE PURE STATEMENT of awardingbodylaw20_BubbleParts: yours. -/
def awardingbodylaw20_BubbleParts.Pure : Prop := ∀ (l0 : List Int), l0.length ≤ maxLen → l0.length * 8 ≤ 140737488351232 → (∀ x ∈ l0, (Lit.int .i64 x).wf = true) → ∃ k, awardingbodylaw20_BubbleParts.f k l0 = some true
theorem awardingbodylaw20_BubbleParts.walk (P : awardingbodylaw20_BubbleParts.Pure) (a0 : Option Addr) (len0 cap0 : Nat) (z0 : List Int) (w : World) (w0 : (a0 = none ∧ len0 = 0 ∧ cap0 = 0 ∧ z0 = []) ∨ ∃ x, a0 = some x ∧ len0 ≤ cap0 ∧ cap0 ≤ maxLen ∧ z0.length = cap0 ∧ (∀ i, i < z0.length → w.cell? (x.add i) = some (.int .i64 (z0.getD i 0))) ∧ ∀ n ∈ z0, (Lit.int .i64 n).wf = true) (y0 : len0 * 8 ≤ 140737488351232) :
  Calls Try.prog 10 #[.slice a0 len0 cap0] w fun e w' => e = .returned (.bool true) ∧ Below w.heap.size w w' := by
 obtain ⟨l0, rfl, hr0, hm0, hw0, hc0⟩ := ReadsInt.ofRowC w0
 obtain ⟨k, h⟩ := P l0 hm0 y0 hw0
 refine (awardingbodylaw20_BubbleParts.calls k _ _ l0 true w (Kd.C_of_reads (d := (0 : Int)) (h1 := fun _ => rfl) hr0) hc0 h).mono ?_
 rintro e w' ⟨rfl, hd⟩
 exact ⟨rfl, hd⟩

end Go.Proofs.Ythbmpjglkbhhgaa.Print
