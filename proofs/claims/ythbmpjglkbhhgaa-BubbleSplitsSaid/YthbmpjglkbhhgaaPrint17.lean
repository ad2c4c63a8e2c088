-- Printed by a program of this session (wip/own_print.py) out of the translation; Lean checks it.
import Derived.Test.YthbmpjglkbhhgaaShort
import Derived.LoopN
import Derived.Test.YthbmpjglkbhhgaaPrint0
import Derived.Test.YthbmpjglkbhhgaaPrint3
import Derived.Test.YthbmpjglkbhhgaaPrint5
import Derived.Test.YthbmpjglkbhhgaaPrint14
import Derived.Test.YthbmpjglkbhhgaaPrint15
import Derived.Test.YthbmpjglkbhhgaaPrint16
namespace Go.Proofs.Ythbmpjglkbhhgaa.Print
open Go.RowKit Go.Proofs.YthbmpjglkbhhgaaW.PrintWords Go.Proofs.YthbmpjglkbhhgaaW.PrintLast Go.Proofs.YthbmpjglkbhhgaaW.PrintMore
attribute [local go_sem] max2_int min2_int max_two min_two max_three min_three max_four min_four   -- for this text's walks alone
set_option linter.unusedVariables false
set_option linter.unusedSimpArgs false

/-! ### awardingbodylaw20_BubbleSplits: function 8 -/
mutual
def awardingbodylaw20_BubbleSplits.l0 : Nat → List (S46) → List (S46) → List Int → Int → List Int → Int → Option (Bool)
  | 0, _, _, _, _, _, _ => none
  | k + 1, x0, x6, x7, x9, x433000, x433001 => if x9 > 0 then ((awardingbodymake_Tape_Next.f x433000 x433001 3).bind fun bt435 => ((awardingbodymake_Tape_Next.f x433000 bt435.2 3).bind fun bt437 => (if x6.length < 8796093022208 then ((awardingbodymake_Tape_Next.f x433000 bt437.2 10).bind fun bt442 => (if x7.length < 17592186044416 then (awardingbodylaw20_BubbleSplits.l0 k x0 (x6 ++ [(⟨bt435.1, bt437.1⟩ : S46)]) (x7 ++ [bt442.1]) (wrap64 (x9 - 1)) x433000 bt442.2) else (none))) else (none)))) else (awardingbodylaw20_BubbleSplits.l1 k x0 x6 x7 ([] : List Int) 0 x433000 x433001)
def awardingbodylaw20_BubbleSplits.l1 : Nat → List (S46) → List (S46) → List Int → List Int → Int → List Int → Int → Option (Bool)
  | 0, _, _, _, _, _, _, _ => none
  | k + 1, x0, x6, x7, x8, x10, x433000, x433001 => if x10 < (x0.length : Int) then (if x8.length < 17592186044416 then (awardingbodylaw20_BubbleSplits.l1 k x0 x6 x7 (x8 ++ [x10]) (wrap64 (x10 + 1)) x433000 x433001) else (none)) else ((awardingbodymake_Tape_One.f x433000 x433001 8).bind fun bt450 => (if bt450.1 = true then (if x7.length < 17592186044416 then (awardingbodylaw20_BubbleSplits.j2 k x0 x6 (x7 ++ [1]) x8) else (none)) else (awardingbodylaw20_BubbleSplits.j2 k x0 x6 x7 x8)))
def awardingbodylaw20_BubbleSplits.j2 : Nat → List (S46) → List (S46) → List Int → List Int → Option (Bool)
  | 0, _, _, _, _ => none
  | k + 1, x0, x6, x7, x8 => (bubble_Split.f k x6 x7).bind fun bt455 => ((awardingbodyref20_Split.f k x6 x7).bind fun bt459 => (if (bt455.1.length : Int) = (bt459.1.length : Int) then (awardingbodylaw20_BubbleSplits.j3 k x0 x8 bt455.1 bt459.1 (bt455.2 != bt459.2)) else (awardingbodylaw20_BubbleSplits.j3 k x0 x8 bt455.1 bt459.1 true)))
def awardingbodylaw20_BubbleSplits.j3 : Nat → List (S46) → List Int → List (List Int) → List (List Int) → Bool → Option (Bool)
  | 0, _, _, _, _, _ => none
  | k + 1, x0, x8, x12, x14, x81 => if x81 = true then (none) else (awardingbodylaw20_BubbleSplits.l4 k x0 x8 x12 x14 0)
def awardingbodylaw20_BubbleSplits.l4 : Nat → List (S46) → List Int → List (List Int) → List (List Int) → Int → Option (Bool)
  | 0, _, _, _, _, _ => none
  | k + 1, x0, x8, x12, x14, x16 => if x16 < (x12.length : Int) then (if 0 ≤ x16 then (if x16 < (x14.length : Int) then ((awardingbodyref06_Ints.f k (rd_L2 x12 x16) (rd_L2 x14 x16)).bind fun t465 => (if t465 = true then (awardingbodylaw20_BubbleSplits.l4 k x0 x8 x12 x14 (wrap64 (x16 + 1))) else (none))) else (none)) else (none)) else ((bubble_Split.f k x0 x8).bind fun bt466 => ((awardingbodyref20_Split.f k x0 x8).bind fun bt470 => (if (bt466.1.length : Int) = (bt470.1.length : Int) then (awardingbodylaw20_BubbleSplits.j5 k bt466.1 bt470.1 (bt466.2 != bt470.2)) else (awardingbodylaw20_BubbleSplits.j5 k bt466.1 bt470.1 true))))
def awardingbodylaw20_BubbleSplits.j5 : Nat → List (List Int) → List (List Int) → Bool → Option (Bool)
  | 0, _, _, _ => none
  | k + 1, x12, x14, x81 => if x81 = true then (none) else (awardingbodylaw20_BubbleSplits.l5 k x12 x14 0)
def awardingbodylaw20_BubbleSplits.l5 : Nat → List (List Int) → List (List Int) → Int → Option (Bool)
  | 0, _, _, _ => none
  | k + 1, x12, x14, x16 => if x16 < (x12.length : Int) then (if 0 ≤ x16 then (if x16 < (x14.length : Int) then ((awardingbodyref06_Ints.f k (rd_L2 x12 x16) (rd_L2 x14 x16)).bind fun t476 => (if t476 = true then (awardingbodylaw20_BubbleSplits.l5 k x12 x14 (wrap64 (x16 + 1))) else (none))) else (none)) else (none)) else ((awardingbodylaw20_awake.f k).bind fun t477 => (some t477))
end
def awardingbodylaw20_BubbleSplits.f (k : Nat) (l0 : List (S46)) (l1 : List Int) : Option (Bool) := if (l0.length : Int) > 40 then (some true) else ((awardingbodymake_New.f l1).bind fun bt430 => ((awardingbodymake_Tape_Next.f bt430.1 bt430.2 12).bind fun bt433 => (awardingbodylaw20_BubbleSplits.l0 k l0 ([] : List (S46)) ([] : List Int) bt433.1 bt430.1 bt433.2)))
theorem awardingbodylaw20_BubbleSplits.mono_l : ∀ k, (∀ y0 y1 y2 y3 y4 y5, LeO (awardingbodylaw20_BubbleSplits.l0 k y0 y1 y2 y3 y4 y5) (awardingbodylaw20_BubbleSplits.l0 (k + 1) y0 y1 y2 y3 y4 y5)) ∧ (∀ y0 y1 y2 y3 y4 y5 y6, LeO (awardingbodylaw20_BubbleSplits.l1 k y0 y1 y2 y3 y4 y5 y6) (awardingbodylaw20_BubbleSplits.l1 (k + 1) y0 y1 y2 y3 y4 y5 y6)) ∧ (∀ y0 y1 y2 y3, LeO (awardingbodylaw20_BubbleSplits.j2 k y0 y1 y2 y3) (awardingbodylaw20_BubbleSplits.j2 (k + 1) y0 y1 y2 y3)) ∧ (∀ y0 y1 y2 y3 y4, LeO (awardingbodylaw20_BubbleSplits.j3 k y0 y1 y2 y3 y4) (awardingbodylaw20_BubbleSplits.j3 (k + 1) y0 y1 y2 y3 y4)) ∧ (∀ y0 y1 y2 y3 y4, LeO (awardingbodylaw20_BubbleSplits.l4 k y0 y1 y2 y3 y4) (awardingbodylaw20_BubbleSplits.l4 (k + 1) y0 y1 y2 y3 y4)) ∧ (∀ y0 y1 y2, LeO (awardingbodylaw20_BubbleSplits.j5 k y0 y1 y2) (awardingbodylaw20_BubbleSplits.j5 (k + 1) y0 y1 y2)) ∧ (∀ y0 y1 y2, LeO (awardingbodylaw20_BubbleSplits.l5 k y0 y1 y2) (awardingbodylaw20_BubbleSplits.l5 (k + 1) y0 y1 y2))
  | 0 => ⟨fun _ _ _ _ _ _ r h => by simp [awardingbodylaw20_BubbleSplits.l0] at h, fun _ _ _ _ _ _ _ r h => by simp [awardingbodylaw20_BubbleSplits.l1] at h, fun _ _ _ _ r h => by simp [awardingbodylaw20_BubbleSplits.j2] at h, fun _ _ _ _ _ r h => by simp [awardingbodylaw20_BubbleSplits.j3] at h, fun _ _ _ _ _ r h => by simp [awardingbodylaw20_BubbleSplits.l4] at h, fun _ _ _ r h => by simp [awardingbodylaw20_BubbleSplits.j5] at h, fun _ _ _ r h => by simp [awardingbodylaw20_BubbleSplits.l5] at h⟩
  | k + 1 => by
    obtain ⟨ih0, ih1, ih2, ih3, ih4, ih5, ih6⟩ := awardingbodylaw20_BubbleSplits.mono_l k
    refine ⟨?_, ?_, ?_, ?_, ?_, ?_, ?_⟩
    · intro y0 y1 y2 y3 y4 y5
      unfold awardingbodylaw20_BubbleSplits.l0
      repeat' first
      | (with_reducible exact ih0 _ _ _ _ _ _)
      | (with_reducible exact ih1 _ _ _ _ _ _ _)
      | (with_reducible exact ih2 _ _ _ _)
      | (with_reducible exact ih3 _ _ _ _ _)
      | (with_reducible exact ih4 _ _ _ _ _)
      | (with_reducible exact ih5 _ _ _)
      | (with_reducible exact ih6 _ _ _)
      | (with_reducible exact awardingbodylaw20_awake.mono _)
      | (with_reducible exact awardingbodyref06_Ints.mono _ _ _)
      | (with_reducible exact awardingbodyref20_Split.mono _ _ _)
      | (with_reducible exact bubble_Split.mono _ _ _)
      | (with_reducible exact LeO.refl _)
      | (with_reducible exact LeO.none _)
      | (with_reducible refine LeO.ite ?_ ?_)
      | (with_reducible refine LeO.bind ?_ (fun _ => ?_))
      | exact ih0 _ _ _ _ _ _
      | exact ih1 _ _ _ _ _ _ _
      | exact ih2 _ _ _ _
      | exact ih3 _ _ _ _ _
      | exact ih4 _ _ _ _ _
      | exact ih5 _ _ _
      | exact ih6 _ _ _
      | exact awardingbodylaw20_awake.mono _
      | exact awardingbodyref06_Ints.mono _ _ _
      | exact awardingbodyref20_Split.mono _ _ _
      | exact bubble_Split.mono _ _ _
      | exact LeO.none _
      | refine LeO.ite ?_ ?_
      | refine LeO.bind ?_ (fun _ => ?_)
    · intro y0 y1 y2 y3 y4 y5 y6
      unfold awardingbodylaw20_BubbleSplits.l1
      repeat' first
      | (with_reducible exact ih0 _ _ _ _ _ _)
      | (with_reducible exact ih1 _ _ _ _ _ _ _)
      | (with_reducible exact ih2 _ _ _ _)
      | (with_reducible exact ih3 _ _ _ _ _)
      | (with_reducible exact ih4 _ _ _ _ _)
      | (with_reducible exact ih5 _ _ _)
      | (with_reducible exact ih6 _ _ _)
      | (with_reducible exact awardingbodylaw20_awake.mono _)
      | (with_reducible exact awardingbodyref06_Ints.mono _ _ _)
      | (with_reducible exact awardingbodyref20_Split.mono _ _ _)
      | (with_reducible exact bubble_Split.mono _ _ _)
      | (with_reducible exact LeO.refl _)
      | (with_reducible exact LeO.none _)
      | (with_reducible refine LeO.ite ?_ ?_)
      | (with_reducible refine LeO.bind ?_ (fun _ => ?_))
      | exact ih0 _ _ _ _ _ _
      | exact ih1 _ _ _ _ _ _ _
      | exact ih2 _ _ _ _
      | exact ih3 _ _ _ _ _
      | exact ih4 _ _ _ _ _
      | exact ih5 _ _ _
      | exact ih6 _ _ _
      | exact awardingbodylaw20_awake.mono _
      | exact awardingbodyref06_Ints.mono _ _ _
      | exact awardingbodyref20_Split.mono _ _ _
      | exact bubble_Split.mono _ _ _
      | exact LeO.none _
      | refine LeO.ite ?_ ?_
      | refine LeO.bind ?_ (fun _ => ?_)
    · intro y0 y1 y2 y3
      unfold awardingbodylaw20_BubbleSplits.j2
      repeat' first
      | (with_reducible exact ih0 _ _ _ _ _ _)
      | (with_reducible exact ih1 _ _ _ _ _ _ _)
      | (with_reducible exact ih2 _ _ _ _)
      | (with_reducible exact ih3 _ _ _ _ _)
      | (with_reducible exact ih4 _ _ _ _ _)
      | (with_reducible exact ih5 _ _ _)
      | (with_reducible exact ih6 _ _ _)
      | (with_reducible exact awardingbodylaw20_awake.mono _)
      | (with_reducible exact awardingbodyref06_Ints.mono _ _ _)
      | (with_reducible exact awardingbodyref20_Split.mono _ _ _)
      | (with_reducible exact bubble_Split.mono _ _ _)
      | (with_reducible exact LeO.refl _)
      | (with_reducible exact LeO.none _)
      | (with_reducible refine LeO.ite ?_ ?_)
      | (with_reducible refine LeO.bind ?_ (fun _ => ?_))
      | exact ih0 _ _ _ _ _ _
      | exact ih1 _ _ _ _ _ _ _
      | exact ih2 _ _ _ _
      | exact ih3 _ _ _ _ _
      | exact ih4 _ _ _ _ _
      | exact ih5 _ _ _
      | exact ih6 _ _ _
      | exact awardingbodylaw20_awake.mono _
      | exact awardingbodyref06_Ints.mono _ _ _
      | exact awardingbodyref20_Split.mono _ _ _
      | exact bubble_Split.mono _ _ _
      | exact LeO.none _
      | refine LeO.ite ?_ ?_
      | refine LeO.bind ?_ (fun _ => ?_)
    · intro y0 y1 y2 y3 y4
      unfold awardingbodylaw20_BubbleSplits.j3
      repeat' first
      | (with_reducible exact ih0 _ _ _ _ _ _)
      | (with_reducible exact ih1 _ _ _ _ _ _ _)
      | (with_reducible exact ih2 _ _ _ _)
      | (with_reducible exact ih3 _ _ _ _ _)
      | (with_reducible exact ih4 _ _ _ _ _)
      | (with_reducible exact ih5 _ _ _)
      | (with_reducible exact ih6 _ _ _)
      | (with_reducible exact awardingbodylaw20_awake.mono _)
      | (with_reducible exact awardingbodyref06_Ints.mono _ _ _)
      | (with_reducible exact awardingbodyref20_Split.mono _ _ _)
      | (with_reducible exact bubble_Split.mono _ _ _)
      | (with_reducible exact LeO.refl _)
      | (with_reducible exact LeO.none _)
      | (with_reducible refine LeO.ite ?_ ?_)
      | (with_reducible refine LeO.bind ?_ (fun _ => ?_))
      | exact ih0 _ _ _ _ _ _
      | exact ih1 _ _ _ _ _ _ _
      | exact ih2 _ _ _ _
      | exact ih3 _ _ _ _ _
      | exact ih4 _ _ _ _ _
      | exact ih5 _ _ _
      | exact ih6 _ _ _
      | exact awardingbodylaw20_awake.mono _
      | exact awardingbodyref06_Ints.mono _ _ _
      | exact awardingbodyref20_Split.mono _ _ _
      | exact bubble_Split.mono _ _ _
      | exact LeO.none _
      | refine LeO.ite ?_ ?_
      | refine LeO.bind ?_ (fun _ => ?_)
    · intro y0 y1 y2 y3 y4
      unfold awardingbodylaw20_BubbleSplits.l4
      repeat' first
      | (with_reducible exact ih0 _ _ _ _ _ _)
      | (with_reducible exact ih1 _ _ _ _ _ _ _)
      | (with_reducible exact ih2 _ _ _ _)
      | (with_reducible exact ih3 _ _ _ _ _)
      | (with_reducible exact ih4 _ _ _ _ _)
      | (with_reducible exact ih5 _ _ _)
      | (with_reducible exact ih6 _ _ _)
      | (with_reducible exact awardingbodylaw20_awake.mono _)
      | (with_reducible exact awardingbodyref06_Ints.mono _ _ _)
      | (with_reducible exact awardingbodyref20_Split.mono _ _ _)
      | (with_reducible exact bubble_Split.mono _ _ _)
      | (with_reducible exact LeO.refl _)
      | (with_reducible exact LeO.none _)
      | (with_reducible refine LeO.ite ?_ ?_)
      | (with_reducible refine LeO.bind ?_ (fun _ => ?_))
      | exact ih0 _ _ _ _ _ _
      | exact ih1 _ _ _ _ _ _ _
      | exact ih2 _ _ _ _
      | exact ih3 _ _ _ _ _
      | exact ih4 _ _ _ _ _
      | exact ih5 _ _ _
      | exact ih6 _ _ _
      | exact awardingbodylaw20_awake.mono _
      | exact awardingbodyref06_Ints.mono _ _ _
      | exact awardingbodyref20_Split.mono _ _ _
      | exact bubble_Split.mono _ _ _
      | exact LeO.none _
      | refine LeO.ite ?_ ?_
      | refine LeO.bind ?_ (fun _ => ?_)
    · intro y0 y1 y2
      unfold awardingbodylaw20_BubbleSplits.j5
      repeat' first
      | (with_reducible exact ih0 _ _ _ _ _ _)
      | (with_reducible exact ih1 _ _ _ _ _ _ _)
      | (with_reducible exact ih2 _ _ _ _)
      | (with_reducible exact ih3 _ _ _ _ _)
      | (with_reducible exact ih4 _ _ _ _ _)
      | (with_reducible exact ih5 _ _ _)
      | (with_reducible exact ih6 _ _ _)
      | (with_reducible exact awardingbodylaw20_awake.mono _)
      | (with_reducible exact awardingbodyref06_Ints.mono _ _ _)
      | (with_reducible exact awardingbodyref20_Split.mono _ _ _)
      | (with_reducible exact bubble_Split.mono _ _ _)
      | (with_reducible exact LeO.refl _)
      | (with_reducible exact LeO.none _)
      | (with_reducible refine LeO.ite ?_ ?_)
      | (with_reducible refine LeO.bind ?_ (fun _ => ?_))
      | exact ih0 _ _ _ _ _ _
      | exact ih1 _ _ _ _ _ _ _
      | exact ih2 _ _ _ _
      | exact ih3 _ _ _ _ _
      | exact ih4 _ _ _ _ _
      | exact ih5 _ _ _
      | exact ih6 _ _ _
      | exact awardingbodylaw20_awake.mono _
      | exact awardingbodyref06_Ints.mono _ _ _
      | exact awardingbodyref20_Split.mono _ _ _
      | exact bubble_Split.mono _ _ _
      | exact LeO.none _
      | refine LeO.ite ?_ ?_
      | refine LeO.bind ?_ (fun _ => ?_)
    · intro y0 y1 y2
      unfold awardingbodylaw20_BubbleSplits.l5
      repeat' first
      | (with_reducible exact ih0 _ _ _ _ _ _)
      | (with_reducible exact ih1 _ _ _ _ _ _ _)
      | (with_reducible exact ih2 _ _ _ _)
      | (with_reducible exact ih3 _ _ _ _ _)
      | (with_reducible exact ih4 _ _ _ _ _)
      | (with_reducible exact ih5 _ _ _)
      | (with_reducible exact ih6 _ _ _)
      | (with_reducible exact awardingbodylaw20_awake.mono _)
      | (with_reducible exact awardingbodyref06_Ints.mono _ _ _)
      | (with_reducible exact awardingbodyref20_Split.mono _ _ _)
      | (with_reducible exact bubble_Split.mono _ _ _)
      | (with_reducible exact LeO.refl _)
      | (with_reducible exact LeO.none _)
      | (with_reducible refine LeO.ite ?_ ?_)
      | (with_reducible refine LeO.bind ?_ (fun _ => ?_))
      | exact ih0 _ _ _ _ _ _
      | exact ih1 _ _ _ _ _ _ _
      | exact ih2 _ _ _ _
      | exact ih3 _ _ _ _ _
      | exact ih4 _ _ _ _ _
      | exact ih5 _ _ _
      | exact ih6 _ _ _
      | exact awardingbodylaw20_awake.mono _
      | exact awardingbodyref06_Ints.mono _ _ _
      | exact awardingbodyref20_Split.mono _ _ _
      | exact bubble_Split.mono _ _ _
      | exact LeO.none _
      | refine LeO.ite ?_ ?_
      | refine LeO.bind ?_ (fun _ => ?_)
theorem awardingbodylaw20_BubbleSplits.mono : ∀ a0 a1 k, LeO (awardingbodylaw20_BubbleSplits.f k a0 a1) (awardingbodylaw20_BubbleSplits.f (k + 1) a0 a1) := by
  intro a0 a1 k
  obtain ⟨ih0, ih1, ih2, ih3, ih4, ih5, ih6⟩ := awardingbodylaw20_BubbleSplits.mono_l k
  unfold awardingbodylaw20_BubbleSplits.f
  repeat' first
      | (with_reducible exact ih0 _ _ _ _ _ _)
      | (with_reducible exact ih1 _ _ _ _ _ _ _)
      | (with_reducible exact ih2 _ _ _ _)
      | (with_reducible exact ih3 _ _ _ _ _)
      | (with_reducible exact ih4 _ _ _ _ _)
      | (with_reducible exact ih5 _ _ _)
      | (with_reducible exact ih6 _ _ _)
      | (with_reducible exact awardingbodylaw20_awake.mono _)
      | (with_reducible exact awardingbodyref06_Ints.mono _ _ _)
      | (with_reducible exact awardingbodyref20_Split.mono _ _ _)
      | (with_reducible exact bubble_Split.mono _ _ _)
      | (with_reducible exact LeO.refl _)
      | (with_reducible exact LeO.none _)
      | (with_reducible refine LeO.ite ?_ ?_)
      | (with_reducible refine LeO.bind ?_ (fun _ => ?_))
      | exact ih0 _ _ _ _ _ _
      | exact ih1 _ _ _ _ _ _ _
      | exact ih2 _ _ _ _
      | exact ih3 _ _ _ _ _
      | exact ih4 _ _ _ _ _
      | exact ih5 _ _ _
      | exact ih6 _ _ _
      | exact awardingbodylaw20_awake.mono _
      | exact awardingbodyref06_Ints.mono _ _ _
      | exact awardingbodyref20_Split.mono _ _ _
      | exact bubble_Split.mono _ _ _
      | exact LeO.none _
      | refine LeO.ite ?_ ?_
      | refine LeO.bind ?_ (fun _ => ?_)
set_option maxHeartbeats 8000000 in
set_option maxRecDepth 100000 in
theorem awardingbodylaw20_BubbleSplits.calls (k : Nat) (A0 : Option Addr) (c0 : Nat) (l0 : List (S46)) (A1 : Option Addr) (c1 : Nat) (l1 : List Int) (r : Bool) (w : World) (hr0 : Kd.C k46 w A0 l0.length l0) (hc0 : l0.length ≤ c0) (hr1 : Kd.C (Kd.int .i64) w A1 l1.length l1) (hc1 : l1.length ≤ c1) (h : awardingbodylaw20_BubbleSplits.f k l0 l1 = some r) :
    Calls Try.prog 8 #[.slice A0 l0.length c0, .slice A1 l1.length c1] w fun e w' => e = .returned (.bool r) ∧ Below w.heap.size w w' := by
 have hu46 := Try.underlying46
 have HR0 := za hr0
 have HC0 := za hc0
 clear hr0 hc0
 have HR1 := za hr1
 have HC1 := za hc1
 clear hr1 hc1
 have HB := za (Below.refl w.heap.size w)
 have H : (if (l0.length : Int) > 40 then (some true) else ((awardingbodymake_New.f l1).bind fun bt430 => ((awardingbodymake_Tape_Next.f bt430.1 bt430.2 12).bind fun bt433 => (awardingbodylaw20_BubbleSplits.l0 k l0 ([] : List (S46)) ([] : List Int) bt433.1 bt430.1 bt433.2)))) = some r := h
 clear h
 by_cases c3 : (l0.length : Int) > 40
 ·rw [if_pos c3] at H
  have c3b0 : decide (40 < (l0.length : Int)) = true := decide_eq_true c3
  have c3b1 : decide (40 < l0.length) = true := decide_eq_true (by omega)
  clear c3
  obtain rfl := Option.some.inj H
  go_enter Try.func8, Try.ntmps8
  go_wp2
  repeat (go_quiet (fail); try go_wp2)
  go_ret
  exact ⟨zf, zm HB⟩
 ·rw [if_neg c3] at H
  have c3b0 : decide (40 < (l0.length : Int)) = false := decide_eq_false c3
  have c3b1 : decide (40 < l0.length) = false := decide_eq_false (by omega)
  clear c3
  replace H := Option.bind_eq_some_iff.mp H
  obtain ⟨⟨t430, t431⟩, A40, H⟩ := H
  replace H : ((awardingbodymake_Tape_Next.f t430 t431 12).bind fun bt433 => (awardingbodylaw20_BubbleSplits.l0 k l0 ([] : List (S46)) ([] : List Int) bt433.1 t430 bt433.2)) = some r := H
  have A4 := za A40
  clear A40
  replace H := Option.bind_eq_some_iff.mp H
  obtain ⟨⟨t433, t434⟩, A50, H⟩ := H
  replace H : (awardingbodylaw20_BubbleSplits.l0 k l0 ([] : List (S46)) ([] : List Int) t433 t430 t434) = some r := H
  have A5 := za A50
  clear A50
  have H' := za H
  clear H
  go_enter Try.func8, Try.ntmps8
  go_wp2_with (first | (go_at_call 15; (with_reducible refine (awardingbodymake_New.calls _ _ l1 t430 t431 w _ ?side1 ?side2 ?side3 A4.out).mono ?_); (case side1 => repeat (first | (with_reducible first | exact HB.out | apply below_alloc | apply pw_below_drewN | apply below_drew1) | exact HB.out)); (case side2 => exact HR1.out); (case side3 => exact HC1.out); rintro e w6 ⟨g432, rfl, hi, hb, hb2⟩; have HI432 := za (hi); replace HB := za (hb); (try clear hb); (try clear hb2); (try clear hk); (try clear hi)) | (go_at_call 20; (with_reducible refine (awardingbodymake_Tape_Next.calls g432 t430 t431 12 t433 t434 w _ ?side1 ?side2 A5.out).mono ?_); (case side1 => repeat (first | (with_reducible first | exact HI432.out | apply IsS68.alloc | apply IsS68.drewN | apply IsS68.drew | apply IsS68.set_1) | exact HI432.out)); (case side2 => repeat (first | (with_reducible first | exact HB.out | apply below_alloc | apply pw_below_drewN | apply below_drew1 | refine below_set ?_ (IsS68.ge HI432.out)) | exact HB.out)); rintro e w7 ⟨rfl, hi, hb, hk⟩; replace HB := za (hb); replace HI432 := za (hi); (try clear hb); (try clear hb2); (try clear hk); (try clear hi)))
  repeat (go_quiet (first | (go_at_call 15; (with_reducible refine (awardingbodymake_New.calls _ _ l1 t430 t431 w _ ?side1 ?side2 ?side3 A4.out).mono ?_); (case side1 => repeat (first | (with_reducible first | exact HB.out | apply below_alloc | apply pw_below_drewN | apply below_drew1) | exact HB.out)); (case side2 => exact HR1.out); (case side3 => exact HC1.out); rintro e w6 ⟨g432, rfl, hi, hb, hb2⟩; have HI432 := za (hi); replace HB := za (hb); (try clear hb); (try clear hb2); (try clear hk); (try clear hi)) | (go_at_call 20; (with_reducible refine (awardingbodymake_Tape_Next.calls g432 t430 t431 12 t433 t434 w _ ?side1 ?side2 A5.out).mono ?_); (case side1 => repeat (first | (with_reducible first | exact HI432.out | apply IsS68.alloc | apply IsS68.drewN | apply IsS68.drew | apply IsS68.set_1) | exact HI432.out)); (case side2 => repeat (first | (with_reducible first | exact HB.out | apply below_alloc | apply pw_below_drewN | apply below_drew1 | refine below_set ?_ (IsS68.ge HI432.out)) | exact HB.out)); rintro e w7 ⟨rfl, hi, hb, hk⟩; replace HB := za (hb); replace HI432 := za (hi); (try clear hb); (try clear hb2); (try clear hk); (try clear hi))); try go_wp2_with (first | (go_at_call 15; (with_reducible refine (awardingbodymake_New.calls _ _ l1 t430 t431 w _ ?side1 ?side2 ?side3 A4.out).mono ?_); (case side1 => repeat (first | (with_reducible first | exact HB.out | apply below_alloc | apply pw_below_drewN | apply below_drew1) | exact HB.out)); (case side2 => exact HR1.out); (case side3 => exact HC1.out); rintro e w6 ⟨g432, rfl, hi, hb, hb2⟩; have HI432 := za (hi); replace HB := za (hb); (try clear hb); (try clear hb2); (try clear hk); (try clear hi)) | (go_at_call 20; (with_reducible refine (awardingbodymake_Tape_Next.calls g432 t430 t431 12 t433 t434 w _ ?side1 ?side2 A5.out).mono ?_); (case side1 => repeat (first | (with_reducible first | exact HI432.out | apply IsS68.alloc | apply IsS68.drewN | apply IsS68.drew | apply IsS68.set_1) | exact HI432.out)); (case side2 => repeat (first | (with_reducible first | exact HB.out | apply below_alloc | apply pw_below_drewN | apply below_drew1 | refine below_set ?_ (IsS68.ge HI432.out)) | exact HB.out)); rintro e w7 ⟨rfl, hi, hb, hk⟩; replace HB := za (hb); replace HI432 := za (hi); (try clear hb); (try clear hb2); (try clear hk); (try clear hi))))
  go_loopg [6, 7, 9] k (fun kq v6 v7 v9 w' => ∃ (x6_1 : List (S46)) (x7_1 : List Int) (x9_1 : Int) (x433001_1 : Int), v9 = .int .i64 x9_1 ∧ Aside0 (awardingbodylaw20_BubbleSplits.l0 kq l0 x6_1 x7_1 x9_1 t430 x433001_1 = some r) ∧ Aside0 (kq ≤ k) ∧ Aside0 (Kd.R k46 46 w' w.heap.size (fun _ => True) v6 x6_1) ∧ Aside0 (Kd.R (Kd.int .i64) 3 w' w.heap.size (fun _ => True) v7 x7_1) ∧ Aside0 (IsS68 w w' g432 t430 x433001_1) ∧ Aside0 (Below w.heap.size w w'))
  case atStart => exact ⟨(([] : List (S46))), (([] : List Int)), (t433), (t434), (by first | rfl | (simp; done) | (simp [*]; done)), H', ⟨Nat.le_refl _⟩, ⟨by first | exact Kd.R_nil _ _ _ _ _ | exact Kd.N_nil _ _ _ _ _ | exact Kd.V_nil _ _ _ _ _ | exact Kd.Q_nil _ _ _ _ _ | exact Kd.S_nil _ _ _ _ _⟩, ⟨by first | exact Kd.R_nil _ _ _ _ _ | exact Kd.N_nil _ _ _ _ _ | exact Kd.V_nil _ _ _ _ _ | exact Kd.Q_nil _ _ _ _ _ | exact Kd.S_nil _ _ _ _ _⟩, ⟨by repeat (first | (with_reducible first | exact HI432.out | apply IsS68.alloc | apply IsS68.drewN | apply IsS68.drew | apply IsS68.set_1) | exact HI432.out)⟩, ⟨zm HB⟩⟩
  case round =>
   clear H'
   try clear c1
   try clear p2
   try clear c3
   try clear c3b0
   try clear c3b1
   obtain ⟨x6_1, x7_1, x9_1, x433001_1, rfl, HA, HK1, HO_6, HO_7, HI432, HB⟩ := hrel
   cases gk with
   | zero => exact absurd HA.out (by simp [awardingbodylaw20_BubbleSplits.l0])
   | succ k1 =>
    have H := HA.out
    clear HA
    simp only [awardingbodylaw20_BubbleSplits.l0] at H
    by_cases c8 : x9_1 > 0
    ·rw [if_pos c8] at H
     have c8b0 : decide (0 < x9_1) = true := decide_eq_true c8
     clear c8
     replace H := Option.bind_eq_some_iff.mp H
     obtain ⟨⟨t435, t436⟩, A90, H⟩ := H
     replace H : ((awardingbodymake_Tape_Next.f t430 t436 3).bind fun bt437 => (if x6_1.length < 8796093022208 then ((awardingbodymake_Tape_Next.f t430 bt437.2 10).bind fun bt442 => (if x7_1.length < 17592186044416 then (awardingbodylaw20_BubbleSplits.l0 k1 l0 (x6_1 ++ [(⟨t435, bt437.1⟩ : S46)]) (x7_1 ++ [bt442.1]) (wrap64 (x9_1 - 1)) t430 bt442.2) else (none))) else (none))) = some r := H
     have A9 := za A90
     clear A90
     replace H := Option.bind_eq_some_iff.mp H
     obtain ⟨⟨t437, t438⟩, A100, H⟩ := H
     replace H : (if x6_1.length < 8796093022208 then ((awardingbodymake_Tape_Next.f t430 t438 10).bind fun bt442 => (if x7_1.length < 17592186044416 then (awardingbodylaw20_BubbleSplits.l0 k1 l0 (x6_1 ++ [(⟨t435, t437⟩ : S46)]) (x7_1 ++ [bt442.1]) (wrap64 (x9_1 - 1)) t430 bt442.2) else (none))) else (none)) = some r := H
     have A10 := za A100
     clear A100
     by_cases c11 : x6_1.length < 8796093022208
     ·rw [if_pos c11] at H
      have LMc11 := za c11
      clear c11
      obtain ⟨y439, hy439⟩ : ∃ y_ : List (S46), y_ = (x6_1 ++ [(⟨t435, t437⟩ : S46)]) := ⟨_, rfl⟩
      replace H : ((awardingbodymake_Tape_Next.f t430 t438 10).bind fun bt442 => (if x7_1.length < 17592186044416 then (awardingbodylaw20_BubbleSplits.l0 k1 l0 y439 (x7_1 ++ [bt442.1]) (wrap64 (x9_1 - 1)) t430 bt442.2) else (none))) = some r := by first | (rw [hy439]; with_reducible exact H) | (have H2_ := (Option.bind_some _ _).symm.trans H; rw [hy439]; with_reducible exact H2_) | (have H2_ := (Option.bind_some _ _).symm.trans H; with_reducible exact H2_) | with_reducible exact H | (rw [hy439]; exact H) | exact H
      have Ny439 := za hy439
      clear hy439
      replace H := Option.bind_eq_some_iff.mp H
      obtain ⟨⟨t442, t443⟩, A120, H⟩ := H
      replace H : (if x7_1.length < 17592186044416 then (awardingbodylaw20_BubbleSplits.l0 k1 l0 y439 (x7_1 ++ [t442]) (wrap64 (x9_1 - 1)) t430 t443) else (none)) = some r := H
      have A12 := za A120
      clear A120
      by_cases c13 : x7_1.length < 17592186044416
      ·rw [if_pos c13] at H
       have LMc13 := za c13
       clear c13
       obtain ⟨y444, hy444⟩ : ∃ y_ : List Int, y_ = (x7_1 ++ [t442]) := ⟨_, rfl⟩
       replace H : (awardingbodylaw20_BubbleSplits.l0 k1 l0 y439 y444 (wrap64 (x9_1 - 1)) t430 t443) = some r := by first | (rw [hy444]; with_reducible exact H) | (have H2_ := (Option.bind_some _ _).symm.trans H; rw [hy444]; with_reducible exact H2_) | (have H2_ := (Option.bind_some _ _).symm.trans H; with_reducible exact H2_) | with_reducible exact H | (rw [hy444]; exact H) | exact H
       have Ny444 := za hy444
       clear hy444
       have H' := za H
       clear H
       go_wp2_with (first | (go_at_call 20; (with_reducible refine (awardingbodymake_Tape_Next.calls g432 t430 x433001_1 3 t435 t436 w _ ?side1 ?side2 A9.out).mono ?_); (case side1 => repeat (first | (with_reducible first | exact HI432.out | apply IsS68.alloc | apply IsS68.drewN | apply IsS68.drew | apply IsS68.set_1) | exact HI432.out)); (case side2 => repeat (first | (with_reducible first | exact HB.out | apply below_alloc | apply pw_below_drewN | apply below_drew1 | refine below_set ?_ (IsS68.ge HI432.out)) | exact HB.out)); rintro e w14 ⟨rfl, hi, hb, hk⟩; replace HO_6 := za (Kd.R_mono (Kd.R_keep (IsS68.apart (show IsS68 w _ g432 t430 x433001_1 from by repeat (first | (with_reducible first | exact HI432.out | apply IsS68.alloc | apply IsS68.drewN | apply IsS68.drew | apply IsS68.set_1) | exact HI432.out)) (by (with_reducible repeat (first | apply Kd.R_alloc | apply Kd.R_drewN | apply Kd.R_drew)); exact HO_6.out) (by decide)) hk (fun _ h => h.2)) (fun _ h => h.1)); replace HO_7 := za (Kd.R_mono (Kd.R_keep (IsS68.apart (show IsS68 w _ g432 t430 x433001_1 from by repeat (first | (with_reducible first | exact HI432.out | apply IsS68.alloc | apply IsS68.drewN | apply IsS68.drew | apply IsS68.set_1) | exact HI432.out)) (by (with_reducible repeat (first | apply Kd.R_alloc | apply Kd.R_drewN | apply Kd.R_drew)); exact HO_7.out) (by decide)) hk (fun _ h => h.2)) (fun _ h => h.1)); replace HB := za (hb); replace HI432 := za (hi); (try clear hb); (try clear hb2); (try clear hk); (try clear hi)) | (go_at_call 20; (with_reducible refine (awardingbodymake_Tape_Next.calls g432 t430 t436 3 t437 t438 w _ ?side1 ?side2 A10.out).mono ?_); (case side1 => repeat (first | (with_reducible first | exact HI432.out | apply IsS68.alloc | apply IsS68.drewN | apply IsS68.drew | apply IsS68.set_1) | exact HI432.out)); (case side2 => repeat (first | (with_reducible first | exact HB.out | apply below_alloc | apply pw_below_drewN | apply below_drew1 | refine below_set ?_ (IsS68.ge HI432.out)) | exact HB.out)); rintro e w15 ⟨rfl, hi, hb, hk⟩; replace HO_6 := za (Kd.R_mono (Kd.R_keep (IsS68.apart (show IsS68 w _ g432 t430 t436 from by repeat (first | (with_reducible first | exact HI432.out | apply IsS68.alloc | apply IsS68.drewN | apply IsS68.drew | apply IsS68.set_1) | exact HI432.out)) (by (with_reducible repeat (first | apply Kd.R_alloc | apply Kd.R_drewN | apply Kd.R_drew)); exact HO_6.out) (by decide)) hk (fun _ h => h.2)) (fun _ h => h.1)); replace HO_7 := za (Kd.R_mono (Kd.R_keep (IsS68.apart (show IsS68 w _ g432 t430 t436 from by repeat (first | (with_reducible first | exact HI432.out | apply IsS68.alloc | apply IsS68.drewN | apply IsS68.drew | apply IsS68.set_1) | exact HI432.out)) (by (with_reducible repeat (first | apply Kd.R_alloc | apply Kd.R_drewN | apply Kd.R_drew)); exact HO_7.out) (by decide)) hk (fun _ h => h.2)) (fun _ h => h.1)); replace HB := za (hb); replace HI432 := za (hi); (try clear hb); (try clear hb2); (try clear hk); (try clear hi)) | ((with_reducible refine gate_builtin (b := .append) (xs := #[.tmp 28, .tmp 34]) rfl ?_); at_builtin; refine Kd.R_append k46 (w0 := w) w.heap.size rfl (.tmp 28) (.tmp 34) 44 46 (.agg #[(.int .i64 0), (.int .i64 0)]) 16 rfl Try.underlying44 info46 rfl (by decide) (by omega) u6 x6_1 (⟨t435, t437⟩ : S46) [.int .i64 t435, .int .i64 t437] (fun _ => True) (fun _ => False) rfl rfl ?aP (fun _ hk => hk.elim) ?aF ?aO ?aB ?aS ?aL ?_; (case aP => exact k46_mkM _ _ _ (⟨t435, t437⟩ : S46)); (case aB => exact (zm HB)); (case aF => exact (fun _ _ => trivial)); (case aO => exact (by (with_reducible repeat (first | apply Kd.R_alloc | apply Kd.R_drewN | apply Kd.R_drew)); exact HO_6.out)); (case aS => exact (below_size (zm HB))); (case aL => have := LMc11.out; omega); intro v440 w16 ho hb hg hat; rw [← Ny439.out] at ho; have HO441 := za (ho); replace HO_7 := za (Kd.R_over' (by (with_reducible repeat (first | apply Kd.R_alloc | apply Kd.R_drewN | apply Kd.R_drew)); exact HO_7.out) (Kd.R_typed (by (with_reducible repeat (first | apply Kd.R_alloc | apply Kd.R_drewN | apply Kd.R_drew)); exact HO_6.out)) (by decide) hg); replace HI432 := za (IsS68.grown (by repeat (first | (with_reducible first | exact HI432.out | apply IsS68.alloc | apply IsS68.drewN | apply IsS68.drew | apply IsS68.set_1) | exact HI432.out)) hg (IsS68.own_ne HI432.out HO_6.out (by decide))); replace HB := za (hb); clear HO_6 ho hb hg hat) | (go_at_call 20; (with_reducible refine (awardingbodymake_Tape_Next.calls g432 t430 t438 10 t442 t443 w _ ?side1 ?side2 A12.out).mono ?_); (case side1 => repeat (first | (with_reducible first | exact HI432.out | apply IsS68.alloc | apply IsS68.drewN | apply IsS68.drew | apply IsS68.set_1) | exact HI432.out)); (case side2 => repeat (first | (with_reducible first | exact HB.out | apply below_alloc | apply pw_below_drewN | apply below_drew1 | refine below_set ?_ (IsS68.ge HI432.out)) | exact HB.out)); rintro e w17 ⟨rfl, hi, hb, hk⟩; replace HO_7 := za (Kd.R_mono (Kd.R_keep (IsS68.apart (show IsS68 w _ g432 t430 t438 from by repeat (first | (with_reducible first | exact HI432.out | apply IsS68.alloc | apply IsS68.drewN | apply IsS68.drew | apply IsS68.set_1) | exact HI432.out)) (by (with_reducible repeat (first | apply Kd.R_alloc | apply Kd.R_drewN | apply Kd.R_drew)); exact HO_7.out) (by decide)) hk (fun _ h => h.2)) (fun _ h => h.1)); replace HO441 := za (Kd.R_mono (Kd.R_keep (IsS68.apart (show IsS68 w _ g432 t430 t438 from by repeat (first | (with_reducible first | exact HI432.out | apply IsS68.alloc | apply IsS68.drewN | apply IsS68.drew | apply IsS68.set_1) | exact HI432.out)) (by (with_reducible repeat (first | apply Kd.R_alloc | apply Kd.R_drewN | apply Kd.R_drew)); exact HO441.out) (by decide)) hk (fun _ h => h.2)) (fun _ h => h.1)); replace HB := za (hb); replace HI432 := za (hi); (try clear hb); (try clear hb2); (try clear hk); (try clear hi)) | ((with_reducible refine gate_builtin (b := .append) (xs := #[.tmp 36, .tmp 39]) rfl ?_); at_builtin; refine Kd.R_append (Kd.int .i64) (w0 := w) w.heap.size rfl (.tmp 36) (.tmp 39) 28 3 (.int .i64 0) 8 rfl Try.underlying28 info3 rfl (by decide) (by omega) u7 x7_1 t442 [.int .i64 t442] (fun _ => True) (fun _ => False) rfl rfl ?aP (fun _ hk => hk.elim) ?aF ?aO ?aB ?aS ?aL ?_; (case aP => exact rfl); (case aB => exact (zm HB)); (case aF => exact (fun _ _ => trivial)); (case aO => exact (by (with_reducible repeat (first | apply Kd.R_alloc | apply Kd.R_drewN | apply Kd.R_drew)); exact HO_7.out)); (case aS => exact (below_size (zm HB))); (case aL => have := LMc13.out; omega); intro v445 w18 ho hb hg hat; rw [← Ny444.out] at ho; have HO446 := za (ho); replace HI432 := za (IsS68.grown (by repeat (first | (with_reducible first | exact HI432.out | apply IsS68.alloc | apply IsS68.drewN | apply IsS68.drew | apply IsS68.set_1) | exact HI432.out)) hg (IsS68.own_ne HI432.out HO_7.out (by decide))); replace HO441 := za (Kd.R_over' (by (with_reducible repeat (first | apply Kd.R_alloc | apply Kd.R_drewN | apply Kd.R_drew)); exact HO441.out) (Kd.R_typed (by (with_reducible repeat (first | apply Kd.R_alloc | apply Kd.R_drewN | apply Kd.R_drew)); exact HO_7.out)) (by decide) hg); replace HB := za (hb); clear HO_7 ho hb hg hat))
       repeat (go_quiet (first | (go_at_call 20; (with_reducible refine (awardingbodymake_Tape_Next.calls g432 t430 x433001_1 3 t435 t436 w _ ?side1 ?side2 A9.out).mono ?_); (case side1 => repeat (first | (with_reducible first | exact HI432.out | apply IsS68.alloc | apply IsS68.drewN | apply IsS68.drew | apply IsS68.set_1) | exact HI432.out)); (case side2 => repeat (first | (with_reducible first | exact HB.out | apply below_alloc | apply pw_below_drewN | apply below_drew1 | refine below_set ?_ (IsS68.ge HI432.out)) | exact HB.out)); rintro e w14 ⟨rfl, hi, hb, hk⟩; replace HO_6 := za (Kd.R_mono (Kd.R_keep (IsS68.apart (show IsS68 w _ g432 t430 x433001_1 from by repeat (first | (with_reducible first | exact HI432.out | apply IsS68.alloc | apply IsS68.drewN | apply IsS68.drew | apply IsS68.set_1) | exact HI432.out)) (by (with_reducible repeat (first | apply Kd.R_alloc | apply Kd.R_drewN | apply Kd.R_drew)); exact HO_6.out) (by decide)) hk (fun _ h => h.2)) (fun _ h => h.1)); replace HO_7 := za (Kd.R_mono (Kd.R_keep (IsS68.apart (show IsS68 w _ g432 t430 x433001_1 from by repeat (first | (with_reducible first | exact HI432.out | apply IsS68.alloc | apply IsS68.drewN | apply IsS68.drew | apply IsS68.set_1) | exact HI432.out)) (by (with_reducible repeat (first | apply Kd.R_alloc | apply Kd.R_drewN | apply Kd.R_drew)); exact HO_7.out) (by decide)) hk (fun _ h => h.2)) (fun _ h => h.1)); replace HB := za (hb); replace HI432 := za (hi); (try clear hb); (try clear hb2); (try clear hk); (try clear hi)) | (go_at_call 20; (with_reducible refine (awardingbodymake_Tape_Next.calls g432 t430 t436 3 t437 t438 w _ ?side1 ?side2 A10.out).mono ?_); (case side1 => repeat (first | (with_reducible first | exact HI432.out | apply IsS68.alloc | apply IsS68.drewN | apply IsS68.drew | apply IsS68.set_1) | exact HI432.out)); (case side2 => repeat (first | (with_reducible first | exact HB.out | apply below_alloc | apply pw_below_drewN | apply below_drew1 | refine below_set ?_ (IsS68.ge HI432.out)) | exact HB.out)); rintro e w15 ⟨rfl, hi, hb, hk⟩; replace HO_6 := za (Kd.R_mono (Kd.R_keep (IsS68.apart (show IsS68 w _ g432 t430 t436 from by repeat (first | (with_reducible first | exact HI432.out | apply IsS68.alloc | apply IsS68.drewN | apply IsS68.drew | apply IsS68.set_1) | exact HI432.out)) (by (with_reducible repeat (first | apply Kd.R_alloc | apply Kd.R_drewN | apply Kd.R_drew)); exact HO_6.out) (by decide)) hk (fun _ h => h.2)) (fun _ h => h.1)); replace HO_7 := za (Kd.R_mono (Kd.R_keep (IsS68.apart (show IsS68 w _ g432 t430 t436 from by repeat (first | (with_reducible first | exact HI432.out | apply IsS68.alloc | apply IsS68.drewN | apply IsS68.drew | apply IsS68.set_1) | exact HI432.out)) (by (with_reducible repeat (first | apply Kd.R_alloc | apply Kd.R_drewN | apply Kd.R_drew)); exact HO_7.out) (by decide)) hk (fun _ h => h.2)) (fun _ h => h.1)); replace HB := za (hb); replace HI432 := za (hi); (try clear hb); (try clear hb2); (try clear hk); (try clear hi)) | ((with_reducible refine gate_builtin (b := .append) (xs := #[.tmp 28, .tmp 34]) rfl ?_); at_builtin; refine Kd.R_append k46 (w0 := w) w.heap.size rfl (.tmp 28) (.tmp 34) 44 46 (.agg #[(.int .i64 0), (.int .i64 0)]) 16 rfl Try.underlying44 info46 rfl (by decide) (by omega) u6 x6_1 (⟨t435, t437⟩ : S46) [.int .i64 t435, .int .i64 t437] (fun _ => True) (fun _ => False) rfl rfl ?aP (fun _ hk => hk.elim) ?aF ?aO ?aB ?aS ?aL ?_; (case aP => exact k46_mkM _ _ _ (⟨t435, t437⟩ : S46)); (case aB => exact (zm HB)); (case aF => exact (fun _ _ => trivial)); (case aO => exact (by (with_reducible repeat (first | apply Kd.R_alloc | apply Kd.R_drewN | apply Kd.R_drew)); exact HO_6.out)); (case aS => exact (below_size (zm HB))); (case aL => have := LMc11.out; omega); intro v440 w16 ho hb hg hat; rw [← Ny439.out] at ho; have HO441 := za (ho); replace HO_7 := za (Kd.R_over' (by (with_reducible repeat (first | apply Kd.R_alloc | apply Kd.R_drewN | apply Kd.R_drew)); exact HO_7.out) (Kd.R_typed (by (with_reducible repeat (first | apply Kd.R_alloc | apply Kd.R_drewN | apply Kd.R_drew)); exact HO_6.out)) (by decide) hg); replace HI432 := za (IsS68.grown (by repeat (first | (with_reducible first | exact HI432.out | apply IsS68.alloc | apply IsS68.drewN | apply IsS68.drew | apply IsS68.set_1) | exact HI432.out)) hg (IsS68.own_ne HI432.out HO_6.out (by decide))); replace HB := za (hb); clear HO_6 ho hb hg hat) | (go_at_call 20; (with_reducible refine (awardingbodymake_Tape_Next.calls g432 t430 t438 10 t442 t443 w _ ?side1 ?side2 A12.out).mono ?_); (case side1 => repeat (first | (with_reducible first | exact HI432.out | apply IsS68.alloc | apply IsS68.drewN | apply IsS68.drew | apply IsS68.set_1) | exact HI432.out)); (case side2 => repeat (first | (with_reducible first | exact HB.out | apply below_alloc | apply pw_below_drewN | apply below_drew1 | refine below_set ?_ (IsS68.ge HI432.out)) | exact HB.out)); rintro e w17 ⟨rfl, hi, hb, hk⟩; replace HO_7 := za (Kd.R_mono (Kd.R_keep (IsS68.apart (show IsS68 w _ g432 t430 t438 from by repeat (first | (with_reducible first | exact HI432.out | apply IsS68.alloc | apply IsS68.drewN | apply IsS68.drew | apply IsS68.set_1) | exact HI432.out)) (by (with_reducible repeat (first | apply Kd.R_alloc | apply Kd.R_drewN | apply Kd.R_drew)); exact HO_7.out) (by decide)) hk (fun _ h => h.2)) (fun _ h => h.1)); replace HO441 := za (Kd.R_mono (Kd.R_keep (IsS68.apart (show IsS68 w _ g432 t430 t438 from by repeat (first | (with_reducible first | exact HI432.out | apply IsS68.alloc | apply IsS68.drewN | apply IsS68.drew | apply IsS68.set_1) | exact HI432.out)) (by (with_reducible repeat (first | apply Kd.R_alloc | apply Kd.R_drewN | apply Kd.R_drew)); exact HO441.out) (by decide)) hk (fun _ h => h.2)) (fun _ h => h.1)); replace HB := za (hb); replace HI432 := za (hi); (try clear hb); (try clear hb2); (try clear hk); (try clear hi)) | ((with_reducible refine gate_builtin (b := .append) (xs := #[.tmp 36, .tmp 39]) rfl ?_); at_builtin; refine Kd.R_append (Kd.int .i64) (w0 := w) w.heap.size rfl (.tmp 36) (.tmp 39) 28 3 (.int .i64 0) 8 rfl Try.underlying28 info3 rfl (by decide) (by omega) u7 x7_1 t442 [.int .i64 t442] (fun _ => True) (fun _ => False) rfl rfl ?aP (fun _ hk => hk.elim) ?aF ?aO ?aB ?aS ?aL ?_; (case aP => exact rfl); (case aB => exact (zm HB)); (case aF => exact (fun _ _ => trivial)); (case aO => exact (by (with_reducible repeat (first | apply Kd.R_alloc | apply Kd.R_drewN | apply Kd.R_drew)); exact HO_7.out)); (case aS => exact (below_size (zm HB))); (case aL => have := LMc13.out; omega); intro v445 w18 ho hb hg hat; rw [← Ny444.out] at ho; have HO446 := za (ho); replace HI432 := za (IsS68.grown (by repeat (first | (with_reducible first | exact HI432.out | apply IsS68.alloc | apply IsS68.drewN | apply IsS68.drew | apply IsS68.set_1) | exact HI432.out)) hg (IsS68.own_ne HI432.out HO_7.out (by decide))); replace HO441 := za (Kd.R_over' (by (with_reducible repeat (first | apply Kd.R_alloc | apply Kd.R_drewN | apply Kd.R_drew)); exact HO441.out) (Kd.R_typed (by (with_reducible repeat (first | apply Kd.R_alloc | apply Kd.R_drewN | apply Kd.R_drew)); exact HO_7.out)) (by decide) hg); replace HB := za (hb); clear HO_7 ho hb hg hat)); try go_wp2_with (first | (go_at_call 20; (with_reducible refine (awardingbodymake_Tape_Next.calls g432 t430 x433001_1 3 t435 t436 w _ ?side1 ?side2 A9.out).mono ?_); (case side1 => repeat (first | (with_reducible first | exact HI432.out | apply IsS68.alloc | apply IsS68.drewN | apply IsS68.drew | apply IsS68.set_1) | exact HI432.out)); (case side2 => repeat (first | (with_reducible first | exact HB.out | apply below_alloc | apply pw_below_drewN | apply below_drew1 | refine below_set ?_ (IsS68.ge HI432.out)) | exact HB.out)); rintro e w14 ⟨rfl, hi, hb, hk⟩; replace HO_6 := za (Kd.R_mono (Kd.R_keep (IsS68.apart (show IsS68 w _ g432 t430 x433001_1 from by repeat (first | (with_reducible first | exact HI432.out | apply IsS68.alloc | apply IsS68.drewN | apply IsS68.drew | apply IsS68.set_1) | exact HI432.out)) (by (with_reducible repeat (first | apply Kd.R_alloc | apply Kd.R_drewN | apply Kd.R_drew)); exact HO_6.out) (by decide)) hk (fun _ h => h.2)) (fun _ h => h.1)); replace HO_7 := za (Kd.R_mono (Kd.R_keep (IsS68.apart (show IsS68 w _ g432 t430 x433001_1 from by repeat (first | (with_reducible first | exact HI432.out | apply IsS68.alloc | apply IsS68.drewN | apply IsS68.drew | apply IsS68.set_1) | exact HI432.out)) (by (with_reducible repeat (first | apply Kd.R_alloc | apply Kd.R_drewN | apply Kd.R_drew)); exact HO_7.out) (by decide)) hk (fun _ h => h.2)) (fun _ h => h.1)); replace HB := za (hb); replace HI432 := za (hi); (try clear hb); (try clear hb2); (try clear hk); (try clear hi)) | (go_at_call 20; (with_reducible refine (awardingbodymake_Tape_Next.calls g432 t430 t436 3 t437 t438 w _ ?side1 ?side2 A10.out).mono ?_); (case side1 => repeat (first | (with_reducible first | exact HI432.out | apply IsS68.alloc | apply IsS68.drewN | apply IsS68.drew | apply IsS68.set_1) | exact HI432.out)); (case side2 => repeat (first | (with_reducible first | exact HB.out | apply below_alloc | apply pw_below_drewN | apply below_drew1 | refine below_set ?_ (IsS68.ge HI432.out)) | exact HB.out)); rintro e w15 ⟨rfl, hi, hb, hk⟩; replace HO_6 := za (Kd.R_mono (Kd.R_keep (IsS68.apart (show IsS68 w _ g432 t430 t436 from by repeat (first | (with_reducible first | exact HI432.out | apply IsS68.alloc | apply IsS68.drewN | apply IsS68.drew | apply IsS68.set_1) | exact HI432.out)) (by (with_reducible repeat (first | apply Kd.R_alloc | apply Kd.R_drewN | apply Kd.R_drew)); exact HO_6.out) (by decide)) hk (fun _ h => h.2)) (fun _ h => h.1)); replace HO_7 := za (Kd.R_mono (Kd.R_keep (IsS68.apart (show IsS68 w _ g432 t430 t436 from by repeat (first | (with_reducible first | exact HI432.out | apply IsS68.alloc | apply IsS68.drewN | apply IsS68.drew | apply IsS68.set_1) | exact HI432.out)) (by (with_reducible repeat (first | apply Kd.R_alloc | apply Kd.R_drewN | apply Kd.R_drew)); exact HO_7.out) (by decide)) hk (fun _ h => h.2)) (fun _ h => h.1)); replace HB := za (hb); replace HI432 := za (hi); (try clear hb); (try clear hb2); (try clear hk); (try clear hi)) | ((with_reducible refine gate_builtin (b := .append) (xs := #[.tmp 28, .tmp 34]) rfl ?_); at_builtin; refine Kd.R_append k46 (w0 := w) w.heap.size rfl (.tmp 28) (.tmp 34) 44 46 (.agg #[(.int .i64 0), (.int .i64 0)]) 16 rfl Try.underlying44 info46 rfl (by decide) (by omega) u6 x6_1 (⟨t435, t437⟩ : S46) [.int .i64 t435, .int .i64 t437] (fun _ => True) (fun _ => False) rfl rfl ?aP (fun _ hk => hk.elim) ?aF ?aO ?aB ?aS ?aL ?_; (case aP => exact k46_mkM _ _ _ (⟨t435, t437⟩ : S46)); (case aB => exact (zm HB)); (case aF => exact (fun _ _ => trivial)); (case aO => exact (by (with_reducible repeat (first | apply Kd.R_alloc | apply Kd.R_drewN | apply Kd.R_drew)); exact HO_6.out)); (case aS => exact (below_size (zm HB))); (case aL => have := LMc11.out; omega); intro v440 w16 ho hb hg hat; rw [← Ny439.out] at ho; have HO441 := za (ho); replace HO_7 := za (Kd.R_over' (by (with_reducible repeat (first | apply Kd.R_alloc | apply Kd.R_drewN | apply Kd.R_drew)); exact HO_7.out) (Kd.R_typed (by (with_reducible repeat (first | apply Kd.R_alloc | apply Kd.R_drewN | apply Kd.R_drew)); exact HO_6.out)) (by decide) hg); replace HI432 := za (IsS68.grown (by repeat (first | (with_reducible first | exact HI432.out | apply IsS68.alloc | apply IsS68.drewN | apply IsS68.drew | apply IsS68.set_1) | exact HI432.out)) hg (IsS68.own_ne HI432.out HO_6.out (by decide))); replace HB := za (hb); clear HO_6 ho hb hg hat) | (go_at_call 20; (with_reducible refine (awardingbodymake_Tape_Next.calls g432 t430 t438 10 t442 t443 w _ ?side1 ?side2 A12.out).mono ?_); (case side1 => repeat (first | (with_reducible first | exact HI432.out | apply IsS68.alloc | apply IsS68.drewN | apply IsS68.drew | apply IsS68.set_1) | exact HI432.out)); (case side2 => repeat (first | (with_reducible first | exact HB.out | apply below_alloc | apply pw_below_drewN | apply below_drew1 | refine below_set ?_ (IsS68.ge HI432.out)) | exact HB.out)); rintro e w17 ⟨rfl, hi, hb, hk⟩; replace HO_7 := za (Kd.R_mono (Kd.R_keep (IsS68.apart (show IsS68 w _ g432 t430 t438 from by repeat (first | (with_reducible first | exact HI432.out | apply IsS68.alloc | apply IsS68.drewN | apply IsS68.drew | apply IsS68.set_1) | exact HI432.out)) (by (with_reducible repeat (first | apply Kd.R_alloc | apply Kd.R_drewN | apply Kd.R_drew)); exact HO_7.out) (by decide)) hk (fun _ h => h.2)) (fun _ h => h.1)); replace HO441 := za (Kd.R_mono (Kd.R_keep (IsS68.apart (show IsS68 w _ g432 t430 t438 from by repeat (first | (with_reducible first | exact HI432.out | apply IsS68.alloc | apply IsS68.drewN | apply IsS68.drew | apply IsS68.set_1) | exact HI432.out)) (by (with_reducible repeat (first | apply Kd.R_alloc | apply Kd.R_drewN | apply Kd.R_drew)); exact HO441.out) (by decide)) hk (fun _ h => h.2)) (fun _ h => h.1)); replace HB := za (hb); replace HI432 := za (hi); (try clear hb); (try clear hb2); (try clear hk); (try clear hi)) | ((with_reducible refine gate_builtin (b := .append) (xs := #[.tmp 36, .tmp 39]) rfl ?_); at_builtin; refine Kd.R_append (Kd.int .i64) (w0 := w) w.heap.size rfl (.tmp 36) (.tmp 39) 28 3 (.int .i64 0) 8 rfl Try.underlying28 info3 rfl (by decide) (by omega) u7 x7_1 t442 [.int .i64 t442] (fun _ => True) (fun _ => False) rfl rfl ?aP (fun _ hk => hk.elim) ?aF ?aO ?aB ?aS ?aL ?_; (case aP => exact rfl); (case aB => exact (zm HB)); (case aF => exact (fun _ _ => trivial)); (case aO => exact (by (with_reducible repeat (first | apply Kd.R_alloc | apply Kd.R_drewN | apply Kd.R_drew)); exact HO_7.out)); (case aS => exact (below_size (zm HB))); (case aL => have := LMc13.out; omega); intro v445 w18 ho hb hg hat; rw [← Ny444.out] at ho; have HO446 := za (ho); replace HI432 := za (IsS68.grown (by repeat (first | (with_reducible first | exact HI432.out | apply IsS68.alloc | apply IsS68.drewN | apply IsS68.drew | apply IsS68.set_1) | exact HI432.out)) hg (IsS68.own_ne HI432.out HO_7.out (by decide))); replace HO441 := za (Kd.R_over' (by (with_reducible repeat (first | apply Kd.R_alloc | apply Kd.R_drewN | apply Kd.R_drew)); exact HO441.out) (Kd.R_typed (by (with_reducible repeat (first | apply Kd.R_alloc | apply Kd.R_drewN | apply Kd.R_drew)); exact HO_7.out)) (by decide) hg); replace HB := za (hb); clear HO_7 ho hb hg hat)))
       go_roundg k1
       case measure => have := HK1.out; omega
       case rel => exact ⟨(y439), (y444), (wrap64 (x9_1 - 1)), (t443), (by first | rfl | (simp; done) | (simp [*]; done)), H', ⟨by have := HK1.out; omega⟩, ⟨by (with_reducible repeat (first | apply Kd.R_alloc | apply Kd.R_drewN | apply Kd.R_drew)); exact HO441.out⟩, ⟨by (with_reducible repeat (first | apply Kd.R_alloc | apply Kd.R_drewN | apply Kd.R_drew)); exact HO446.out⟩, ⟨by repeat (first | (with_reducible first | exact HI432.out | apply IsS68.alloc | apply IsS68.drewN | apply IsS68.drew | apply IsS68.set_1) | exact HI432.out)⟩, ⟨zm HB⟩⟩
      ·rw [if_neg c13] at H
       exact absurd H (by simp)
     ·rw [if_neg c11] at H
      exact absurd H (by simp)
    ·rw [if_neg c8] at H
     have c8b0 : decide (0 < x9_1) = false := decide_eq_false c8
     clear c8
     have H' := za H
     clear H
     go_wp2
     repeat (go_quiet (fail); try go_wp2)
     go_loopg [8, 10] k1 (fun kq v8 v10 w' => ∃ (x8_2 : List Int) (x10_2 : Int), v10 = .int .i64 x10_2 ∧ Aside0 (awardingbodylaw20_BubbleSplits.l1 kq l0 x6_1 x7_1 x8_2 x10_2 t430 x433001_1 = some r) ∧ Aside0 (kq ≤ k1) ∧ Aside0 (Kd.R k46 46 w' w.heap.size (fun _ => True) u6 x6_1) ∧ Aside0 (Kd.R (Kd.int .i64) 3 w' w.heap.size (fun k_ => some k_ ≠ (v8 : Value).ownBlock) u7 x7_1) ∧ Aside0 (Kd.R (Kd.int .i64) 3 w' w.heap.size (fun k_ => some k_ ≠ (u7 : Value).ownBlock) v8 x8_2) ∧ Aside0 (IsS68 w w' g432 t430 x433001_1) ∧ Aside0 (Below w.heap.size w w'))
     case atStart => exact ⟨(([] : List Int)), (0), (by first | rfl | (simp; done) | (simp [*]; done)), H', ⟨Nat.le_refl _⟩, ⟨by (with_reducible repeat (first | apply Kd.R_alloc | apply Kd.R_drewN | apply Kd.R_drew)); exact HO_6.out⟩, ⟨by (with_reducible repeat (first | apply Kd.R_alloc | apply Kd.R_drewN | apply Kd.R_drew)); exact Kd.R_mono HO_7.out (fun _ hk => (by simp [Value.ownBlock]))⟩, ⟨by first | exact Kd.R_nil _ _ _ _ _ | exact Kd.N_nil _ _ _ _ _ | exact Kd.V_nil _ _ _ _ _ | exact Kd.Q_nil _ _ _ _ _ | exact Kd.S_nil _ _ _ _ _⟩, ⟨by repeat (first | (with_reducible first | exact HI432.out | apply IsS68.alloc | apply IsS68.drewN | apply IsS68.drew | apply IsS68.set_1) | exact HI432.out)⟩, ⟨zm HB⟩⟩
     case round =>
      clear H'
      try clear c1
      try clear p2
      try clear c3
      try clear c3b0
      try clear c3b1
      try clear p6
      try clear c8
      try clear c8b0
      try clear c11
      try clear c13
      try clear p2
      obtain ⟨x8_2, x10_2, rfl, HA, HK2, HO_6, HO_7, HO_8, HI432, HB⟩ := hrel
      cases gk with
      | zero => exact absurd HA.out (by simp [awardingbodylaw20_BubbleSplits.l1])
      | succ k2 =>
       have H := HA.out
       clear HA
       simp only [awardingbodylaw20_BubbleSplits.l1] at H
       by_cases c19 : x10_2 < (l0.length : Int)
       ·rw [if_pos c19] at H
        have c19b0 : decide (x10_2 < (l0.length : Int)) = true := decide_eq_true c19
        clear c19
        by_cases c20 : x8_2.length < 17592186044416
        ·rw [if_pos c20] at H
         have LMc20 := za c20
         clear c20
         obtain ⟨y447, hy447⟩ : ∃ y_ : List Int, y_ = (x8_2 ++ [x10_2]) := ⟨_, rfl⟩
         replace H : (awardingbodylaw20_BubbleSplits.l1 k2 l0 x6_1 x7_1 y447 (wrap64 (x10_2 + 1)) t430 x433001_1) = some r := by first | (rw [hy447]; with_reducible exact H) | (have H2_ := (Option.bind_some _ _).symm.trans H; rw [hy447]; with_reducible exact H2_) | (have H2_ := (Option.bind_some _ _).symm.trans H; with_reducible exact H2_) | with_reducible exact H | (rw [hy447]; exact H) | exact H
         have Ny447 := za hy447
         clear hy447
         have H' := za H
         clear H
         go_wp2_with (first | ((with_reducible refine gate_builtin (b := .append) (xs := #[.tmp 47, .tmp 49]) rfl ?_); at_builtin; refine Kd.R_append (Kd.int .i64) (w0 := w) w.heap.size rfl (.tmp 47) (.tmp 49) 28 3 (.int .i64 0) 8 rfl Try.underlying28 info3 rfl (by decide) (by omega) u8 x8_2 x10_2 [.int .i64 x10_2] (fun k_ => some k_ ≠ (u7 : Value).ownBlock) (fun _ => False) rfl rfl ?aP (fun _ hk => hk.elim) ?aF ?aO ?aB ?aS ?aL ?_; (case aP => exact rfl); (case aB => exact (zm HB)); (case aF => exact (fun k_ hk => Kd.fresh' (Kd.R_lt (by (with_reducible repeat (first | apply Kd.R_alloc | apply Kd.R_drewN | apply Kd.R_drew)); exact HO_7.out)) k_ hk)); (case aO => exact (by (with_reducible repeat (first | apply Kd.R_alloc | apply Kd.R_drewN | apply Kd.R_drew)); exact HO_8.out)); (case aS => exact (below_size (zm HB))); (case aL => have := LMc20.out; omega); intro v448 w21 ho hb hg hat; rw [← Ny447.out] at ho; have HO449 := za (ho); replace HO_6 := za (Kd.R_over' (by (with_reducible repeat (first | apply Kd.R_alloc | apply Kd.R_drewN | apply Kd.R_drew)); exact HO_6.out) (Kd.R_typed (by (with_reducible repeat (first | apply Kd.R_alloc | apply Kd.R_drewN | apply Kd.R_drew)); exact HO_8.out)) (by decide) hg); replace HO_7 := za (Kd.R_after (ok := (fun _ => True)) (by (with_reducible repeat (first | apply Kd.R_alloc | apply Kd.R_drewN | apply Kd.R_drew)); exact Kd.R_mono HO_7.out (fun _ hk => ⟨trivial, hk⟩)) hg hat); replace HI432 := za (IsS68.grown (by repeat (first | (with_reducible first | exact HI432.out | apply IsS68.alloc | apply IsS68.drewN | apply IsS68.drew | apply IsS68.set_1) | exact HI432.out)) hg (IsS68.own_ne HI432.out HO_8.out (by decide))); replace HB := za (hb); clear HO_8 ho hb hg hat))
         repeat (go_quiet (first | ((with_reducible refine gate_builtin (b := .append) (xs := #[.tmp 47, .tmp 49]) rfl ?_); at_builtin; refine Kd.R_append (Kd.int .i64) (w0 := w) w.heap.size rfl (.tmp 47) (.tmp 49) 28 3 (.int .i64 0) 8 rfl Try.underlying28 info3 rfl (by decide) (by omega) u8 x8_2 x10_2 [.int .i64 x10_2] (fun k_ => some k_ ≠ (u7 : Value).ownBlock) (fun _ => False) rfl rfl ?aP (fun _ hk => hk.elim) ?aF ?aO ?aB ?aS ?aL ?_; (case aP => exact rfl); (case aB => exact (zm HB)); (case aF => exact (fun k_ hk => Kd.fresh' (Kd.R_lt (by (with_reducible repeat (first | apply Kd.R_alloc | apply Kd.R_drewN | apply Kd.R_drew)); exact HO_7.out)) k_ hk)); (case aO => exact (by (with_reducible repeat (first | apply Kd.R_alloc | apply Kd.R_drewN | apply Kd.R_drew)); exact HO_8.out)); (case aS => exact (below_size (zm HB))); (case aL => have := LMc20.out; omega); intro v448 w21 ho hb hg hat; rw [← Ny447.out] at ho; have HO449 := za (ho); replace HO_6 := za (Kd.R_over' (by (with_reducible repeat (first | apply Kd.R_alloc | apply Kd.R_drewN | apply Kd.R_drew)); exact HO_6.out) (Kd.R_typed (by (with_reducible repeat (first | apply Kd.R_alloc | apply Kd.R_drewN | apply Kd.R_drew)); exact HO_8.out)) (by decide) hg); replace HO_7 := za (Kd.R_after (ok := (fun _ => True)) (by (with_reducible repeat (first | apply Kd.R_alloc | apply Kd.R_drewN | apply Kd.R_drew)); exact Kd.R_mono HO_7.out (fun _ hk => ⟨trivial, hk⟩)) hg hat); replace HI432 := za (IsS68.grown (by repeat (first | (with_reducible first | exact HI432.out | apply IsS68.alloc | apply IsS68.drewN | apply IsS68.drew | apply IsS68.set_1) | exact HI432.out)) hg (IsS68.own_ne HI432.out HO_8.out (by decide))); replace HB := za (hb); clear HO_8 ho hb hg hat)); try go_wp2_with (first | ((with_reducible refine gate_builtin (b := .append) (xs := #[.tmp 47, .tmp 49]) rfl ?_); at_builtin; refine Kd.R_append (Kd.int .i64) (w0 := w) w.heap.size rfl (.tmp 47) (.tmp 49) 28 3 (.int .i64 0) 8 rfl Try.underlying28 info3 rfl (by decide) (by omega) u8 x8_2 x10_2 [.int .i64 x10_2] (fun k_ => some k_ ≠ (u7 : Value).ownBlock) (fun _ => False) rfl rfl ?aP (fun _ hk => hk.elim) ?aF ?aO ?aB ?aS ?aL ?_; (case aP => exact rfl); (case aB => exact (zm HB)); (case aF => exact (fun k_ hk => Kd.fresh' (Kd.R_lt (by (with_reducible repeat (first | apply Kd.R_alloc | apply Kd.R_drewN | apply Kd.R_drew)); exact HO_7.out)) k_ hk)); (case aO => exact (by (with_reducible repeat (first | apply Kd.R_alloc | apply Kd.R_drewN | apply Kd.R_drew)); exact HO_8.out)); (case aS => exact (below_size (zm HB))); (case aL => have := LMc20.out; omega); intro v448 w21 ho hb hg hat; rw [← Ny447.out] at ho; have HO449 := za (ho); replace HO_6 := za (Kd.R_over' (by (with_reducible repeat (first | apply Kd.R_alloc | apply Kd.R_drewN | apply Kd.R_drew)); exact HO_6.out) (Kd.R_typed (by (with_reducible repeat (first | apply Kd.R_alloc | apply Kd.R_drewN | apply Kd.R_drew)); exact HO_8.out)) (by decide) hg); replace HO_7 := za (Kd.R_after (ok := (fun _ => True)) (by (with_reducible repeat (first | apply Kd.R_alloc | apply Kd.R_drewN | apply Kd.R_drew)); exact Kd.R_mono HO_7.out (fun _ hk => ⟨trivial, hk⟩)) hg hat); replace HI432 := za (IsS68.grown (by repeat (first | (with_reducible first | exact HI432.out | apply IsS68.alloc | apply IsS68.drewN | apply IsS68.drew | apply IsS68.set_1) | exact HI432.out)) hg (IsS68.own_ne HI432.out HO_8.out (by decide))); replace HB := za (hb); clear HO_8 ho hb hg hat)))
         go_roundg k2
         case measure => have := HK1.out; have := HK2.out; omega
         case rel => exact ⟨(y447), (wrap64 (x10_2 + 1)), (by first | rfl | (simp; done) | (simp [*]; done)), H', ⟨by have := HK1.out; have := HK2.out; omega⟩, ⟨by (with_reducible repeat (first | apply Kd.R_alloc | apply Kd.R_drewN | apply Kd.R_drew)); exact HO_6.out⟩, ⟨by (with_reducible repeat (first | apply Kd.R_alloc | apply Kd.R_drewN | apply Kd.R_drew)); exact Kd.R_mono HO_7.out (fun _ hk => hk.2)⟩, ⟨by (with_reducible repeat (first | apply Kd.R_alloc | apply Kd.R_drewN | apply Kd.R_drew)); exact HO449.out⟩, ⟨by repeat (first | (with_reducible first | exact HI432.out | apply IsS68.alloc | apply IsS68.drewN | apply IsS68.drew | apply IsS68.set_1) | exact HI432.out)⟩, ⟨zm HB⟩⟩
        ·rw [if_neg c20] at H
         exact absurd H (by simp)
       ·rw [if_neg c19] at H
        have c19b0 : decide (x10_2 < (l0.length : Int)) = false := decide_eq_false c19
        clear c19
        replace H := Option.bind_eq_some_iff.mp H
        obtain ⟨⟨t450, t451⟩, A220, H⟩ := H
        replace H : (if t450 = true then (if x7_1.length < 17592186044416 then (awardingbodylaw20_BubbleSplits.j2 k2 l0 x6_1 (x7_1 ++ [1]) x8_2) else (none)) else (awardingbodylaw20_BubbleSplits.j2 k2 l0 x6_1 x7_1 x8_2)) = some r := H
        have A22 := za A220
        clear A220
        have HC23 := za H
        clear H
        go_upto_if 52 with (first | (go_at_call 18; (with_reducible refine (awardingbodymake_Tape_One.calls g432 t430 x433001_1 8 t450 t451 w _ ?side1 ?side2 A22.out).mono ?_); (case side1 => repeat (first | (with_reducible first | exact HI432.out | apply IsS68.alloc | apply IsS68.drewN | apply IsS68.drew | apply IsS68.set_1) | exact HI432.out)); (case side2 => repeat (first | (with_reducible first | exact HB.out | apply below_alloc | apply pw_below_drewN | apply below_drew1 | refine below_set ?_ (IsS68.ge HI432.out)) | exact HB.out)); rintro e w24 ⟨rfl, hi, hb, hk⟩; replace HO_6 := za (Kd.R_mono (Kd.R_keep (IsS68.apart (show IsS68 w _ g432 t430 x433001_1 from by repeat (first | (with_reducible first | exact HI432.out | apply IsS68.alloc | apply IsS68.drewN | apply IsS68.drew | apply IsS68.set_1) | exact HI432.out)) (by (with_reducible repeat (first | apply Kd.R_alloc | apply Kd.R_drewN | apply Kd.R_drew)); exact HO_6.out) (by decide)) hk (fun _ h => h.2)) (fun _ h => h.1)); replace HO_7 := za (Kd.R_mono (Kd.R_keep (IsS68.apart (show IsS68 w _ g432 t430 x433001_1 from by repeat (first | (with_reducible first | exact HI432.out | apply IsS68.alloc | apply IsS68.drewN | apply IsS68.drew | apply IsS68.set_1) | exact HI432.out)) (by (with_reducible repeat (first | apply Kd.R_alloc | apply Kd.R_drewN | apply Kd.R_drew)); exact HO_7.out) (by decide)) hk (fun _ h => h.2)) (fun _ h => h.1)); replace HO_8 := za (Kd.R_mono (Kd.R_keep (IsS68.apart (show IsS68 w _ g432 t430 x433001_1 from by repeat (first | (with_reducible first | exact HI432.out | apply IsS68.alloc | apply IsS68.drewN | apply IsS68.drew | apply IsS68.set_1) | exact HI432.out)) (by (with_reducible repeat (first | apply Kd.R_alloc | apply Kd.R_drewN | apply Kd.R_drew)); exact HO_8.out) (by decide)) hk (fun _ h => h.2)) (fun _ h => h.1)); replace HB := za (hb); replace HI432 := za (hi); (try clear hb); (try clear hb2); (try clear hk); (try clear hi)))
        repeat (go_quiet (first | (go_at_call 18; (with_reducible refine (awardingbodymake_Tape_One.calls g432 t430 x433001_1 8 t450 t451 w _ ?side1 ?side2 A22.out).mono ?_); (case side1 => repeat (first | (with_reducible first | exact HI432.out | apply IsS68.alloc | apply IsS68.drewN | apply IsS68.drew | apply IsS68.set_1) | exact HI432.out)); (case side2 => repeat (first | (with_reducible first | exact HB.out | apply below_alloc | apply pw_below_drewN | apply below_drew1 | refine below_set ?_ (IsS68.ge HI432.out)) | exact HB.out)); rintro e w24 ⟨rfl, hi, hb, hk⟩; replace HO_6 := za (Kd.R_mono (Kd.R_keep (IsS68.apart (show IsS68 w _ g432 t430 x433001_1 from by repeat (first | (with_reducible first | exact HI432.out | apply IsS68.alloc | apply IsS68.drewN | apply IsS68.drew | apply IsS68.set_1) | exact HI432.out)) (by (with_reducible repeat (first | apply Kd.R_alloc | apply Kd.R_drewN | apply Kd.R_drew)); exact HO_6.out) (by decide)) hk (fun _ h => h.2)) (fun _ h => h.1)); replace HO_7 := za (Kd.R_mono (Kd.R_keep (IsS68.apart (show IsS68 w _ g432 t430 x433001_1 from by repeat (first | (with_reducible first | exact HI432.out | apply IsS68.alloc | apply IsS68.drewN | apply IsS68.drew | apply IsS68.set_1) | exact HI432.out)) (by (with_reducible repeat (first | apply Kd.R_alloc | apply Kd.R_drewN | apply Kd.R_drew)); exact HO_7.out) (by decide)) hk (fun _ h => h.2)) (fun _ h => h.1)); replace HO_8 := za (Kd.R_mono (Kd.R_keep (IsS68.apart (show IsS68 w _ g432 t430 x433001_1 from by repeat (first | (with_reducible first | exact HI432.out | apply IsS68.alloc | apply IsS68.drewN | apply IsS68.drew | apply IsS68.set_1) | exact HI432.out)) (by (with_reducible repeat (first | apply Kd.R_alloc | apply Kd.R_drewN | apply Kd.R_drew)); exact HO_8.out) (by decide)) hk (fun _ h => h.2)) (fun _ h => h.1)); replace HB := za (hb); replace HI432 := za (hi); (try clear hb); (try clear hb2); (try clear hk); (try clear hi))); go_upto_if 52 with (first | (go_at_call 18; (with_reducible refine (awardingbodymake_Tape_One.calls g432 t430 x433001_1 8 t450 t451 w _ ?side1 ?side2 A22.out).mono ?_); (case side1 => repeat (first | (with_reducible first | exact HI432.out | apply IsS68.alloc | apply IsS68.drewN | apply IsS68.drew | apply IsS68.set_1) | exact HI432.out)); (case side2 => repeat (first | (with_reducible first | exact HB.out | apply below_alloc | apply pw_below_drewN | apply below_drew1 | refine below_set ?_ (IsS68.ge HI432.out)) | exact HB.out)); rintro e w24 ⟨rfl, hi, hb, hk⟩; replace HO_6 := za (Kd.R_mono (Kd.R_keep (IsS68.apart (show IsS68 w _ g432 t430 x433001_1 from by repeat (first | (with_reducible first | exact HI432.out | apply IsS68.alloc | apply IsS68.drewN | apply IsS68.drew | apply IsS68.set_1) | exact HI432.out)) (by (with_reducible repeat (first | apply Kd.R_alloc | apply Kd.R_drewN | apply Kd.R_drew)); exact HO_6.out) (by decide)) hk (fun _ h => h.2)) (fun _ h => h.1)); replace HO_7 := za (Kd.R_mono (Kd.R_keep (IsS68.apart (show IsS68 w _ g432 t430 x433001_1 from by repeat (first | (with_reducible first | exact HI432.out | apply IsS68.alloc | apply IsS68.drewN | apply IsS68.drew | apply IsS68.set_1) | exact HI432.out)) (by (with_reducible repeat (first | apply Kd.R_alloc | apply Kd.R_drewN | apply Kd.R_drew)); exact HO_7.out) (by decide)) hk (fun _ h => h.2)) (fun _ h => h.1)); replace HO_8 := za (Kd.R_mono (Kd.R_keep (IsS68.apart (show IsS68 w _ g432 t430 x433001_1 from by repeat (first | (with_reducible first | exact HI432.out | apply IsS68.alloc | apply IsS68.drewN | apply IsS68.drew | apply IsS68.set_1) | exact HI432.out)) (by (with_reducible repeat (first | apply Kd.R_alloc | apply Kd.R_drewN | apply Kd.R_drew)); exact HO_8.out) (by decide)) hk (fun _ h => h.2)) (fun _ h => h.1)); replace HB := za (hb); replace HI432 := za (hi); (try clear hb); (try clear hb2); (try clear hk); (try clear hi))))
        (try simp only [Act.put, List.setIfInBounds_toArray, List.set_cons_zero, List.set_cons_succ])
        go_cut [7] (fun v7 wc => ∃ (kq : Nat) (x7_22 : List Int), Aside0 (awardingbodylaw20_BubbleSplits.j2 kq l0 x6_1 x7_22 x8_2 = some r) ∧ Aside0 (kq ≤ k2) ∧ Aside0 (Kd.R k46 46 wc w.heap.size (fun _ => True) u6 x6_1) ∧ Aside0 (Kd.R (Kd.int .i64) 3 wc w.heap.size (fun k_ => some k_ ≠ (u8 : Value).ownBlock) v7 x7_22) ∧ Aside0 (Kd.R (Kd.int .i64) 3 wc w.heap.size (fun k_ => some k_ ≠ (v7 : Value).ownBlock) u8 x8_2) ∧ Aside0 (Below w.heap.size w wc))
        case first =>
         have H := HC23.out
         clear HC23
         by_cases c25 : t450 = true
         ·subst c25
          have H1 : (if x7_1.length < 17592186044416 then (awardingbodylaw20_BubbleSplits.j2 k2 l0 x6_1 (x7_1 ++ [1]) x8_2) else (none)) = some r := by rw [if_pos rfl] at H; exact H
          clear H
          have H := H1
          clear H1
          by_cases c26 : x7_1.length < 17592186044416
          ·rw [if_pos c26] at H
           have LMc26 := za c26
           clear c26
           obtain ⟨y452, hy452⟩ : ∃ y_ : List Int, y_ = (x7_1 ++ [1]) := ⟨_, rfl⟩
           replace H : (awardingbodylaw20_BubbleSplits.j2 k2 l0 x6_1 y452 x8_2) = some r := by first | (rw [hy452]; with_reducible exact H) | (have H2_ := (Option.bind_some _ _).symm.trans H; rw [hy452]; with_reducible exact H2_) | (have H2_ := (Option.bind_some _ _).symm.trans H; with_reducible exact H2_) | with_reducible exact H | (rw [hy452]; exact H) | exact H
           have Ny452 := za hy452
           clear hy452
           have H' := za H
           clear H
           go_wp2_with (first | ((with_reducible refine gate_builtin (b := .append) (xs := #[.tmp 53, .tmp 54]) rfl ?_); at_builtin; refine Kd.R_append (Kd.int .i64) (w0 := w) w.heap.size rfl (.tmp 53) (.tmp 54) 28 3 (.int .i64 0) 8 rfl Try.underlying28 info3 rfl (by decide) (by omega) u7 x7_1 1 [.int .i64 1] (fun k_ => some k_ ≠ (u8 : Value).ownBlock) (fun _ => False) rfl rfl ?aP (fun _ hk => hk.elim) ?aF ?aO ?aB ?aS ?aL ?_; (case aP => exact rfl); (case aB => exact (zm HB)); (case aF => exact (fun k_ hk => Kd.fresh' (Kd.R_lt (by (with_reducible repeat (first | apply Kd.R_alloc | apply Kd.R_drewN | apply Kd.R_drew)); exact HO_8.out)) k_ hk)); (case aO => exact (by (with_reducible repeat (first | apply Kd.R_alloc | apply Kd.R_drewN | apply Kd.R_drew)); exact HO_7.out)); (case aS => exact (below_size (zm HB))); (case aL => have := LMc26.out; omega); intro v453 w27 ho hb hg hat; rw [← Ny452.out] at ho; have HO454 := za (ho); replace HO_6 := za (Kd.R_over' (by (with_reducible repeat (first | apply Kd.R_alloc | apply Kd.R_drewN | apply Kd.R_drew)); exact HO_6.out) (Kd.R_typed (by (with_reducible repeat (first | apply Kd.R_alloc | apply Kd.R_drewN | apply Kd.R_drew)); exact HO_7.out)) (by decide) hg); replace HO_8 := za (Kd.R_after (ok := (fun _ => True)) (by (with_reducible repeat (first | apply Kd.R_alloc | apply Kd.R_drewN | apply Kd.R_drew)); exact Kd.R_mono HO_8.out (fun _ hk => ⟨trivial, hk⟩)) hg hat); replace HI432 := za (IsS68.grown (by repeat (first | (with_reducible first | exact HI432.out | apply IsS68.alloc | apply IsS68.drewN | apply IsS68.drew | apply IsS68.set_1) | exact HI432.out)) hg (IsS68.own_ne HI432.out HO_7.out (by decide))); replace HB := za (hb); clear HO_7 ho hb hg hat))
           repeat (go_quiet (first | ((with_reducible refine gate_builtin (b := .append) (xs := #[.tmp 53, .tmp 54]) rfl ?_); at_builtin; refine Kd.R_append (Kd.int .i64) (w0 := w) w.heap.size rfl (.tmp 53) (.tmp 54) 28 3 (.int .i64 0) 8 rfl Try.underlying28 info3 rfl (by decide) (by omega) u7 x7_1 1 [.int .i64 1] (fun k_ => some k_ ≠ (u8 : Value).ownBlock) (fun _ => False) rfl rfl ?aP (fun _ hk => hk.elim) ?aF ?aO ?aB ?aS ?aL ?_; (case aP => exact rfl); (case aB => exact (zm HB)); (case aF => exact (fun k_ hk => Kd.fresh' (Kd.R_lt (by (with_reducible repeat (first | apply Kd.R_alloc | apply Kd.R_drewN | apply Kd.R_drew)); exact HO_8.out)) k_ hk)); (case aO => exact (by (with_reducible repeat (first | apply Kd.R_alloc | apply Kd.R_drewN | apply Kd.R_drew)); exact HO_7.out)); (case aS => exact (below_size (zm HB))); (case aL => have := LMc26.out; omega); intro v453 w27 ho hb hg hat; rw [← Ny452.out] at ho; have HO454 := za (ho); replace HO_6 := za (Kd.R_over' (by (with_reducible repeat (first | apply Kd.R_alloc | apply Kd.R_drewN | apply Kd.R_drew)); exact HO_6.out) (Kd.R_typed (by (with_reducible repeat (first | apply Kd.R_alloc | apply Kd.R_drewN | apply Kd.R_drew)); exact HO_7.out)) (by decide) hg); replace HO_8 := za (Kd.R_after (ok := (fun _ => True)) (by (with_reducible repeat (first | apply Kd.R_alloc | apply Kd.R_drewN | apply Kd.R_drew)); exact Kd.R_mono HO_8.out (fun _ hk => ⟨trivial, hk⟩)) hg hat); replace HI432 := za (IsS68.grown (by repeat (first | (with_reducible first | exact HI432.out | apply IsS68.alloc | apply IsS68.drewN | apply IsS68.drew | apply IsS68.set_1) | exact HI432.out)) hg (IsS68.own_ne HI432.out HO_7.out (by decide))); replace HB := za (hb); clear HO_7 ho hb hg hat)); try go_wp2_with (first | ((with_reducible refine gate_builtin (b := .append) (xs := #[.tmp 53, .tmp 54]) rfl ?_); at_builtin; refine Kd.R_append (Kd.int .i64) (w0 := w) w.heap.size rfl (.tmp 53) (.tmp 54) 28 3 (.int .i64 0) 8 rfl Try.underlying28 info3 rfl (by decide) (by omega) u7 x7_1 1 [.int .i64 1] (fun k_ => some k_ ≠ (u8 : Value).ownBlock) (fun _ => False) rfl rfl ?aP (fun _ hk => hk.elim) ?aF ?aO ?aB ?aS ?aL ?_; (case aP => exact rfl); (case aB => exact (zm HB)); (case aF => exact (fun k_ hk => Kd.fresh' (Kd.R_lt (by (with_reducible repeat (first | apply Kd.R_alloc | apply Kd.R_drewN | apply Kd.R_drew)); exact HO_8.out)) k_ hk)); (case aO => exact (by (with_reducible repeat (first | apply Kd.R_alloc | apply Kd.R_drewN | apply Kd.R_drew)); exact HO_7.out)); (case aS => exact (below_size (zm HB))); (case aL => have := LMc26.out; omega); intro v453 w27 ho hb hg hat; rw [← Ny452.out] at ho; have HO454 := za (ho); replace HO_6 := za (Kd.R_over' (by (with_reducible repeat (first | apply Kd.R_alloc | apply Kd.R_drewN | apply Kd.R_drew)); exact HO_6.out) (Kd.R_typed (by (with_reducible repeat (first | apply Kd.R_alloc | apply Kd.R_drewN | apply Kd.R_drew)); exact HO_7.out)) (by decide) hg); replace HO_8 := za (Kd.R_after (ok := (fun _ => True)) (by (with_reducible repeat (first | apply Kd.R_alloc | apply Kd.R_drewN | apply Kd.R_drew)); exact Kd.R_mono HO_8.out (fun _ hk => ⟨trivial, hk⟩)) hg hat); replace HI432 := za (IsS68.grown (by repeat (first | (with_reducible first | exact HI432.out | apply IsS68.alloc | apply IsS68.drewN | apply IsS68.drew | apply IsS68.set_1) | exact HI432.out)) hg (IsS68.own_ne HI432.out HO_7.out (by decide))); replace HB := za (hb); clear HO_7 ho hb hg hat)))
           go_meet
           case rel => exact ⟨_, (y452), H', ⟨by have := HK1.out; have := HK2.out; first | omega | exact Nat.le_refl _⟩, ⟨by (with_reducible repeat (first | apply Kd.R_alloc | apply Kd.R_drewN | apply Kd.R_drew)); exact HO_6.out⟩, ⟨by (with_reducible repeat (first | apply Kd.R_alloc | apply Kd.R_drewN | apply Kd.R_drew)); exact HO454.out⟩, ⟨by (with_reducible repeat (first | apply Kd.R_alloc | apply Kd.R_drewN | apply Kd.R_drew)); exact Kd.R_mono HO_8.out (fun _ hk => hk.2)⟩, ⟨zm HB⟩⟩
          ·rw [if_neg c26] at H
           exact absurd H (by simp)
         ·replace c25 := Bool.eq_false_iff.mpr c25
          subst c25
          have H1 : (awardingbodylaw20_BubbleSplits.j2 k2 l0 x6_1 x7_1 x8_2) = some r := by rw [if_neg (show ¬ (false = true) by decide)] at H; exact H
          clear H
          have H := H1
          clear H1
          have H' := za H
          clear H
          go_wp2
          repeat (go_quiet (fail); try go_wp2)
          go_meet
          case rel => exact ⟨_, (x7_1), H', ⟨by have := HK1.out; have := HK2.out; first | omega | exact Nat.le_refl _⟩, ⟨by (with_reducible repeat (first | apply Kd.R_alloc | apply Kd.R_drewN | apply Kd.R_drew)); exact HO_6.out⟩, ⟨by (with_reducible repeat (first | apply Kd.R_alloc | apply Kd.R_drewN | apply Kd.R_drew)); exact HO_7.out⟩, ⟨by (with_reducible repeat (first | apply Kd.R_alloc | apply Kd.R_drewN | apply Kd.R_drew)); exact HO_8.out⟩, ⟨zm HB⟩⟩
        case rest =>
         clear HC23
         try clear c1
         try clear c2
         try clear p2
         try clear c3
         try clear c3b0
         try clear c3b1
         try clear p6
         try clear c8
         try clear c8b0
         try clear c11
         try clear c13
         try clear c19
         try clear c19b0
         try clear c20
         try clear c25
         try clear c26
         try clear p2
         try clear p6
         obtain ⟨kq, x7_22, HA, HJ22, HO_6, HO_7, HO_8, HB⟩ := hcut
         cases kq with
         | zero => exact absurd HA.out (by simp [awardingbodylaw20_BubbleSplits.j2])
         | succ kj22 =>
          have H := HA.out
          clear HA
          simp only [awardingbodylaw20_BubbleSplits.j2] at H
          replace H := Option.bind_eq_some_iff.mp H
          obtain ⟨⟨t455, t458⟩, A280, H⟩ := H
          replace H : ((awardingbodyref20_Split.f kj22 x6_1 x7_22).bind fun bt459 => (if (t455.length : Int) = (bt459.1.length : Int) then (awardingbodylaw20_BubbleSplits.j3 kj22 l0 x8_2 t455 bt459.1 (t458 != bt459.2)) else (awardingbodylaw20_BubbleSplits.j3 kj22 l0 x8_2 t455 bt459.1 true))) = some r := H
          have A28 := za A280
          clear A280
          replace H := Option.bind_eq_some_iff.mp H
          obtain ⟨⟨t459, t460⟩, A290, H⟩ := H
          replace H : (if (t455.length : Int) = (t459.length : Int) then (awardingbodylaw20_BubbleSplits.j3 kj22 l0 x8_2 t455 t459 (t458 != t460)) else (awardingbodylaw20_BubbleSplits.j3 kj22 l0 x8_2 t455 t459 true)) = some r := H
          have A29 := za A290
          clear A290
          have HC30 := za H
          clear H
          obtain ⟨Ao31, co31, eo31⟩ := Kd.R_slice HO_6.out
          subst eo31
          obtain ⟨Ao32, co32, eo32⟩ := Kd.R_slice HO_7.out
          subst eo32
          go_wp2
          refine wp_loop_rounds 3 ?_
          rw [rounds_succ]
          go_upto_region 22 with (first | (go_at_call 25; (with_reducible refine (bubble_Split.calls kj22 _ _ x6_1 _ _ x7_22 t455 t458 _ ?side1 ?side2 ?side3 ?side4 A28.out).mono ?_); (case side1 => exact zD HO_6); (case side2 => exact (Kd.R_reads' HO_6.out).2.1); (case side3 => exact zD HO_7); (case side4 => exact (Kd.R_reads' HO_7.out).2.1); rintro e w33 ⟨v456, rfl, ho0, hb⟩; have HO457 := za (Kd.N_lower (Kd.N_mono (ok' := fun k_ => some k_ ≠ (.slice Ao31 x6_1.length co31 : Value).ownBlock ∧ some k_ ≠ (.slice Ao32 x7_22.length co32 : Value).ownBlock ∧ some k_ ≠ (u8 : Value).ownBlock) ho0 (fun k_ hk_ => ⟨(Kd.fresh' (Kd.R_lt (by (with_reducible repeat (first | apply Kd.R_alloc | apply Kd.R_drewN | apply Kd.R_drew)); exact HO_6.out)) k_ hk_), (Kd.fresh' (Kd.R_lt (by (with_reducible repeat (first | apply Kd.R_alloc | apply Kd.R_drewN | apply Kd.R_drew)); exact HO_7.out)) k_ hk_), (Kd.fresh' (Kd.R_lt (by (with_reducible repeat (first | apply Kd.R_alloc | apply Kd.R_drewN | apply Kd.R_drew)); exact HO_8.out)) k_ hk_)⟩)) (below_size (zm HB))); replace HO_6 := zR HO_6 hb; replace HO_7 := zR HO_7 hb; replace HO_8 := zR HO_8 hb; replace HB := zs HB hb; (try clear hb); (try clear hb2); (try clear hk); (try clear hi); (try clear ho0)) | (go_at_call 26; (with_reducible refine (awardingbodyref20_Split.calls kj22 _ _ x6_1 _ _ x7_22 t459 t460 _ ?side1 ?side2 ?side3 ?side4 A29.out).mono ?_); (case side1 => exact zD HO_6); (case side2 => exact (Kd.R_reads' HO_6.out).2.1); (case side3 => exact zD HO_7); (case side4 => exact (Kd.R_reads' HO_7.out).2.1); rintro e w34 ⟨v461, rfl, ho0, hb⟩; have HO462 := za (Kd.N_lower (Kd.N_mono (ok' := fun k_ => some k_ ≠ (.slice Ao31 x6_1.length co31 : Value).ownBlock ∧ some k_ ≠ (.slice Ao32 x7_22.length co32 : Value).ownBlock ∧ some k_ ≠ (u8 : Value).ownBlock ∧ some k_ ≠ (v456 : Value).ownBlock) (Kd.S_N (Kd.S_bound ho0)) (fun k_ hk_ => ⟨(Kd.fresh' (Kd.R_lt (by (with_reducible repeat (first | apply Kd.R_alloc | apply Kd.R_drewN | apply Kd.R_drew)); exact HO_6.out)) k_ hk_.2.1), (Kd.fresh' (Kd.R_lt (by (with_reducible repeat (first | apply Kd.R_alloc | apply Kd.R_drewN | apply Kd.R_drew)); exact HO_7.out)) k_ hk_.2.1), (Kd.fresh' (Kd.R_lt (by (with_reducible repeat (first | apply Kd.R_alloc | apply Kd.R_drewN | apply Kd.R_drew)); exact HO_8.out)) k_ hk_.2.1), (Kd.fresh' (Kd.N_lt (by (with_reducible repeat (first | apply Kd.N_alloc | apply Kd.N_drewN | apply Kd.N_drew)); exact HO457.out)) k_ hk_.2.1)⟩)) (below_size (zm HB))); replace HO_6 := zR HO_6 hb; replace HO_7 := zR HO_7 hb; replace HO_8 := zR HO_8 hb; replace HO457 := za (Kd.N_elder' (by (with_reducible repeat (first | apply Kd.N_alloc | apply Kd.N_drewN | apply Kd.N_drew)); exact HO457.out) (Kd.N_base (Kd.S_N ho0)) hb); replace HB := zs HB hb; (try clear hb); (try clear hb2); (try clear hk); (try clear hi); (try clear ho0)))
          repeat (go_quiet (first | (go_at_call 25; (with_reducible refine (bubble_Split.calls kj22 _ _ x6_1 _ _ x7_22 t455 t458 _ ?side1 ?side2 ?side3 ?side4 A28.out).mono ?_); (case side1 => exact zD HO_6); (case side2 => exact (Kd.R_reads' HO_6.out).2.1); (case side3 => exact zD HO_7); (case side4 => exact (Kd.R_reads' HO_7.out).2.1); rintro e w33 ⟨v456, rfl, ho0, hb⟩; have HO457 := za (Kd.N_lower (Kd.N_mono (ok' := fun k_ => some k_ ≠ (.slice Ao31 x6_1.length co31 : Value).ownBlock ∧ some k_ ≠ (.slice Ao32 x7_22.length co32 : Value).ownBlock ∧ some k_ ≠ (u8 : Value).ownBlock) ho0 (fun k_ hk_ => ⟨(Kd.fresh' (Kd.R_lt (by (with_reducible repeat (first | apply Kd.R_alloc | apply Kd.R_drewN | apply Kd.R_drew)); exact HO_6.out)) k_ hk_), (Kd.fresh' (Kd.R_lt (by (with_reducible repeat (first | apply Kd.R_alloc | apply Kd.R_drewN | apply Kd.R_drew)); exact HO_7.out)) k_ hk_), (Kd.fresh' (Kd.R_lt (by (with_reducible repeat (first | apply Kd.R_alloc | apply Kd.R_drewN | apply Kd.R_drew)); exact HO_8.out)) k_ hk_)⟩)) (below_size (zm HB))); replace HO_6 := zR HO_6 hb; replace HO_7 := zR HO_7 hb; replace HO_8 := zR HO_8 hb; replace HB := zs HB hb; (try clear hb); (try clear hb2); (try clear hk); (try clear hi); (try clear ho0)) | (go_at_call 26; (with_reducible refine (awardingbodyref20_Split.calls kj22 _ _ x6_1 _ _ x7_22 t459 t460 _ ?side1 ?side2 ?side3 ?side4 A29.out).mono ?_); (case side1 => exact zD HO_6); (case side2 => exact (Kd.R_reads' HO_6.out).2.1); (case side3 => exact zD HO_7); (case side4 => exact (Kd.R_reads' HO_7.out).2.1); rintro e w34 ⟨v461, rfl, ho0, hb⟩; have HO462 := za (Kd.N_lower (Kd.N_mono (ok' := fun k_ => some k_ ≠ (.slice Ao31 x6_1.length co31 : Value).ownBlock ∧ some k_ ≠ (.slice Ao32 x7_22.length co32 : Value).ownBlock ∧ some k_ ≠ (u8 : Value).ownBlock ∧ some k_ ≠ (v456 : Value).ownBlock) (Kd.S_N (Kd.S_bound ho0)) (fun k_ hk_ => ⟨(Kd.fresh' (Kd.R_lt (by (with_reducible repeat (first | apply Kd.R_alloc | apply Kd.R_drewN | apply Kd.R_drew)); exact HO_6.out)) k_ hk_.2.1), (Kd.fresh' (Kd.R_lt (by (with_reducible repeat (first | apply Kd.R_alloc | apply Kd.R_drewN | apply Kd.R_drew)); exact HO_7.out)) k_ hk_.2.1), (Kd.fresh' (Kd.R_lt (by (with_reducible repeat (first | apply Kd.R_alloc | apply Kd.R_drewN | apply Kd.R_drew)); exact HO_8.out)) k_ hk_.2.1), (Kd.fresh' (Kd.N_lt (by (with_reducible repeat (first | apply Kd.N_alloc | apply Kd.N_drewN | apply Kd.N_drew)); exact HO457.out)) k_ hk_.2.1)⟩)) (below_size (zm HB))); replace HO_6 := zR HO_6 hb; replace HO_7 := zR HO_7 hb; replace HO_8 := zR HO_8 hb; replace HO457 := za (Kd.N_elder' (by (with_reducible repeat (first | apply Kd.N_alloc | apply Kd.N_drewN | apply Kd.N_drew)); exact HO457.out) (Kd.N_base (Kd.S_N ho0)) hb); replace HB := zs HB hb; (try clear hb); (try clear hb2); (try clear hk); (try clear hi); (try clear ho0))); go_upto_region 22 with (first | (go_at_call 25; (with_reducible refine (bubble_Split.calls kj22 _ _ x6_1 _ _ x7_22 t455 t458 _ ?side1 ?side2 ?side3 ?side4 A28.out).mono ?_); (case side1 => exact zD HO_6); (case side2 => exact (Kd.R_reads' HO_6.out).2.1); (case side3 => exact zD HO_7); (case side4 => exact (Kd.R_reads' HO_7.out).2.1); rintro e w33 ⟨v456, rfl, ho0, hb⟩; have HO457 := za (Kd.N_lower (Kd.N_mono (ok' := fun k_ => some k_ ≠ (.slice Ao31 x6_1.length co31 : Value).ownBlock ∧ some k_ ≠ (.slice Ao32 x7_22.length co32 : Value).ownBlock ∧ some k_ ≠ (u8 : Value).ownBlock) ho0 (fun k_ hk_ => ⟨(Kd.fresh' (Kd.R_lt (by (with_reducible repeat (first | apply Kd.R_alloc | apply Kd.R_drewN | apply Kd.R_drew)); exact HO_6.out)) k_ hk_), (Kd.fresh' (Kd.R_lt (by (with_reducible repeat (first | apply Kd.R_alloc | apply Kd.R_drewN | apply Kd.R_drew)); exact HO_7.out)) k_ hk_), (Kd.fresh' (Kd.R_lt (by (with_reducible repeat (first | apply Kd.R_alloc | apply Kd.R_drewN | apply Kd.R_drew)); exact HO_8.out)) k_ hk_)⟩)) (below_size (zm HB))); replace HO_6 := zR HO_6 hb; replace HO_7 := zR HO_7 hb; replace HO_8 := zR HO_8 hb; replace HB := zs HB hb; (try clear hb); (try clear hb2); (try clear hk); (try clear hi); (try clear ho0)) | (go_at_call 26; (with_reducible refine (awardingbodyref20_Split.calls kj22 _ _ x6_1 _ _ x7_22 t459 t460 _ ?side1 ?side2 ?side3 ?side4 A29.out).mono ?_); (case side1 => exact zD HO_6); (case side2 => exact (Kd.R_reads' HO_6.out).2.1); (case side3 => exact zD HO_7); (case side4 => exact (Kd.R_reads' HO_7.out).2.1); rintro e w34 ⟨v461, rfl, ho0, hb⟩; have HO462 := za (Kd.N_lower (Kd.N_mono (ok' := fun k_ => some k_ ≠ (.slice Ao31 x6_1.length co31 : Value).ownBlock ∧ some k_ ≠ (.slice Ao32 x7_22.length co32 : Value).ownBlock ∧ some k_ ≠ (u8 : Value).ownBlock ∧ some k_ ≠ (v456 : Value).ownBlock) (Kd.S_N (Kd.S_bound ho0)) (fun k_ hk_ => ⟨(Kd.fresh' (Kd.R_lt (by (with_reducible repeat (first | apply Kd.R_alloc | apply Kd.R_drewN | apply Kd.R_drew)); exact HO_6.out)) k_ hk_.2.1), (Kd.fresh' (Kd.R_lt (by (with_reducible repeat (first | apply Kd.R_alloc | apply Kd.R_drewN | apply Kd.R_drew)); exact HO_7.out)) k_ hk_.2.1), (Kd.fresh' (Kd.R_lt (by (with_reducible repeat (first | apply Kd.R_alloc | apply Kd.R_drewN | apply Kd.R_drew)); exact HO_8.out)) k_ hk_.2.1), (Kd.fresh' (Kd.N_lt (by (with_reducible repeat (first | apply Kd.N_alloc | apply Kd.N_drewN | apply Kd.N_drew)); exact HO457.out)) k_ hk_.2.1)⟩)) (below_size (zm HB))); replace HO_6 := zR HO_6 hb; replace HO_7 := zR HO_7 hb; replace HO_8 := zR HO_8 hb; replace HO457 := za (Kd.N_elder' (by (with_reducible repeat (first | apply Kd.N_alloc | apply Kd.N_drewN | apply Kd.N_drew)); exact HO457.out) (Kd.N_base (Kd.S_N ho0)) hb); replace HB := zs HB hb; (try clear hb); (try clear hb2); (try clear hk); (try clear hi); (try clear ho0))))
          (try simp only [Act.put, List.setIfInBounds_toArray, List.set_cons_zero, List.set_cons_succ])
          go_cut [81] (fun v81 wc => ∃ (kq : Nat) (x81_29 : Bool), v81 = .bool x81_29 ∧ Aside0 (awardingbodylaw20_BubbleSplits.j3 kq l0 x8_2 t455 t459 x81_29 = some r) ∧ Aside0 (kq ≤ kj22) ∧ Aside0 (Kd.R (Kd.int .i64) 3 wc w.heap.size (fun _ => True) u8 x8_2) ∧ Aside0 (Kd.N (Kd.slice 3 (Kd.int .i64)) 28 wc w.heap.size (fun k_ => some k_ ≠ (u8 : Value).ownBlock ∧ some k_ ≠ (v461 : Value).ownBlock) v456 t455) ∧ Aside0 (Kd.N (Kd.slice 3 (Kd.int .i64)) 28 wc w.heap.size (fun k_ => some k_ ≠ (u8 : Value).ownBlock ∧ some k_ ≠ (v456 : Value).ownBlock) v461 t459) ∧ Aside0 (Below w.heap.size w wc))
          case first =>
           have H := HC30.out
           clear HC30
           by_cases c35 : (t455.length : Int) = (t459.length : Int)
           ·rw [if_pos c35] at H
            have c35b0 : ((t455.length : Int) == (t459.length : Int)) = true := beq_iff_eq.mpr c35
            have c35b1 : ((t455.length : Int) != (t459.length : Int)) = false := bne_eq_false_iff_eq.mpr c35
            have c35b2 : (t455.length == t459.length) = true := by first | simpa using c35 | (simp at c35 ⊢; omega)
            clear c35
            (first | rw [c35b0] | (simp only [i64_w, i32_w]; rw [c35b0]) | skip)
            have H' := za H
            clear H
            obtain ⟨Ao36, co36, eo36⟩ := Kd.N_slice HO457.out
            subst eo36
            obtain ⟨Ao37, co37, eo37⟩ := Kd.N_slice HO462.out
            subst eo37
            go_wp2
            repeat (go_quiet (fail); try go_wp2)
            go_meet
            case rel => exact ⟨_, ((t458 != t460)), (by first | rfl | (simp; done) | (simp [*]; done)), H', ⟨by have := HK1.out; have := HK2.out; have := HJ22.out; first | omega | exact Nat.le_refl _⟩, ⟨by (with_reducible repeat (first | apply Kd.R_alloc | apply Kd.R_drewN | apply Kd.R_drew)); exact Kd.R_mono HO_8.out (fun _ hk => trivial)⟩, ⟨by (with_reducible repeat (first | apply Kd.N_alloc | apply Kd.N_drewN | apply Kd.N_drew)); exact Kd.N_mono HO457.out (fun _ hk => ⟨hk.1.2.2, hk.2⟩)⟩, ⟨by (with_reducible repeat (first | apply Kd.N_alloc | apply Kd.N_drewN | apply Kd.N_drew)); exact Kd.N_mono HO462.out (fun _ hk => ⟨hk.2.2.1, hk.2.2.2⟩)⟩, ⟨zm HB⟩⟩
           ·rw [if_neg c35] at H
            have c35b0 : ((t455.length : Int) == (t459.length : Int)) = false := beq_eq_false_iff_ne.mpr c35
            have c35b1 : ((t455.length : Int) != (t459.length : Int)) = true := bne_iff_ne.mpr c35
            have c35b2 : (t455.length == t459.length) = false := by first | simpa using c35 | (simp at c35 ⊢; omega)
            (first | rw [c35b0] | (simp only [i64_w, i32_w]; rw [c35b0]) | skip)
            have H' := za H
            clear H
            obtain ⟨Ao38, co38, eo38⟩ := Kd.N_slice HO457.out
            subst eo38
            obtain ⟨Ao39, co39, eo39⟩ := Kd.N_slice HO462.out
            subst eo39
            go_wp2
            repeat (go_quiet (fail); try go_wp2)
            go_meet
            case rel => exact ⟨_, (true), (by first | rfl | (simp; done) | (simp [*]; done)), H', ⟨by have := HK1.out; have := HK2.out; have := HJ22.out; first | omega | exact Nat.le_refl _⟩, ⟨by (with_reducible repeat (first | apply Kd.R_alloc | apply Kd.R_drewN | apply Kd.R_drew)); exact Kd.R_mono HO_8.out (fun _ hk => trivial)⟩, ⟨by (with_reducible repeat (first | apply Kd.N_alloc | apply Kd.N_drewN | apply Kd.N_drew)); exact Kd.N_mono HO457.out (fun _ hk => ⟨hk.1.2.2, hk.2⟩)⟩, ⟨by (with_reducible repeat (first | apply Kd.N_alloc | apply Kd.N_drewN | apply Kd.N_drew)); exact Kd.N_mono HO462.out (fun _ hk => ⟨hk.2.2.1, hk.2.2.2⟩)⟩, ⟨zm HB⟩⟩
          case rest =>
           clear HC30
           try clear c1
           try clear c2
           try clear p2
           try clear c3
           try clear c3b0
           try clear c3b1
           try clear p6
           try clear c8
           try clear c8b0
           try clear c11
           try clear c13
           try clear c19
           try clear c19b0
           try clear c20
           try clear c25
           try clear c26
           try clear c35
           try clear c35b0
           try clear c35b1
           try clear c35b2
           try clear p2
           try clear p6
           obtain ⟨kq, x81_29, rfl, HA, HJ29, HO_8, HO_12, HO_14, HB⟩ := hcut
           cases kq with
           | zero => exact absurd HA.out (by simp [awardingbodylaw20_BubbleSplits.j3])
           | succ kj29 =>
            have H := HA.out
            clear HA
            simp only [awardingbodylaw20_BubbleSplits.j3] at H
            by_cases c40 : x81_29 = true
            ·subst c40
             have H1 : (none) = some r := by rw [if_pos rfl] at H; exact H
             clear H
             have H := H1
             clear H1
             exact absurd H (by simp)
            ·replace c40 := Bool.eq_false_iff.mpr c40
             subst c40
             have H1 : (awardingbodylaw20_BubbleSplits.l4 kj29 l0 x8_2 t455 t459 0) = some r := by rw [if_neg (show ¬ (false = true) by decide)] at H; exact H
             clear H
             have H := H1
             clear H1
             have H' := za H
             clear H
             go_wp2
             repeat (go_quiet (fail); try go_wp2)
             go_loopg [16] kj29 (fun kq v16 w' => ∃ (x16_5 : Int), v16 = .int .i64 x16_5 ∧ Aside0 (awardingbodylaw20_BubbleSplits.l4 kq l0 x8_2 t455 t459 x16_5 = some r) ∧ Aside0 (kq ≤ kj29) ∧ Aside0 (Kd.R (Kd.int .i64) 3 w' w.heap.size (fun _ => True) u8 x8_2) ∧ Aside0 (Kd.N (Kd.slice 3 (Kd.int .i64)) 28 w' w.heap.size (fun k_ => some k_ ≠ (u8 : Value).ownBlock ∧ some k_ ≠ (v461 : Value).ownBlock) v456 t455) ∧ Aside0 (Kd.N (Kd.slice 3 (Kd.int .i64)) 28 w' w.heap.size (fun k_ => some k_ ≠ (u8 : Value).ownBlock ∧ some k_ ≠ (v456 : Value).ownBlock) v461 t459) ∧ Aside0 (Below w.heap.size w w'))
             case atStart => exact ⟨(0), (by first | rfl | (simp; done) | (simp [*]; done)), H', ⟨Nat.le_refl _⟩, ⟨by (with_reducible repeat (first | apply Kd.R_alloc | apply Kd.R_drewN | apply Kd.R_drew)); exact HO_8.out⟩, ⟨by (with_reducible repeat (first | apply Kd.N_alloc | apply Kd.N_drewN | apply Kd.N_drew)); exact HO_12.out⟩, ⟨by (with_reducible repeat (first | apply Kd.N_alloc | apply Kd.N_drewN | apply Kd.N_drew)); exact HO_14.out⟩, ⟨zm HB⟩⟩
             case round =>
              clear H'
              try clear c1
              try clear c2
              try clear p2
              try clear c3
              try clear c3b0
              try clear c3b1
              try clear c4
              try clear p6
              try clear c8
              try clear c8b0
              try clear c11
              try clear c13
              try clear c19
              try clear c19b0
              try clear c20
              try clear c25
              try clear c26
              try clear c35
              try clear c35b0
              try clear c35b1
              try clear c35b2
              try clear c40
              try clear p2
              try clear p6
              obtain ⟨x16_5, rfl, HA, HK5, HO_8, HO_12, HO_14, HB⟩ := hrel
              cases gk with
              | zero => exact absurd HA.out (by simp [awardingbodylaw20_BubbleSplits.l4])
              | succ k5 =>
               have H := HA.out
               clear HA
               simp only [awardingbodylaw20_BubbleSplits.l4] at H
               by_cases c41 : x16_5 < (t455.length : Int)
               ·rw [if_pos c41] at H
                have c41b0 : decide (x16_5 < (t455.length : Int)) = true := decide_eq_true c41
                clear c41
                by_cases c42 : 0 ≤ x16_5
                ·rw [if_pos c42] at H
                 have c42b0 : decide (0 ≤ x16_5) = true := decide_eq_true c42
                 clear c42
                 by_cases c43 : x16_5 < (t459.length : Int)
                 ·rw [if_pos c43] at H
                  have c43b0 : decide (x16_5 < (t459.length : Int)) = true := decide_eq_true c43
                  clear c43
                  replace H := Option.bind_eq_some_iff.mp H
                  obtain ⟨t465, A440, H⟩ := H
                  replace H : (if t465 = true then (awardingbodylaw20_BubbleSplits.l4 k5 l0 x8_2 t455 t459 (wrap64 (x16_5 + 1))) else (none)) = some r := H
                  have A44 := za A440
                  clear A440
                  by_cases c45 : t465 = true
                  ·subst c45
                   have H1 : (awardingbodylaw20_BubbleSplits.l4 k5 l0 x8_2 t455 t459 (wrap64 (x16_5 + 1))) = some r := by rw [if_pos rfl] at H; exact H
                   clear H
                   have H := H1
                   clear H1
                   have H' := za H
                   clear H
                   obtain ⟨Ao46, co46, eo46⟩ := Kd.N_slice HO_12.out
                   subst eo46
                   have p463 : 0 ≤ (x16_5 : Int) := of_decide_eq_true (by first | (with_reducible assumption) | assumption)
                   have q463 : x16_5 < (t455.length : Int) := of_decide_eq_true (by first | (with_reducible assumption) | assumption)
                   obtain ⟨ad463, A463_0, c463_0, e463, hx463_0, hl463_0, hi463_0⟩ := at_L2 (Kd.N_reads' HO_12.out).2.2 x16_5 p463 q463
                   cases e463
                   obtain ⟨ce463, hce463, hMe463, hcc463⟩ := Kd.N_get HO_12.out [] x16_5 p463 (by first | exact q463 | exact of_decide_eq_true (by first | (with_reducible assumption) | assumption) | (have e_ := (Kd.N_reads' HO_12.out).1; omega))
                   obtain ⟨ua463_0, uc463_0, rfl, ul463_0, ge463_0⟩ := Kd.FK_slice_open hMe463
                   have hv463_0 := hcc463 0 _ rfl
                   rw [Nat.add_zero, show ((Kd.slice 3 (Kd.int .i64))).sz = 1 from rfl, Nat.mul_one] at hv463_0
                   replace hv463_0 := Option.some.inj (hv463_0.symm.trans hx463_0)
                   injection hv463_0 with hva_ hvn_ hvc_
                   rw [hva_] at ge463_0
                   rw [hvc_] at ul463_0
                   have HL463_0 := za (show Kd.V (Kd.int .i64) 3 _ w.heap.size _ _ (rd_L2 t455 x16_5) from Kd.V_mk ul463_0 ge463_0)
                   clear hva_ hvn_ hvc_ ge463_0 ul463_0 hcc463 hce463
                   have HR463_0 := za hi463_0
                   have HC463_0 := za hl463_0
                   clear hi463_0 hl463_0
                   replace p463 := eq_true p463
                   replace q463 := eq_true q463
                   obtain ⟨Ao47, co47, eo47⟩ := Kd.N_slice HO_14.out
                   subst eo47
                   have p464 : 0 ≤ (x16_5 : Int) := of_decide_eq_true (by first | (with_reducible assumption) | assumption)
                   have q464 : x16_5 < (t459.length : Int) := of_decide_eq_true (by first | (with_reducible assumption) | assumption)
                   obtain ⟨ad464, A464_0, c464_0, e464, hx464_0, hl464_0, hi464_0⟩ := at_L2 (Kd.N_reads' HO_14.out).2.2 x16_5 p464 q464
                   cases e464
                   obtain ⟨ce464, hce464, hMe464, hcc464⟩ := Kd.N_get HO_14.out [] x16_5 p464 (by first | exact q464 | exact of_decide_eq_true (by first | (with_reducible assumption) | assumption) | (have e_ := (Kd.N_reads' HO_14.out).1; omega))
                   obtain ⟨ua464_0, uc464_0, rfl, ul464_0, ge464_0⟩ := Kd.FK_slice_open hMe464
                   have hv464_0 := hcc464 0 _ rfl
                   rw [Nat.add_zero, show ((Kd.slice 3 (Kd.int .i64))).sz = 1 from rfl, Nat.mul_one] at hv464_0
                   replace hv464_0 := Option.some.inj (hv464_0.symm.trans hx464_0)
                   injection hv464_0 with hva_ hvn_ hvc_
                   rw [hva_] at ge464_0
                   rw [hvc_] at ul464_0
                   have HL464_0 := za (show Kd.V (Kd.int .i64) 3 _ w.heap.size _ _ (rd_L2 t459 x16_5) from Kd.V_mk ul464_0 ge464_0)
                   clear hva_ hvn_ hvc_ ge464_0 ul464_0 hcc464 hce464
                   have HR464_0 := za hi464_0
                   have HC464_0 := za hl464_0
                   clear hi464_0 hl464_0
                   replace p464 := eq_true p464
                   replace q464 := eq_true q464
                   go_wp2_with (first | (go_at_call 27; (with_reducible refine (awardingbodyref06_Ints.calls k5 _ _ (rd_L2 t455 x16_5) _ _ (rd_L2 t459 x16_5) true _ ?side1 ?side2 ?side3 ?side4 A44.out).mono ?_); (case side1 => repeat (first | exact (by repeat (first | (with_reducible exact HR463_0.out) | (with_reducible refine Kd.C_alloc ?_ _) | (with_reducible refine Kd.C_drewN ?_ _) | (with_reducible refine Kd.C_drew ?_) | exact HR463_0.out)) | (with_reducible refine Kd.C_alloc ?_ _) | (with_reducible refine Kd.C_drewN ?_ _) | (with_reducible refine Kd.C_drew ?_))); (case side2 => exact HC463_0.out); (case side3 => repeat (first | exact (by repeat (first | (with_reducible exact HR464_0.out) | (with_reducible refine Kd.C_alloc ?_ _) | (with_reducible refine Kd.C_drewN ?_ _) | (with_reducible refine Kd.C_drew ?_) | exact HR464_0.out)) | (with_reducible refine Kd.C_alloc ?_ _) | (with_reducible refine Kd.C_drewN ?_ _) | (with_reducible refine Kd.C_drew ?_))); (case side4 => exact HC464_0.out); rintro e w' ⟨rfl, ⟨nd, rfl⟩⟩; (try first | exact ⟨rfl, _, World.drewN_drewN _ _ _⟩ | exact ⟨rfl, _, Eq.trans (World.drewN_drewN _ _ _) (congrArg (World.drewN _) (Nat.add_assoc _ _ _))⟩)))
                   repeat (go_quiet (first | (go_at_call 27; (with_reducible refine (awardingbodyref06_Ints.calls k5 _ _ (rd_L2 t455 x16_5) _ _ (rd_L2 t459 x16_5) true _ ?side1 ?side2 ?side3 ?side4 A44.out).mono ?_); (case side1 => repeat (first | exact (by repeat (first | (with_reducible exact HR463_0.out) | (with_reducible refine Kd.C_alloc ?_ _) | (with_reducible refine Kd.C_drewN ?_ _) | (with_reducible refine Kd.C_drew ?_) | exact HR463_0.out)) | (with_reducible refine Kd.C_alloc ?_ _) | (with_reducible refine Kd.C_drewN ?_ _) | (with_reducible refine Kd.C_drew ?_))); (case side2 => exact HC463_0.out); (case side3 => repeat (first | exact (by repeat (first | (with_reducible exact HR464_0.out) | (with_reducible refine Kd.C_alloc ?_ _) | (with_reducible refine Kd.C_drewN ?_ _) | (with_reducible refine Kd.C_drew ?_) | exact HR464_0.out)) | (with_reducible refine Kd.C_alloc ?_ _) | (with_reducible refine Kd.C_drewN ?_ _) | (with_reducible refine Kd.C_drew ?_))); (case side4 => exact HC464_0.out); rintro e w' ⟨rfl, ⟨nd, rfl⟩⟩; (try first | exact ⟨rfl, _, World.drewN_drewN _ _ _⟩ | exact ⟨rfl, _, Eq.trans (World.drewN_drewN _ _ _) (congrArg (World.drewN _) (Nat.add_assoc _ _ _))⟩))); try go_wp2_with (first | (go_at_call 27; (with_reducible refine (awardingbodyref06_Ints.calls k5 _ _ (rd_L2 t455 x16_5) _ _ (rd_L2 t459 x16_5) true _ ?side1 ?side2 ?side3 ?side4 A44.out).mono ?_); (case side1 => repeat (first | exact (by repeat (first | (with_reducible exact HR463_0.out) | (with_reducible refine Kd.C_alloc ?_ _) | (with_reducible refine Kd.C_drewN ?_ _) | (with_reducible refine Kd.C_drew ?_) | exact HR463_0.out)) | (with_reducible refine Kd.C_alloc ?_ _) | (with_reducible refine Kd.C_drewN ?_ _) | (with_reducible refine Kd.C_drew ?_))); (case side2 => exact HC463_0.out); (case side3 => repeat (first | exact (by repeat (first | (with_reducible exact HR464_0.out) | (with_reducible refine Kd.C_alloc ?_ _) | (with_reducible refine Kd.C_drewN ?_ _) | (with_reducible refine Kd.C_drew ?_) | exact HR464_0.out)) | (with_reducible refine Kd.C_alloc ?_ _) | (with_reducible refine Kd.C_drewN ?_ _) | (with_reducible refine Kd.C_drew ?_))); (case side4 => exact HC464_0.out); rintro e w' ⟨rfl, ⟨nd, rfl⟩⟩; (try first | exact ⟨rfl, _, World.drewN_drewN _ _ _⟩ | exact ⟨rfl, _, Eq.trans (World.drewN_drewN _ _ _) (congrArg (World.drewN _) (Nat.add_assoc _ _ _))⟩))))
                   go_roundg k5
                   case measure => have := HK1.out; have := HK2.out; have := HJ22.out; have := HJ29.out; have := HK5.out; omega
                   case rel => exact ⟨(wrap64 (x16_5 + 1)), (by first | rfl | (simp; done) | (simp [*]; done)), H', ⟨by have := HK1.out; have := HK2.out; have := HJ22.out; have := HJ29.out; have := HK5.out; omega⟩, ⟨by (with_reducible repeat (first | apply Kd.R_alloc | apply Kd.R_drewN | apply Kd.R_drew)); exact HO_8.out⟩, ⟨by (with_reducible repeat (first | apply Kd.N_alloc | apply Kd.N_drewN | apply Kd.N_drew)); exact HO_12.out⟩, ⟨by (with_reducible repeat (first | apply Kd.N_alloc | apply Kd.N_drewN | apply Kd.N_drew)); exact HO_14.out⟩, ⟨zm HB⟩⟩
                  ·replace c45 := Bool.eq_false_iff.mpr c45
                   subst c45
                   have H1 : (none) = some r := by rw [if_neg (show ¬ (false = true) by decide)] at H; exact H
                   clear H
                   have H := H1
                   clear H1
                   exact absurd H (by simp)
                 ·rw [if_neg c43] at H
                  exact absurd H (by simp)
                ·rw [if_neg c42] at H
                 exact absurd H (by simp)
               ·rw [if_neg c41] at H
                have c41b0 : decide (x16_5 < (t455.length : Int)) = false := decide_eq_false c41
                clear c41
                replace H := Option.bind_eq_some_iff.mp H
                obtain ⟨⟨t466, t469⟩, A480, H⟩ := H
                replace H : ((awardingbodyref20_Split.f k5 l0 x8_2).bind fun bt470 => (if (t466.length : Int) = (bt470.1.length : Int) then (awardingbodylaw20_BubbleSplits.j5 k5 t466 bt470.1 (t469 != bt470.2)) else (awardingbodylaw20_BubbleSplits.j5 k5 t466 bt470.1 true))) = some r := H
                have A48 := za A480
                clear A480
                replace H := Option.bind_eq_some_iff.mp H
                obtain ⟨⟨t470, t471⟩, A490, H⟩ := H
                replace H : (if (t466.length : Int) = (t470.length : Int) then (awardingbodylaw20_BubbleSplits.j5 k5 t466 t470 (t469 != t471)) else (awardingbodylaw20_BubbleSplits.j5 k5 t466 t470 true)) = some r := H
                have A49 := za A490
                clear A490
                have HC50 := za H
                clear H
                obtain ⟨Ao51, co51, eo51⟩ := Kd.N_slice HO_12.out
                subst eo51
                obtain ⟨Ao52, co52, eo52⟩ := Kd.R_slice HO_8.out
                subst eo52
                go_wp2
                rw [rounds_succ]
                go_upto_region 22 with (first | (go_at_call 25; (with_reducible refine (bubble_Split.calls k5 _ _ l0 _ _ x8_2 t466 t469 _ ?side1 ?side2 ?side3 ?side4 A48.out).mono ?_); (case side1 => exact zC HR0 HB); (case side2 => exact HC0.out); (case side3 => exact zD HO_8); (case side4 => exact (Kd.R_reads' HO_8.out).2.1); rintro e w53 ⟨v467, rfl, ho0, hb⟩; have HO468 := za (Kd.N_lower (Kd.N_mono (ok' := fun k_ => some k_ ≠ (.slice Ao52 x8_2.length co52 : Value).ownBlock ∧ some k_ ≠ (.slice Ao51 t455.length co51 : Value).ownBlock ∧ some k_ ≠ (v461 : Value).ownBlock) ho0 (fun k_ hk_ => ⟨(Kd.fresh' (Kd.R_lt (by (with_reducible repeat (first | apply Kd.R_alloc | apply Kd.R_drewN | apply Kd.R_drew)); exact HO_8.out)) k_ hk_), (Kd.fresh' (Kd.N_lt (by (with_reducible repeat (first | apply Kd.N_alloc | apply Kd.N_drewN | apply Kd.N_drew)); exact HO_12.out)) k_ hk_), (Kd.fresh' (Kd.N_lt (by (with_reducible repeat (first | apply Kd.N_alloc | apply Kd.N_drewN | apply Kd.N_drew)); exact HO_14.out)) k_ hk_)⟩)) (below_size (zm HB))); replace HO_8 := zR HO_8 hb; replace HO_12 := za (Kd.N_elder' (by (with_reducible repeat (first | apply Kd.N_alloc | apply Kd.N_drewN | apply Kd.N_drew)); exact HO_12.out) (Kd.N_base ho0) hb); replace HO_14 := za (Kd.N_elder' (by (with_reducible repeat (first | apply Kd.N_alloc | apply Kd.N_drewN | apply Kd.N_drew)); exact HO_14.out) (Kd.N_base ho0) hb); replace HB := zs HB hb; (try clear hb); (try clear hb2); (try clear hk); (try clear hi); (try clear ho0)) | (go_at_call 26; (with_reducible refine (awardingbodyref20_Split.calls k5 _ _ l0 _ _ x8_2 t470 t471 _ ?side1 ?side2 ?side3 ?side4 A49.out).mono ?_); (case side1 => exact zC HR0 HB); (case side2 => exact HC0.out); (case side3 => exact zD HO_8); (case side4 => exact (Kd.R_reads' HO_8.out).2.1); rintro e w54 ⟨v472, rfl, ho0, hb⟩; have HO473 := za (Kd.N_lower (Kd.N_mono (ok' := fun k_ => some k_ ≠ (.slice Ao52 x8_2.length co52 : Value).ownBlock ∧ some k_ ≠ (.slice Ao51 t455.length co51 : Value).ownBlock ∧ some k_ ≠ (v461 : Value).ownBlock ∧ some k_ ≠ (v467 : Value).ownBlock) (Kd.S_N (Kd.S_bound ho0)) (fun k_ hk_ => ⟨(Kd.fresh' (Kd.R_lt (by (with_reducible repeat (first | apply Kd.R_alloc | apply Kd.R_drewN | apply Kd.R_drew)); exact HO_8.out)) k_ hk_.2.1), (Kd.fresh' (Kd.N_lt (by (with_reducible repeat (first | apply Kd.N_alloc | apply Kd.N_drewN | apply Kd.N_drew)); exact HO_12.out)) k_ hk_.2.1), (Kd.fresh' (Kd.N_lt (by (with_reducible repeat (first | apply Kd.N_alloc | apply Kd.N_drewN | apply Kd.N_drew)); exact HO_14.out)) k_ hk_.2.1), (Kd.fresh' (Kd.N_lt (by (with_reducible repeat (first | apply Kd.N_alloc | apply Kd.N_drewN | apply Kd.N_drew)); exact HO468.out)) k_ hk_.2.1)⟩)) (below_size (zm HB))); replace HO_8 := zR HO_8 hb; replace HO_12 := za (Kd.N_elder' (by (with_reducible repeat (first | apply Kd.N_alloc | apply Kd.N_drewN | apply Kd.N_drew)); exact HO_12.out) (Kd.N_base (Kd.S_N ho0)) hb); replace HO_14 := za (Kd.N_elder' (by (with_reducible repeat (first | apply Kd.N_alloc | apply Kd.N_drewN | apply Kd.N_drew)); exact HO_14.out) (Kd.N_base (Kd.S_N ho0)) hb); replace HO468 := za (Kd.N_elder' (by (with_reducible repeat (first | apply Kd.N_alloc | apply Kd.N_drewN | apply Kd.N_drew)); exact HO468.out) (Kd.N_base (Kd.S_N ho0)) hb); replace HB := zs HB hb; (try clear hb); (try clear hb2); (try clear hk); (try clear hi); (try clear ho0)))
                repeat (go_quiet (first | (go_at_call 25; (with_reducible refine (bubble_Split.calls k5 _ _ l0 _ _ x8_2 t466 t469 _ ?side1 ?side2 ?side3 ?side4 A48.out).mono ?_); (case side1 => exact zC HR0 HB); (case side2 => exact HC0.out); (case side3 => exact zD HO_8); (case side4 => exact (Kd.R_reads' HO_8.out).2.1); rintro e w53 ⟨v467, rfl, ho0, hb⟩; have HO468 := za (Kd.N_lower (Kd.N_mono (ok' := fun k_ => some k_ ≠ (.slice Ao52 x8_2.length co52 : Value).ownBlock ∧ some k_ ≠ (.slice Ao51 t455.length co51 : Value).ownBlock ∧ some k_ ≠ (v461 : Value).ownBlock) ho0 (fun k_ hk_ => ⟨(Kd.fresh' (Kd.R_lt (by (with_reducible repeat (first | apply Kd.R_alloc | apply Kd.R_drewN | apply Kd.R_drew)); exact HO_8.out)) k_ hk_), (Kd.fresh' (Kd.N_lt (by (with_reducible repeat (first | apply Kd.N_alloc | apply Kd.N_drewN | apply Kd.N_drew)); exact HO_12.out)) k_ hk_), (Kd.fresh' (Kd.N_lt (by (with_reducible repeat (first | apply Kd.N_alloc | apply Kd.N_drewN | apply Kd.N_drew)); exact HO_14.out)) k_ hk_)⟩)) (below_size (zm HB))); replace HO_8 := zR HO_8 hb; replace HO_12 := za (Kd.N_elder' (by (with_reducible repeat (first | apply Kd.N_alloc | apply Kd.N_drewN | apply Kd.N_drew)); exact HO_12.out) (Kd.N_base ho0) hb); replace HO_14 := za (Kd.N_elder' (by (with_reducible repeat (first | apply Kd.N_alloc | apply Kd.N_drewN | apply Kd.N_drew)); exact HO_14.out) (Kd.N_base ho0) hb); replace HB := zs HB hb; (try clear hb); (try clear hb2); (try clear hk); (try clear hi); (try clear ho0)) | (go_at_call 26; (with_reducible refine (awardingbodyref20_Split.calls k5 _ _ l0 _ _ x8_2 t470 t471 _ ?side1 ?side2 ?side3 ?side4 A49.out).mono ?_); (case side1 => exact zC HR0 HB); (case side2 => exact HC0.out); (case side3 => exact zD HO_8); (case side4 => exact (Kd.R_reads' HO_8.out).2.1); rintro e w54 ⟨v472, rfl, ho0, hb⟩; have HO473 := za (Kd.N_lower (Kd.N_mono (ok' := fun k_ => some k_ ≠ (.slice Ao52 x8_2.length co52 : Value).ownBlock ∧ some k_ ≠ (.slice Ao51 t455.length co51 : Value).ownBlock ∧ some k_ ≠ (v461 : Value).ownBlock ∧ some k_ ≠ (v467 : Value).ownBlock) (Kd.S_N (Kd.S_bound ho0)) (fun k_ hk_ => ⟨(Kd.fresh' (Kd.R_lt (by (with_reducible repeat (first | apply Kd.R_alloc | apply Kd.R_drewN | apply Kd.R_drew)); exact HO_8.out)) k_ hk_.2.1), (Kd.fresh' (Kd.N_lt (by (with_reducible repeat (first | apply Kd.N_alloc | apply Kd.N_drewN | apply Kd.N_drew)); exact HO_12.out)) k_ hk_.2.1), (Kd.fresh' (Kd.N_lt (by (with_reducible repeat (first | apply Kd.N_alloc | apply Kd.N_drewN | apply Kd.N_drew)); exact HO_14.out)) k_ hk_.2.1), (Kd.fresh' (Kd.N_lt (by (with_reducible repeat (first | apply Kd.N_alloc | apply Kd.N_drewN | apply Kd.N_drew)); exact HO468.out)) k_ hk_.2.1)⟩)) (below_size (zm HB))); replace HO_8 := zR HO_8 hb; replace HO_12 := za (Kd.N_elder' (by (with_reducible repeat (first | apply Kd.N_alloc | apply Kd.N_drewN | apply Kd.N_drew)); exact HO_12.out) (Kd.N_base (Kd.S_N ho0)) hb); replace HO_14 := za (Kd.N_elder' (by (with_reducible repeat (first | apply Kd.N_alloc | apply Kd.N_drewN | apply Kd.N_drew)); exact HO_14.out) (Kd.N_base (Kd.S_N ho0)) hb); replace HO468 := za (Kd.N_elder' (by (with_reducible repeat (first | apply Kd.N_alloc | apply Kd.N_drewN | apply Kd.N_drew)); exact HO468.out) (Kd.N_base (Kd.S_N ho0)) hb); replace HB := zs HB hb; (try clear hb); (try clear hb2); (try clear hk); (try clear hi); (try clear ho0))); go_upto_region 22 with (first | (go_at_call 25; (with_reducible refine (bubble_Split.calls k5 _ _ l0 _ _ x8_2 t466 t469 _ ?side1 ?side2 ?side3 ?side4 A48.out).mono ?_); (case side1 => exact zC HR0 HB); (case side2 => exact HC0.out); (case side3 => exact zD HO_8); (case side4 => exact (Kd.R_reads' HO_8.out).2.1); rintro e w53 ⟨v467, rfl, ho0, hb⟩; have HO468 := za (Kd.N_lower (Kd.N_mono (ok' := fun k_ => some k_ ≠ (.slice Ao52 x8_2.length co52 : Value).ownBlock ∧ some k_ ≠ (.slice Ao51 t455.length co51 : Value).ownBlock ∧ some k_ ≠ (v461 : Value).ownBlock) ho0 (fun k_ hk_ => ⟨(Kd.fresh' (Kd.R_lt (by (with_reducible repeat (first | apply Kd.R_alloc | apply Kd.R_drewN | apply Kd.R_drew)); exact HO_8.out)) k_ hk_), (Kd.fresh' (Kd.N_lt (by (with_reducible repeat (first | apply Kd.N_alloc | apply Kd.N_drewN | apply Kd.N_drew)); exact HO_12.out)) k_ hk_), (Kd.fresh' (Kd.N_lt (by (with_reducible repeat (first | apply Kd.N_alloc | apply Kd.N_drewN | apply Kd.N_drew)); exact HO_14.out)) k_ hk_)⟩)) (below_size (zm HB))); replace HO_8 := zR HO_8 hb; replace HO_12 := za (Kd.N_elder' (by (with_reducible repeat (first | apply Kd.N_alloc | apply Kd.N_drewN | apply Kd.N_drew)); exact HO_12.out) (Kd.N_base (Kd.S_N ho0)) hb); replace HO_14 := za (Kd.N_elder' (by (with_reducible repeat (first | apply Kd.N_alloc | apply Kd.N_drewN | apply Kd.N_drew)); exact HO_14.out) (Kd.N_base (Kd.S_N ho0)) hb); replace HB := zs HB hb; (try clear hb); (try clear hb2); (try clear hk); (try clear hi); (try clear ho0)) | (go_at_call 26; (with_reducible refine (awardingbodyref20_Split.calls k5 _ _ l0 _ _ x8_2 t470 t471 _ ?side1 ?side2 ?side3 ?side4 A49.out).mono ?_); (case side1 => exact zC HR0 HB); (case side2 => exact HC0.out); (case side3 => exact zD HO_8); (case side4 => exact (Kd.R_reads' HO_8.out).2.1); rintro e w54 ⟨v472, rfl, ho0, hb⟩; have HO473 := za (Kd.N_lower (Kd.N_mono (ok' := fun k_ => some k_ ≠ (.slice Ao52 x8_2.length co52 : Value).ownBlock ∧ some k_ ≠ (.slice Ao51 t455.length co51 : Value).ownBlock ∧ some k_ ≠ (v461 : Value).ownBlock ∧ some k_ ≠ (v467 : Value).ownBlock) (Kd.S_N (Kd.S_bound ho0)) (fun k_ hk_ => ⟨(Kd.fresh' (Kd.R_lt (by (with_reducible repeat (first | apply Kd.R_alloc | apply Kd.R_drewN | apply Kd.R_drew)); exact HO_8.out)) k_ hk_.2.1), (Kd.fresh' (Kd.N_lt (by (with_reducible repeat (first | apply Kd.N_alloc | apply Kd.N_drewN | apply Kd.N_drew)); exact HO_12.out)) k_ hk_.2.1), (Kd.fresh' (Kd.N_lt (by (with_reducible repeat (first | apply Kd.N_alloc | apply Kd.N_drewN | apply Kd.N_drew)); exact HO_14.out)) k_ hk_.2.1), (Kd.fresh' (Kd.N_lt (by (with_reducible repeat (first | apply Kd.N_alloc | apply Kd.N_drewN | apply Kd.N_drew)); exact HO468.out)) k_ hk_.2.1)⟩)) (below_size (zm HB))); replace HO_8 := zR HO_8 hb; replace HO_12 := za (Kd.N_elder' (by (with_reducible repeat (first | apply Kd.N_alloc | apply Kd.N_drewN | apply Kd.N_drew)); exact HO_12.out) (Kd.N_base (Kd.S_N ho0)) hb); replace HO_14 := za (Kd.N_elder' (by (with_reducible repeat (first | apply Kd.N_alloc | apply Kd.N_drewN | apply Kd.N_drew)); exact HO_14.out) (Kd.N_base (Kd.S_N ho0)) hb); replace HO468 := za (Kd.N_elder' (by (with_reducible repeat (first | apply Kd.N_alloc | apply Kd.N_drewN | apply Kd.N_drew)); exact HO468.out) (Kd.N_base (Kd.S_N ho0)) hb); replace HB := zs HB hb; (try clear hb); (try clear hb2); (try clear hk); (try clear hi); (try clear ho0))))
                (try simp only [Act.put, List.setIfInBounds_toArray, List.set_cons_zero, List.set_cons_succ])
                go_cut [81] (fun v81 wc => ∃ (kq : Nat) (x81_49 : Bool), v81 = .bool x81_49 ∧ Aside0 (awardingbodylaw20_BubbleSplits.j5 kq t466 t470 x81_49 = some r) ∧ Aside0 (kq ≤ k5) ∧ Aside0 (Kd.N (Kd.slice 3 (Kd.int .i64)) 28 wc w.heap.size (fun k_ => some k_ ≠ (v472 : Value).ownBlock) v467 t466) ∧ Aside0 (Kd.N (Kd.slice 3 (Kd.int .i64)) 28 wc w.heap.size (fun k_ => some k_ ≠ (v467 : Value).ownBlock) v472 t470) ∧ Aside0 (Below w.heap.size w wc))
                case first =>
                 have H := HC50.out
                 clear HC50
                 by_cases c55 : (t466.length : Int) = (t470.length : Int)
                 ·rw [if_pos c55] at H
                  have c55b0 : ((t466.length : Int) == (t470.length : Int)) = true := beq_iff_eq.mpr c55
                  have c55b1 : ((t466.length : Int) != (t470.length : Int)) = false := bne_eq_false_iff_eq.mpr c55
                  have c55b2 : (t466.length == t470.length) = true := by first | simpa using c55 | (simp at c55 ⊢; omega)
                  clear c55
                  (first | rw [c55b0] | (simp only [i64_w, i32_w]; rw [c55b0]) | skip)
                  have H' := za H
                  clear H
                  obtain ⟨Ao56, co56, eo56⟩ := Kd.N_slice HO468.out
                  subst eo56
                  obtain ⟨Ao57, co57, eo57⟩ := Kd.N_slice HO473.out
                  subst eo57
                  go_wp2
                  repeat (go_quiet (fail); try go_wp2)
                  go_meet
                  case rel => exact ⟨_, ((t469 != t471)), (by first | rfl | (simp; done) | (simp [*]; done)), H', ⟨by have := HK1.out; have := HK2.out; have := HJ22.out; have := HJ29.out; have := HK5.out; first | omega | exact Nat.le_refl _⟩, ⟨by (with_reducible repeat (first | apply Kd.N_alloc | apply Kd.N_drewN | apply Kd.N_drew)); exact Kd.N_mono HO468.out (fun _ hk => hk.2)⟩, ⟨by (with_reducible repeat (first | apply Kd.N_alloc | apply Kd.N_drewN | apply Kd.N_drew)); exact Kd.N_mono HO473.out (fun _ hk => hk.2.2.2)⟩, ⟨zm HB⟩⟩
                 ·rw [if_neg c55] at H
                  have c55b0 : ((t466.length : Int) == (t470.length : Int)) = false := beq_eq_false_iff_ne.mpr c55
                  have c55b1 : ((t466.length : Int) != (t470.length : Int)) = true := bne_iff_ne.mpr c55
                  have c55b2 : (t466.length == t470.length) = false := by first | simpa using c55 | (simp at c55 ⊢; omega)
                  (first | rw [c55b0] | (simp only [i64_w, i32_w]; rw [c55b0]) | skip)
                  have H' := za H
                  clear H
                  obtain ⟨Ao58, co58, eo58⟩ := Kd.N_slice HO468.out
                  subst eo58
                  obtain ⟨Ao59, co59, eo59⟩ := Kd.N_slice HO473.out
                  subst eo59
                  go_wp2
                  repeat (go_quiet (fail); try go_wp2)
                  go_meet
                  case rel => exact ⟨_, (true), (by first | rfl | (simp; done) | (simp [*]; done)), H', ⟨by have := HK1.out; have := HK2.out; have := HJ22.out; have := HJ29.out; have := HK5.out; first | omega | exact Nat.le_refl _⟩, ⟨by (with_reducible repeat (first | apply Kd.N_alloc | apply Kd.N_drewN | apply Kd.N_drew)); exact Kd.N_mono HO468.out (fun _ hk => hk.2)⟩, ⟨by (with_reducible repeat (first | apply Kd.N_alloc | apply Kd.N_drewN | apply Kd.N_drew)); exact Kd.N_mono HO473.out (fun _ hk => hk.2.2.2)⟩, ⟨zm HB⟩⟩
                case rest =>
                 clear HC50
                 try clear c1
                 try clear c2
                 try clear p2
                 try clear c3
                 try clear c3b0
                 try clear c3b1
                 try clear c4
                 try clear p4
                 try clear q4
                 try clear hx4
                 try clear c5
                 try clear p6
                 try clear c8
                 try clear c8b0
                 try clear c11
                 try clear c13
                 try clear c19
                 try clear c19b0
                 try clear c20
                 try clear c25
                 try clear c26
                 try clear c35
                 try clear c35b0
                 try clear c35b1
                 try clear c35b2
                 try clear c40
                 try clear c41
                 try clear c41b0
                 try clear c42
                 try clear c42b0
                 try clear c43
                 try clear c43b0
                 try clear c45
                 try clear c46
                 try clear p46
                 try clear q46
                 try clear hx46
                 try clear c55
                 try clear c55b0
                 try clear c55b1
                 try clear c55b2
                 try clear hx463_0
                 try clear hx464_0
                 try clear p2
                 try clear p463
                 try clear p464
                 try clear p6
                 try clear q463
                 try clear q464
                 obtain ⟨kq, x81_49, rfl, HA, HJ49, HO_12, HO_14, HB⟩ := hcut
                 cases kq with
                 | zero => exact absurd HA.out (by simp [awardingbodylaw20_BubbleSplits.j5])
                 | succ kj49 =>
                  have H := HA.out
                  clear HA
                  simp only [awardingbodylaw20_BubbleSplits.j5] at H
                  by_cases c60 : x81_49 = true
                  ·subst c60
                   have H1 : (none) = some r := by rw [if_pos rfl] at H; exact H
                   clear H
                   have H := H1
                   clear H1
                   exact absurd H (by simp)
                  ·replace c60 := Bool.eq_false_iff.mpr c60
                   subst c60
                   have H1 : (awardingbodylaw20_BubbleSplits.l5 kj49 t466 t470 0) = some r := by rw [if_neg (show ¬ (false = true) by decide)] at H; exact H
                   clear H
                   have H := H1
                   clear H1
                   have H' := za H
                   clear H
                   go_wp2
                   repeat (go_quiet (fail); try go_wp2)
                   go_loopg [16] kj49 (fun kq v16 w' => ∃ (x16_7 : Int), v16 = .int .i64 x16_7 ∧ Aside0 (awardingbodylaw20_BubbleSplits.l5 kq t466 t470 x16_7 = some r) ∧ Aside0 (kq ≤ kj49) ∧ Aside0 (Kd.N (Kd.slice 3 (Kd.int .i64)) 28 w' w.heap.size (fun k_ => some k_ ≠ (v472 : Value).ownBlock) v467 t466) ∧ Aside0 (Kd.N (Kd.slice 3 (Kd.int .i64)) 28 w' w.heap.size (fun k_ => some k_ ≠ (v467 : Value).ownBlock) v472 t470) ∧ Aside0 (Below w.heap.size w w'))
                   case atStart => exact ⟨(0), (by first | rfl | (simp; done) | (simp [*]; done)), H', ⟨Nat.le_refl _⟩, ⟨by (with_reducible repeat (first | apply Kd.N_alloc | apply Kd.N_drewN | apply Kd.N_drew)); exact HO_12.out⟩, ⟨by (with_reducible repeat (first | apply Kd.N_alloc | apply Kd.N_drewN | apply Kd.N_drew)); exact HO_14.out⟩, ⟨zm HB⟩⟩
                   case round =>
                    clear H'
                    try clear c1
                    try clear c2
                    try clear p2
                    try clear c3
                    try clear c3b0
                    try clear c3b1
                    try clear c4
                    try clear p4
                    try clear q4
                    try clear hx4
                    try clear c5
                    try clear c6
                    try clear p6
                    try clear c8
                    try clear c8b0
                    try clear c11
                    try clear c13
                    try clear c19
                    try clear c19b0
                    try clear c20
                    try clear c25
                    try clear c26
                    try clear c35
                    try clear c35b0
                    try clear c35b1
                    try clear c35b2
                    try clear c40
                    try clear c41
                    try clear c41b0
                    try clear c42
                    try clear c42b0
                    try clear c43
                    try clear c43b0
                    try clear c45
                    try clear c46
                    try clear p46
                    try clear q46
                    try clear hx46
                    try clear c55
                    try clear c55b0
                    try clear c55b1
                    try clear c55b2
                    try clear c60
                    try clear hx463_0
                    try clear hx464_0
                    try clear p2
                    try clear p4
                    try clear p46
                    try clear p463
                    try clear p464
                    try clear p6
                    try clear q4
                    try clear q46
                    try clear q463
                    try clear q464
                    obtain ⟨x16_7, rfl, HA, HK7, HO_12, HO_14, HB⟩ := hrel
                    cases gk with
                    | zero => exact absurd HA.out (by simp [awardingbodylaw20_BubbleSplits.l5])
                    | succ k7 =>
                     have H := HA.out
                     clear HA
                     simp only [awardingbodylaw20_BubbleSplits.l5] at H
                     by_cases c61 : x16_7 < (t466.length : Int)
                     ·rw [if_pos c61] at H
                      have c61b0 : decide (x16_7 < (t466.length : Int)) = true := decide_eq_true c61
                      clear c61
                      by_cases c62 : 0 ≤ x16_7
                      ·rw [if_pos c62] at H
                       have c62b0 : decide (0 ≤ x16_7) = true := decide_eq_true c62
                       clear c62
                       by_cases c63 : x16_7 < (t470.length : Int)
                       ·rw [if_pos c63] at H
                        have c63b0 : decide (x16_7 < (t470.length : Int)) = true := decide_eq_true c63
                        clear c63
                        replace H := Option.bind_eq_some_iff.mp H
                        obtain ⟨t476, A640, H⟩ := H
                        replace H : (if t476 = true then (awardingbodylaw20_BubbleSplits.l5 k7 t466 t470 (wrap64 (x16_7 + 1))) else (none)) = some r := H
                        have A64 := za A640
                        clear A640
                        by_cases c65 : t476 = true
                        ·subst c65
                         have H1 : (awardingbodylaw20_BubbleSplits.l5 k7 t466 t470 (wrap64 (x16_7 + 1))) = some r := by rw [if_pos rfl] at H; exact H
                         clear H
                         have H := H1
                         clear H1
                         have H' := za H
                         clear H
                         obtain ⟨Ao66, co66, eo66⟩ := Kd.N_slice HO_12.out
                         subst eo66
                         have p474 : 0 ≤ (x16_7 : Int) := of_decide_eq_true (by first | (with_reducible assumption) | assumption)
                         have q474 : x16_7 < (t466.length : Int) := of_decide_eq_true (by first | (with_reducible assumption) | assumption)
                         obtain ⟨ad474, A474_0, c474_0, e474, hx474_0, hl474_0, hi474_0⟩ := at_L2 (Kd.N_reads' HO_12.out).2.2 x16_7 p474 q474
                         cases e474
                         obtain ⟨ce474, hce474, hMe474, hcc474⟩ := Kd.N_get HO_12.out [] x16_7 p474 (by first | exact q474 | exact of_decide_eq_true (by first | (with_reducible assumption) | assumption) | (have e_ := (Kd.N_reads' HO_12.out).1; omega))
                         obtain ⟨ua474_0, uc474_0, rfl, ul474_0, ge474_0⟩ := Kd.FK_slice_open hMe474
                         have hv474_0 := hcc474 0 _ rfl
                         rw [Nat.add_zero, show ((Kd.slice 3 (Kd.int .i64))).sz = 1 from rfl, Nat.mul_one] at hv474_0
                         replace hv474_0 := Option.some.inj (hv474_0.symm.trans hx474_0)
                         injection hv474_0 with hva_ hvn_ hvc_
                         rw [hva_] at ge474_0
                         rw [hvc_] at ul474_0
                         have HL474_0 := za (show Kd.V (Kd.int .i64) 3 _ w.heap.size _ _ (rd_L2 t466 x16_7) from Kd.V_mk ul474_0 ge474_0)
                         clear hva_ hvn_ hvc_ ge474_0 ul474_0 hcc474 hce474
                         have HR474_0 := za hi474_0
                         have HC474_0 := za hl474_0
                         clear hi474_0 hl474_0
                         replace p474 := eq_true p474
                         replace q474 := eq_true q474
                         obtain ⟨Ao67, co67, eo67⟩ := Kd.N_slice HO_14.out
                         subst eo67
                         have p475 : 0 ≤ (x16_7 : Int) := of_decide_eq_true (by first | (with_reducible assumption) | assumption)
                         have q475 : x16_7 < (t470.length : Int) := of_decide_eq_true (by first | (with_reducible assumption) | assumption)
                         obtain ⟨ad475, A475_0, c475_0, e475, hx475_0, hl475_0, hi475_0⟩ := at_L2 (Kd.N_reads' HO_14.out).2.2 x16_7 p475 q475
                         cases e475
                         obtain ⟨ce475, hce475, hMe475, hcc475⟩ := Kd.N_get HO_14.out [] x16_7 p475 (by first | exact q475 | exact of_decide_eq_true (by first | (with_reducible assumption) | assumption) | (have e_ := (Kd.N_reads' HO_14.out).1; omega))
                         obtain ⟨ua475_0, uc475_0, rfl, ul475_0, ge475_0⟩ := Kd.FK_slice_open hMe475
                         have hv475_0 := hcc475 0 _ rfl
                         rw [Nat.add_zero, show ((Kd.slice 3 (Kd.int .i64))).sz = 1 from rfl, Nat.mul_one] at hv475_0
                         replace hv475_0 := Option.some.inj (hv475_0.symm.trans hx475_0)
                         injection hv475_0 with hva_ hvn_ hvc_
                         rw [hva_] at ge475_0
                         rw [hvc_] at ul475_0
                         have HL475_0 := za (show Kd.V (Kd.int .i64) 3 _ w.heap.size _ _ (rd_L2 t470 x16_7) from Kd.V_mk ul475_0 ge475_0)
                         clear hva_ hvn_ hvc_ ge475_0 ul475_0 hcc475 hce475
                         have HR475_0 := za hi475_0
                         have HC475_0 := za hl475_0
                         clear hi475_0 hl475_0
                         replace p475 := eq_true p475
                         replace q475 := eq_true q475
                         go_wp2_with (first | (go_at_call 27; (with_reducible refine (awardingbodyref06_Ints.calls k7 _ _ (rd_L2 t466 x16_7) _ _ (rd_L2 t470 x16_7) true _ ?side1 ?side2 ?side3 ?side4 A64.out).mono ?_); (case side1 => repeat (first | exact (by repeat (first | (with_reducible exact HR474_0.out) | (with_reducible refine Kd.C_alloc ?_ _) | (with_reducible refine Kd.C_drewN ?_ _) | (with_reducible refine Kd.C_drew ?_) | exact HR474_0.out)) | (with_reducible refine Kd.C_alloc ?_ _) | (with_reducible refine Kd.C_drewN ?_ _) | (with_reducible refine Kd.C_drew ?_))); (case side2 => exact HC474_0.out); (case side3 => repeat (first | exact (by repeat (first | (with_reducible exact HR475_0.out) | (with_reducible refine Kd.C_alloc ?_ _) | (with_reducible refine Kd.C_drewN ?_ _) | (with_reducible refine Kd.C_drew ?_) | exact HR475_0.out)) | (with_reducible refine Kd.C_alloc ?_ _) | (with_reducible refine Kd.C_drewN ?_ _) | (with_reducible refine Kd.C_drew ?_))); (case side4 => exact HC475_0.out); rintro e w' ⟨rfl, ⟨nd, rfl⟩⟩; (try first | exact ⟨rfl, _, World.drewN_drewN _ _ _⟩ | exact ⟨rfl, _, Eq.trans (World.drewN_drewN _ _ _) (congrArg (World.drewN _) (Nat.add_assoc _ _ _))⟩)))
                         repeat (go_quiet (first | (go_at_call 27; (with_reducible refine (awardingbodyref06_Ints.calls k7 _ _ (rd_L2 t466 x16_7) _ _ (rd_L2 t470 x16_7) true _ ?side1 ?side2 ?side3 ?side4 A64.out).mono ?_); (case side1 => repeat (first | exact (by repeat (first | (with_reducible exact HR474_0.out) | (with_reducible refine Kd.C_alloc ?_ _) | (with_reducible refine Kd.C_drewN ?_ _) | (with_reducible refine Kd.C_drew ?_) | exact HR474_0.out)) | (with_reducible refine Kd.C_alloc ?_ _) | (with_reducible refine Kd.C_drewN ?_ _) | (with_reducible refine Kd.C_drew ?_))); (case side2 => exact HC474_0.out); (case side3 => repeat (first | exact (by repeat (first | (with_reducible exact HR475_0.out) | (with_reducible refine Kd.C_alloc ?_ _) | (with_reducible refine Kd.C_drewN ?_ _) | (with_reducible refine Kd.C_drew ?_) | exact HR475_0.out)) | (with_reducible refine Kd.C_alloc ?_ _) | (with_reducible refine Kd.C_drewN ?_ _) | (with_reducible refine Kd.C_drew ?_))); (case side4 => exact HC475_0.out); rintro e w' ⟨rfl, ⟨nd, rfl⟩⟩; (try first | exact ⟨rfl, _, World.drewN_drewN _ _ _⟩ | exact ⟨rfl, _, Eq.trans (World.drewN_drewN _ _ _) (congrArg (World.drewN _) (Nat.add_assoc _ _ _))⟩))); try go_wp2_with (first | (go_at_call 27; (with_reducible refine (awardingbodyref06_Ints.calls k7 _ _ (rd_L2 t466 x16_7) _ _ (rd_L2 t470 x16_7) true _ ?side1 ?side2 ?side3 ?side4 A64.out).mono ?_); (case side1 => repeat (first | exact (by repeat (first | (with_reducible exact HR474_0.out) | (with_reducible refine Kd.C_alloc ?_ _) | (with_reducible refine Kd.C_drewN ?_ _) | (with_reducible refine Kd.C_drew ?_) | exact HR474_0.out)) | (with_reducible refine Kd.C_alloc ?_ _) | (with_reducible refine Kd.C_drewN ?_ _) | (with_reducible refine Kd.C_drew ?_))); (case side2 => exact HC474_0.out); (case side3 => repeat (first | exact (by repeat (first | (with_reducible exact HR475_0.out) | (with_reducible refine Kd.C_alloc ?_ _) | (with_reducible refine Kd.C_drewN ?_ _) | (with_reducible refine Kd.C_drew ?_) | exact HR475_0.out)) | (with_reducible refine Kd.C_alloc ?_ _) | (with_reducible refine Kd.C_drewN ?_ _) | (with_reducible refine Kd.C_drew ?_))); (case side4 => exact HC475_0.out); rintro e w' ⟨rfl, ⟨nd, rfl⟩⟩; (try first | exact ⟨rfl, _, World.drewN_drewN _ _ _⟩ | exact ⟨rfl, _, Eq.trans (World.drewN_drewN _ _ _) (congrArg (World.drewN _) (Nat.add_assoc _ _ _))⟩))))
                         go_roundg k7
                         case measure => have := HK1.out; have := HK2.out; have := HJ22.out; have := HJ29.out; have := HK5.out; have := HJ49.out; have := HK7.out; omega
                         case rel => exact ⟨(wrap64 (x16_7 + 1)), (by first | rfl | (simp; done) | (simp [*]; done)), H', ⟨by have := HK1.out; have := HK2.out; have := HJ22.out; have := HJ29.out; have := HK5.out; have := HJ49.out; have := HK7.out; omega⟩, ⟨by (with_reducible repeat (first | apply Kd.N_alloc | apply Kd.N_drewN | apply Kd.N_drew)); exact HO_12.out⟩, ⟨by (with_reducible repeat (first | apply Kd.N_alloc | apply Kd.N_drewN | apply Kd.N_drew)); exact HO_14.out⟩, ⟨zm HB⟩⟩
                        ·replace c65 := Bool.eq_false_iff.mpr c65
                         subst c65
                         have H1 : (none) = some r := by rw [if_neg (show ¬ (false = true) by decide)] at H; exact H
                         clear H
                         have H := H1
                         clear H1
                         exact absurd H (by simp)
                       ·rw [if_neg c63] at H
                        exact absurd H (by simp)
                      ·rw [if_neg c62] at H
                       exact absurd H (by simp)
                     ·rw [if_neg c61] at H
                      have c61b0 : decide (x16_7 < (t466.length : Int)) = false := decide_eq_false c61
                      clear c61
                      replace H := Option.bind_eq_some_iff.mp H
                      obtain ⟨t477, A680, H⟩ := H
                      replace H : (some t477) = some r := H
                      have A68 := za A680
                      clear A680
                      obtain rfl := Option.some.inj H
                      obtain ⟨Ao69, co69, eo69⟩ := Kd.N_slice HO_12.out
                      subst eo69
                      go_wp2
                      rw [rounds_succ]
                      go_wp2_with (first | (go_at_call 14; (with_reducible refine (awardingbodylaw20_awake.calls k7  t477 _ A68.out).mono ?_); rintro e w70 ⟨rfl, hb⟩; replace HO_12 := za (Kd.N_below (by (with_reducible repeat (first | apply Kd.N_alloc | apply Kd.N_drewN | apply Kd.N_drew)); exact HO_12.out) hb); replace HO_14 := za (Kd.N_below (by (with_reducible repeat (first | apply Kd.N_alloc | apply Kd.N_drewN | apply Kd.N_drew)); exact HO_14.out) hb); replace HB := zs HB hb; (try clear hb); (try clear hb2); (try clear hk); (try clear hi)))
                      repeat (go_quiet (first | (go_at_call 14; (with_reducible refine (awardingbodylaw20_awake.calls k7  t477 _ A68.out).mono ?_); rintro e w70 ⟨rfl, hb⟩; replace HO_12 := za (Kd.N_below (by (with_reducible repeat (first | apply Kd.N_alloc | apply Kd.N_drewN | apply Kd.N_drew)); exact HO_12.out) hb); replace HO_14 := za (Kd.N_below (by (with_reducible repeat (first | apply Kd.N_alloc | apply Kd.N_drewN | apply Kd.N_drew)); exact HO_14.out) hb); replace HB := zs HB hb; (try clear hb); (try clear hb2); (try clear hk); (try clear hi))); try go_wp2_with (first | (go_at_call 14; (with_reducible refine (awardingbodylaw20_awake.calls k7  t477 _ A68.out).mono ?_); rintro e w70 ⟨rfl, hb⟩; replace HO_12 := za (Kd.N_below (by (with_reducible repeat (first | apply Kd.N_alloc | apply Kd.N_drewN | apply Kd.N_drew)); exact HO_12.out) hb); replace HO_14 := za (Kd.N_below (by (with_reducible repeat (first | apply Kd.N_alloc | apply Kd.N_drewN | apply Kd.N_drew)); exact HO_14.out) hb); replace HB := zs HB hb; (try clear hb); (try clear hb2); (try clear hk); (try clear hi))))
                      go_ret
                      exact ⟨zf, zm HB⟩

/-- THE ONE PURE STATEMENT of awardingbodylaw20_BubbleSplits: yours. -/
def awardingbodylaw20_BubbleSplits.Pure : Prop := ∀ (l0 : List (S46)) (l1 : List Int), l0.length ≤ maxLen → l0.length * 16 ≤ 140737488351232 → (∀ x ∈ l0, (Lit.int .i64 x.f0).wf = true ∧ (Lit.int .i64 x.f1).wf = true) → l1.length ≤ maxLen → l1.length * 8 ≤ 140737488351232 → (∀ x ∈ l1, (Lit.int .i64 x).wf = true) → ∃ k, awardingbodylaw20_BubbleSplits.f k l0 l1 = some true
theorem awardingbodylaw20_BubbleSplits.walk (P : awardingbodylaw20_BubbleSplits.Pure) (a0 : Option Addr) (len0 cap0 : Nat) (z0 : List (S46)) (a1 : Option Addr) (len1 cap1 : Nat) (z1 : List Int) (w : World) (w0 : len0 = z0.length ∧ Kd.C k46 w a0 z0.length z0 ∧ z0.length ≤ maxLen ∧ z0.length ≤ cap0 ∧ ∀ x ∈ z0, (Lit.int .i64 x.f0).wf = true ∧ (Lit.int .i64 x.f1).wf = true) (y0 : len0 * 16 ≤ 140737488351232) (w1 : (a1 = none ∧ len1 = 0 ∧ cap1 = 0 ∧ z1 = []) ∨ ∃ x, a1 = some x ∧ len1 ≤ cap1 ∧ cap1 ≤ maxLen ∧ z1.length = cap1 ∧ (∀ i, i < z1.length → w.cell? (x.add i) = some (.int .i64 (z1.getD i 0))) ∧ ∀ n ∈ z1, (Lit.int .i64 n).wf = true) (y1 : len1 * 8 ≤ 140737488351232) :
  Calls Try.prog 8 #[.slice a0 len0 cap0, .slice a1 len1 cap1] w fun e w' => e = .returned (.bool true) ∧ Below w.heap.size w w' := by
 obtain ⟨l0, rfl, hr0, hm0, hc0, hw0⟩ : ∃ l : List (S46), len0 = l.length ∧ Kd.C k46 w a0 l.length l ∧ l.length ≤ maxLen ∧ l.length ≤ cap0 ∧ ∀ x ∈ l, (Lit.int .i64 x.f0).wf = true ∧ (Lit.int .i64 x.f1).wf = true := ⟨z0, w0⟩
 obtain ⟨l1, rfl, hr1, hm1, hw1, hc1⟩ := ReadsInt.ofRowC w1
 obtain ⟨k, h⟩ := P l0 l1 hm0 y0 hw0 hm1 y1 hw1
 refine (awardingbodylaw20_BubbleSplits.calls k _ _ l0 _ _ l1 true w hr0 hc0 (Kd.C_of_reads (d := (0 : Int)) (h1 := fun _ => rfl) hr1) hc1 h).mono ?_
 rintro e w' ⟨rfl, hd⟩
 exact ⟨rfl, hd⟩

end Go.Proofs.Ythbmpjglkbhhgaa.Print
