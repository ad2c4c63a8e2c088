-- Printed by a program of this session (wip/own_print.py) out of the translation; Lean checks it.
import Derived.Test.YthbmpjglkbhhgaaPrint0
import Derived.Test.YthbmpjglkbhhgaaPrint1
import Derived.Test.YthbmpjglkbhhgaaPrint4
namespace Go.Proofs.Ythbmpjglkbhhgaa.Print
open Go.RowKit Go.Proofs.YthbmpjglkbhhgaaW.PrintWords Go.Proofs.YthbmpjglkbhhgaaW.PrintLast Go.Proofs.YthbmpjglkbhhgaaW.PrintMore
attribute [local go_sem] max2_int min2_int max_two min_two max_three min_three max_four min_four   -- for this text's walks alone
set_option linter.unusedVariables false
set_option linter.unusedSimpArgs false

/-! ### awardingbodyref20_greatest: function 45 -/
mutual
def awardingbodyref20_greatest.l0 : Nat → List Int → Int → Int → Int → Option (Int × Bool)
  | 0, _, _, _, _ => none
  | k + 1, x0, x1, x6, x7 => if x7 < (x0.length : Int) then (if 0 ≤ x7 then (if 0 ≤ x6 then (if x6 < (x0.length : Int) then (if (rd x0 x7) > (rd x0 x6) then (awardingbodyref20_greatest.l0 k x0 x1 x7 (wrap64 (x7 + 1))) else (awardingbodyref20_greatest.l0 k x0 x1 x6 (wrap64 (x7 + 1)))) else (none)) else (none)) else (none)) else (awardingbodyref20_greatest.l1 k x0 x1 x6 0)
def awardingbodyref20_greatest.l1 : Nat → List Int → Int → Int → Int → Option (Int × Bool)
  | 0, _, _, _, _ => none
  | k + 1, x0, x1, x6, x8 => if x8 < (x0.length : Int) then (if x8 = x6 then (awardingbodyref20_greatest.l1 k x0 x1 x6 (wrap64 (x8 + 1))) else (if 0 ≤ x8 then (if 0 ≤ x6 then (if x6 < (x0.length : Int) then (if (rd x0 x8) > (wrap64 ((rd x0 x6) - x1)) then (some (x6, false)) else (awardingbodyref20_greatest.l1 k x0 x1 x6 (wrap64 (x8 + 1)))) else (none)) else (none)) else (none))) else (some (x6, true))
end
def awardingbodyref20_greatest.f (k : Nat) (l0 : List Int) (a1 : Int) : Option (Int × Bool) := awardingbodyref20_greatest.l0 k l0 a1 0 1
theorem awardingbodyref20_greatest.mono_l : ∀ k, (∀ y0 y1 y2 y3, LeO (awardingbodyref20_greatest.l0 k y0 y1 y2 y3) (awardingbodyref20_greatest.l0 (k + 1) y0 y1 y2 y3)) ∧ (∀ y0 y1 y2 y3, LeO (awardingbodyref20_greatest.l1 k y0 y1 y2 y3) (awardingbodyref20_greatest.l1 (k + 1) y0 y1 y2 y3))
  | 0 => ⟨fun _ _ _ _ r h => by simp [awardingbodyref20_greatest.l0] at h, fun _ _ _ _ r h => by simp [awardingbodyref20_greatest.l1] at h⟩
  | k + 1 => by
    obtain ⟨ih0, ih1⟩ := awardingbodyref20_greatest.mono_l k
    refine ⟨?_, ?_⟩
    · intro y0 y1 y2 y3
      unfold awardingbodyref20_greatest.l0
      repeat' first
      | (with_reducible exact ih0 _ _ _ _)
      | (with_reducible exact ih1 _ _ _ _)
      | (with_reducible exact LeO.refl _)
      | (with_reducible exact LeO.none _)
      | (with_reducible refine LeO.ite ?_ ?_)
      | (with_reducible refine LeO.bind ?_ (fun _ => ?_))
      | exact ih0 _ _ _ _
      | exact ih1 _ _ _ _
      | exact LeO.none _
      | refine LeO.ite ?_ ?_
      | refine LeO.bind ?_ (fun _ => ?_)
    · intro y0 y1 y2 y3
      unfold awardingbodyref20_greatest.l1
      repeat' first
      | (with_reducible exact ih0 _ _ _ _)
      | (with_reducible exact ih1 _ _ _ _)
      | (with_reducible exact LeO.refl _)
      | (with_reducible exact LeO.none _)
      | (with_reducible refine LeO.ite ?_ ?_)
      | (with_reducible refine LeO.bind ?_ (fun _ => ?_))
      | exact ih0 _ _ _ _
      | exact ih1 _ _ _ _
      | exact LeO.none _
      | refine LeO.ite ?_ ?_
      | refine LeO.bind ?_ (fun _ => ?_)
theorem awardingbodyref20_greatest.mono : ∀ a0 a1 k, LeO (awardingbodyref20_greatest.f k a0 a1) (awardingbodyref20_greatest.f (k + 1) a0 a1) := by
  intro a0 a1 k
  obtain ⟨ih0, ih1⟩ := awardingbodyref20_greatest.mono_l k
  unfold awardingbodyref20_greatest.f
  repeat' first
      | (with_reducible exact ih0 _ _ _ _)
      | (with_reducible exact ih1 _ _ _ _)
      | (with_reducible exact LeO.refl _)
      | (with_reducible exact LeO.none _)
      | (with_reducible refine LeO.ite ?_ ?_)
      | (with_reducible refine LeO.bind ?_ (fun _ => ?_))
      | exact ih0 _ _ _ _
      | exact ih1 _ _ _ _
      | exact LeO.none _
      | refine LeO.ite ?_ ?_
      | refine LeO.bind ?_ (fun _ => ?_)
set_option maxHeartbeats 8000000 in
set_option maxRecDepth 100000 in
theorem awardingbodyref20_greatest.calls (k : Nat) (A0 : Option Addr) (c0 : Nat) (l0 : List Int) (a1 : Int) (r1 : Int) (r2 : Bool) (w : World) (hr0 : Kd.C (Kd.int .i64) w A0 l0.length l0) (hc0 : l0.length ≤ c0) (h : awardingbodyref20_greatest.f k l0 a1 = some (r1, r2)) :
    Calls Try.prog 45 #[.slice A0 l0.length c0, .int .i64 a1] w fun e w' => e = .returned (.tuple #[.int .i64 r1, .bool r2]) ∧ Drawn0 w w' := by
 have HR0 := Aside0.mk hr0
 have HC0 := Aside0.mk hc0
 clear hr0 hc0
 have H : (awardingbodyref20_greatest.l0 k l0 a1 0 1) = some (r1, r2) := h
 clear h
 have H' := Aside0.mk H
 clear H
 go_enter Try.func45, Try.ntmps45
 go_wp2
 repeat (go_quiet (fail); try go_wp2)
 go_loopg [6, 7] k (fun kq v6 v7 w' => ∃ (x6_1 : Int) (x7_1 : Int), v6 = .int .i64 x6_1 ∧ v7 = .int .i64 x7_1 ∧ Aside0 (awardingbodyref20_greatest.l0 kq l0 a1 x6_1 x7_1 = some (r1, r2)) ∧ Aside0 (kq ≤ k) ∧ Drawn0 w w')
 case atStart => exact ⟨(0), (1), (by first | rfl | (simp; done) | (simp [*]; done)), (by first | rfl | (simp; done) | (simp [*]; done)), H', ⟨Nat.le_refl _⟩, by repeat (first | exact Drawn0.refl _ | apply Drawn0.step)⟩
 case round =>
  clear H'
  try clear p2
  obtain ⟨x6_1, x7_1, rfl, rfl, HA, HK1, ⟨m1, rfl⟩⟩ := hrel
  cases gk with
  | zero => exact absurd HA.out (by simp [awardingbodyref20_greatest.l0])
  | succ k1 =>
   have H := HA.out
   clear HA
   simp only [awardingbodyref20_greatest.l0] at H
   by_cases c3 : x7_1 < (l0.length : Int)
   ·rw [if_pos c3] at H
    have c3b0 : decide (x7_1 < (l0.length : Int)) = true := decide_eq_true c3
    clear c3
    by_cases c4 : 0 ≤ x7_1
    ·rw [if_pos c4] at H
     have c4b0 : decide (0 ≤ x7_1) = true := decide_eq_true c4
     clear c4
     by_cases c5 : 0 ≤ x6_1
     ·rw [if_pos c5] at H
      have c5b0 : decide (0 ≤ x6_1) = true := decide_eq_true c5
      clear c5
      by_cases c6 : x6_1 < (l0.length : Int)
      ·rw [if_pos c6] at H
       have c6b0 : decide (x6_1 < (l0.length : Int)) = true := decide_eq_true c6
       clear c6
       by_cases c7 : (rd l0 x7_1) > (rd l0 x6_1)
       ·rw [if_pos c7] at H
        have c7b0 : decide ((rd l0 x6_1) < (rd l0 x7_1)) = true := decide_eq_true c7
        clear c7
        have H' := Aside0.mk H
        clear H
        have p194 : 0 ≤ (x7_1 : Int) := of_decide_eq_true (by first | (with_reducible assumption) | assumption)
        have q194 : x7_1 < (l0.length : Int) := of_decide_eq_true (by first | (with_reducible assumption) | assumption)
        obtain ⟨ad194, e194, hx194_0⟩ := Kd.at_int HR0.out x7_1 p194 q194
        cases e194
        replace p194 := eq_true p194
        replace q194 := eq_true q194
        have p195 : 0 ≤ (x6_1 : Int) := of_decide_eq_true (by first | (with_reducible assumption) | assumption)
        have q195 : x6_1 < (l0.length : Int) := of_decide_eq_true (by first | (with_reducible assumption) | assumption)
        obtain ⟨ad195, e195, hx195_0⟩ := Kd.at_int HR0.out x6_1 p195 q195
        obtain rfl : ad194 = ad195 := (by injection e195)
        replace p195 := eq_true p195
        replace q195 := eq_true q195
        go_wp2
        repeat (go_quiet (fail); try go_wp2)
        go_roundg k1
        case measure => have := HK1.out; omega
        case rel => exact ⟨(x7_1), (wrap64 (x7_1 + 1)), (by first | rfl | (simp; done) | (simp [*]; done)), (by first | rfl | (simp; done) | (simp [*]; done)), H', ⟨by have := HK1.out; omega⟩, by repeat (first | exact Drawn0.refl _ | apply Drawn0.step)⟩
       ·rw [if_neg c7] at H
        have c7b0 : decide ((rd l0 x6_1) < (rd l0 x7_1)) = false := decide_eq_false c7
        clear c7
        have H' := Aside0.mk H
        clear H
        have p194 : 0 ≤ (x7_1 : Int) := of_decide_eq_true (by first | (with_reducible assumption) | assumption)
        have q194 : x7_1 < (l0.length : Int) := of_decide_eq_true (by first | (with_reducible assumption) | assumption)
        obtain ⟨ad194, e194, hx194_0⟩ := Kd.at_int HR0.out x7_1 p194 q194
        cases e194
        replace p194 := eq_true p194
        replace q194 := eq_true q194
        have p195 : 0 ≤ (x6_1 : Int) := of_decide_eq_true (by first | (with_reducible assumption) | assumption)
        have q195 : x6_1 < (l0.length : Int) := of_decide_eq_true (by first | (with_reducible assumption) | assumption)
        obtain ⟨ad195, e195, hx195_0⟩ := Kd.at_int HR0.out x6_1 p195 q195
        obtain rfl : ad194 = ad195 := (by injection e195)
        replace p195 := eq_true p195
        replace q195 := eq_true q195
        go_wp2
        repeat (go_quiet (fail); try go_wp2)
        go_roundg k1
        case measure => have := HK1.out; omega
        case rel => exact ⟨(x6_1), (wrap64 (x7_1 + 1)), (by first | rfl | (simp; done) | (simp [*]; done)), (by first | rfl | (simp; done) | (simp [*]; done)), H', ⟨by have := HK1.out; omega⟩, by repeat (first | exact Drawn0.refl _ | apply Drawn0.step)⟩
      ·rw [if_neg c6] at H
       exact absurd H (by simp)
     ·rw [if_neg c5] at H
      exact absurd H (by simp)
    ·rw [if_neg c4] at H
     exact absurd H (by simp)
   ·rw [if_neg c3] at H
    have c3b0 : decide (x7_1 < (l0.length : Int)) = false := decide_eq_false c3
    clear c3
    have H' := Aside0.mk H
    clear H
    go_wp2
    repeat (go_quiet (fail); try go_wp2)
    go_loopg [8] k1 (fun kq v8 w' => ∃ (x8_2 : Int), v8 = .int .i64 x8_2 ∧ Aside0 (awardingbodyref20_greatest.l1 kq l0 a1 x6_1 x8_2 = some (r1, r2)) ∧ Aside0 (kq ≤ k1) ∧ Drawn0 w w')
    case atStart => exact ⟨(0), (by first | rfl | (simp; done) | (simp [*]; done)), H', ⟨Nat.le_refl _⟩, by repeat (first | exact Drawn0.refl _ | apply Drawn0.step)⟩
    case round =>
     clear H'
     try clear p1
     try clear q1
     try clear hx1
     try clear p2
     try clear c3
     try clear c3b0
     try clear c4
     try clear c4b0
     try clear c5
     try clear c5b0
     try clear c6
     try clear c6b0
     try clear p6
     try clear c7
     try clear c7b0
     try clear hx194_0
     try clear hx195_0
     try clear p194
     try clear p195
     try clear p2
     try clear q194
     try clear q195
     obtain ⟨x8_2, rfl, HA, HK2, ⟨m2, rfl⟩⟩ := hrel
     cases gk with
     | zero => exact absurd HA.out (by simp [awardingbodyref20_greatest.l1])
     | succ k2 =>
      have H := HA.out
      clear HA
      simp only [awardingbodyref20_greatest.l1] at H
      by_cases c8 : x8_2 < (l0.length : Int)
      ·rw [if_pos c8] at H
       have c8b0 : decide (x8_2 < (l0.length : Int)) = true := decide_eq_true c8
       clear c8
       by_cases c9 : x8_2 = x6_1
       ·rw [if_pos c9] at H
        have c9b0 : (x8_2 == x6_1) = true := beq_iff_eq.mpr c9
        have c9b1 : (x8_2 != x6_1) = false := bne_eq_false_iff_eq.mpr c9
        clear c9
        have H' := Aside0.mk H
        clear H
        go_wp2
        repeat (go_quiet (fail); try go_wp2)
        go_roundg k2
        case measure => have := HK1.out; have := HK2.out; omega
        case rel => exact ⟨(wrap64 (x8_2 + 1)), (by first | rfl | (simp; done) | (simp [*]; done)), H', ⟨by have := HK1.out; have := HK2.out; omega⟩, by repeat (first | exact Drawn0.refl _ | apply Drawn0.step)⟩
       ·rw [if_neg c9] at H
        have c9b0 : (x8_2 == x6_1) = false := beq_eq_false_iff_ne.mpr c9
        have c9b1 : (x8_2 != x6_1) = true := bne_iff_ne.mpr c9
        by_cases c10 : 0 ≤ x8_2
        ·rw [if_pos c10] at H
         have c10b0 : decide (0 ≤ x8_2) = true := decide_eq_true c10
         clear c10
         by_cases c11 : 0 ≤ x6_1
         ·rw [if_pos c11] at H
          have c11b0 : decide (0 ≤ x6_1) = true := decide_eq_true c11
          clear c11
          by_cases c12 : x6_1 < (l0.length : Int)
          ·rw [if_pos c12] at H
           have c12b0 : decide (x6_1 < (l0.length : Int)) = true := decide_eq_true c12
           clear c12
           by_cases c13 : (rd l0 x8_2) > (wrap64 ((rd l0 x6_1) - a1))
           ·rw [if_pos c13] at H
            have c13b0 : decide ((wrap64 ((rd l0 x6_1) - a1)) < (rd l0 x8_2)) = true := decide_eq_true c13
            clear c13
            simp only [Option.some.injEq, Prod.mk.injEq] at H
            obtain ⟨rfl, rfl⟩ := H
            have p196 : 0 ≤ (x8_2 : Int) := of_decide_eq_true (by first | (with_reducible assumption) | assumption)
            have q196 : x8_2 < (l0.length : Int) := of_decide_eq_true (by first | (with_reducible assumption) | assumption)
            obtain ⟨ad196, e196, hx196_0⟩ := Kd.at_int HR0.out x8_2 p196 q196
            cases e196
            replace p196 := eq_true p196
            replace q196 := eq_true q196
            have p197 : 0 ≤ (x6_1 : Int) := of_decide_eq_true (by first | (with_reducible assumption) | assumption)
            have q197 : x6_1 < (l0.length : Int) := of_decide_eq_true (by first | (with_reducible assumption) | assumption)
            obtain ⟨ad197, e197, hx197_0⟩ := Kd.at_int HR0.out x6_1 p197 q197
            obtain rfl : ad196 = ad197 := (by injection e197)
            replace p197 := eq_true p197
            replace q197 := eq_true q197
            go_wp2
            repeat (go_quiet (fail); try go_wp2)
            go_ret2
            exact ⟨by first | rfl | (simp; done) | (simp [*]; done), by repeat (first | exact Drawn0.refl _ | apply Drawn0.step)⟩
           ·rw [if_neg c13] at H
            have c13b0 : decide ((wrap64 ((rd l0 x6_1) - a1)) < (rd l0 x8_2)) = false := decide_eq_false c13
            clear c13
            have H' := Aside0.mk H
            clear H
            have p196 : 0 ≤ (x8_2 : Int) := of_decide_eq_true (by first | (with_reducible assumption) | assumption)
            have q196 : x8_2 < (l0.length : Int) := of_decide_eq_true (by first | (with_reducible assumption) | assumption)
            obtain ⟨ad196, e196, hx196_0⟩ := Kd.at_int HR0.out x8_2 p196 q196
            cases e196
            replace p196 := eq_true p196
            replace q196 := eq_true q196
            have p197 : 0 ≤ (x6_1 : Int) := of_decide_eq_true (by first | (with_reducible assumption) | assumption)
            have q197 : x6_1 < (l0.length : Int) := of_decide_eq_true (by first | (with_reducible assumption) | assumption)
            obtain ⟨ad197, e197, hx197_0⟩ := Kd.at_int HR0.out x6_1 p197 q197
            obtain rfl : ad196 = ad197 := (by injection e197)
            replace p197 := eq_true p197
            replace q197 := eq_true q197
            go_wp2
            repeat (go_quiet (fail); try go_wp2)
            go_roundg k2
            case measure => have := HK1.out; have := HK2.out; omega
            case rel => exact ⟨(wrap64 (x8_2 + 1)), (by first | rfl | (simp; done) | (simp [*]; done)), H', ⟨by have := HK1.out; have := HK2.out; omega⟩, by repeat (first | exact Drawn0.refl _ | apply Drawn0.step)⟩
          ·rw [if_neg c12] at H
           exact absurd H (by simp)
         ·rw [if_neg c11] at H
          exact absurd H (by simp)
        ·rw [if_neg c10] at H
         exact absurd H (by simp)
      ·rw [if_neg c8] at H
       have c8b0 : decide (x8_2 < (l0.length : Int)) = false := decide_eq_false c8
       clear c8
       simp only [Option.some.injEq, Prod.mk.injEq] at H
       obtain ⟨rfl, rfl⟩ := H
       go_wp2
       repeat (go_quiet (fail); try go_wp2)
       go_ret2
       exact ⟨by first | rfl | (simp; done) | (simp [*]; done), by repeat (first | exact Drawn0.refl _ | apply Drawn0.step)⟩

/-! ### awardingbodyref20_Judge: function 22 -/
mutual
def awardingbodyref20_Judge.j0 : Nat → List Int → Bool → Int → Int → Int → Option (Int × Int)
  | 0, _, _, _, _, _ => none
  | k + 1, x1, x20, x199000, x199001, x199002 => if x20 = true then (some (0, 3)) else ((awardingbodyref20_Dark.f k x1).bind fun t200 => (if t200 = true then (awardingbodyref20_Judge.l0 k x1 0 0 x199000 x199001 x199002) else (some (0, 2))))
def awardingbodyref20_Judge.l0 : Nat → List Int → Int → Int → Int → Int → Int → Option (Int × Int)
  | 0, _, _, _, _, _, _ => none
  | k + 1, x1, x6, x7, x199000, x199001, x199002 => if x7 < (x1.length : Int) then (if 0 ≤ x7 then (if (rd x1 x7) ≥ x199000 then (awardingbodyref20_Judge.l0 k x1 (wrap64 (x6 + 1)) (wrap64 (x7 + 1)) x199000 x199001 x199002) else (awardingbodyref20_Judge.l0 k x1 x6 (wrap64 (x7 + 1)) x199000 x199001 x199002)) else (none)) else ((awardingbodyref20_greatest.f k x1 x199002).bind fun bt202 => (if x6 = 1 then (awardingbodyref20_Judge.j2 k x6 bt202.1 true) else (if bt202.2 = true then (if 0 ≤ bt202.1 then (if bt202.1 < (x1.length : Int) then (awardingbodyref20_Judge.j2 k x6 bt202.1 (decide ((rd x1 bt202.1) ≥ x199001))) else (none)) else (none)) else (awardingbodyref20_Judge.j2 k x6 bt202.1 false))))
def awardingbodyref20_Judge.j2 : Nat → Int → Int → Bool → Option (Int × Int)
  | 0, _, _, _ => none
  | k + 1, x6, x8, x59 => if x59 = true then (some (x8, 0)) else (if x6 > 1 then (some ((-2), 0)) else (some ((-1), 0)))
end
def awardingbodyref20_Judge.f (k : Nat) (a0_0 : Int) (a0_1 : Int) (a0_2 : Int) (l1 : List Int) : Option (Int × Int) := (awardingbodyref20_Valid.f a0_0 a0_1 a0_2).bind fun t199 => (if t199 = true then (if (l1.length : Int) < 2 then (awardingbodyref20_Judge.j0 k l1 true a0_0 a0_1 a0_2) else (awardingbodyref20_Judge.j0 k l1 (decide ((l1.length : Int) > 5)) a0_0 a0_1 a0_2)) else (some (0, 1)))
theorem awardingbodyref20_Judge.mono_l : ∀ k, (∀ y0 y1 y2 y3 y4, LeO (awardingbodyref20_Judge.j0 k y0 y1 y2 y3 y4) (awardingbodyref20_Judge.j0 (k + 1) y0 y1 y2 y3 y4)) ∧ (∀ y0 y1 y2 y3 y4 y5, LeO (awardingbodyref20_Judge.l0 k y0 y1 y2 y3 y4 y5) (awardingbodyref20_Judge.l0 (k + 1) y0 y1 y2 y3 y4 y5)) ∧ (∀ y0 y1 y2, LeO (awardingbodyref20_Judge.j2 k y0 y1 y2) (awardingbodyref20_Judge.j2 (k + 1) y0 y1 y2))
  | 0 => ⟨fun _ _ _ _ _ r h => by simp [awardingbodyref20_Judge.j0] at h, fun _ _ _ _ _ _ r h => by simp [awardingbodyref20_Judge.l0] at h, fun _ _ _ r h => by simp [awardingbodyref20_Judge.j2] at h⟩
  | k + 1 => by
    obtain ⟨ih0, ih1, ih2⟩ := awardingbodyref20_Judge.mono_l k
    refine ⟨?_, ?_, ?_⟩
    · intro y0 y1 y2 y3 y4
      unfold awardingbodyref20_Judge.j0
      repeat' first
      | (with_reducible exact ih0 _ _ _ _ _)
      | (with_reducible exact ih1 _ _ _ _ _ _)
      | (with_reducible exact ih2 _ _ _)
      | (with_reducible exact awardingbodyref20_Dark.mono _ _)
      | (with_reducible exact awardingbodyref20_greatest.mono _ _ _)
      | (with_reducible exact LeO.refl _)
      | (with_reducible exact LeO.none _)
      | (with_reducible refine LeO.ite ?_ ?_)
      | (with_reducible refine LeO.bind ?_ (fun _ => ?_))
      | exact ih0 _ _ _ _ _
      | exact ih1 _ _ _ _ _ _
      | exact ih2 _ _ _
      | exact awardingbodyref20_Dark.mono _ _
      | exact awardingbodyref20_greatest.mono _ _ _
      | exact LeO.none _
      | refine LeO.ite ?_ ?_
      | refine LeO.bind ?_ (fun _ => ?_)
    · intro y0 y1 y2 y3 y4 y5
      unfold awardingbodyref20_Judge.l0
      repeat' first
      | (with_reducible exact ih0 _ _ _ _ _)
      | (with_reducible exact ih1 _ _ _ _ _ _)
      | (with_reducible exact ih2 _ _ _)
      | (with_reducible exact awardingbodyref20_Dark.mono _ _)
      | (with_reducible exact awardingbodyref20_greatest.mono _ _ _)
      | (with_reducible exact LeO.refl _)
      | (with_reducible exact LeO.none _)
      | (with_reducible refine LeO.ite ?_ ?_)
      | (with_reducible refine LeO.bind ?_ (fun _ => ?_))
      | exact ih0 _ _ _ _ _
      | exact ih1 _ _ _ _ _ _
      | exact ih2 _ _ _
      | exact awardingbodyref20_Dark.mono _ _
      | exact awardingbodyref20_greatest.mono _ _ _
      | exact LeO.none _
      | refine LeO.ite ?_ ?_
      | refine LeO.bind ?_ (fun _ => ?_)
    · intro y0 y1 y2
      unfold awardingbodyref20_Judge.j2
      repeat' first
      | (with_reducible exact ih0 _ _ _ _ _)
      | (with_reducible exact ih1 _ _ _ _ _ _)
      | (with_reducible exact ih2 _ _ _)
      | (with_reducible exact awardingbodyref20_Dark.mono _ _)
      | (with_reducible exact awardingbodyref20_greatest.mono _ _ _)
      | (with_reducible exact LeO.refl _)
      | (with_reducible exact LeO.none _)
      | (with_reducible refine LeO.ite ?_ ?_)
      | (with_reducible refine LeO.bind ?_ (fun _ => ?_))
      | exact ih0 _ _ _ _ _
      | exact ih1 _ _ _ _ _ _
      | exact ih2 _ _ _
      | exact awardingbodyref20_Dark.mono _ _
      | exact awardingbodyref20_greatest.mono _ _ _
      | exact LeO.none _
      | refine LeO.ite ?_ ?_
      | refine LeO.bind ?_ (fun _ => ?_)
theorem awardingbodyref20_Judge.mono : ∀ a0 a1 a2 a3 k, LeO (awardingbodyref20_Judge.f k a0 a1 a2 a3) (awardingbodyref20_Judge.f (k + 1) a0 a1 a2 a3) := by
  intro a0 a1 a2 a3 k
  obtain ⟨ih0, ih1, ih2⟩ := awardingbodyref20_Judge.mono_l k
  unfold awardingbodyref20_Judge.f
  repeat' first
      | (with_reducible exact ih0 _ _ _ _ _)
      | (with_reducible exact ih1 _ _ _ _ _ _)
      | (with_reducible exact ih2 _ _ _)
      | (with_reducible exact awardingbodyref20_Dark.mono _ _)
      | (with_reducible exact awardingbodyref20_greatest.mono _ _ _)
      | (with_reducible exact LeO.refl _)
      | (with_reducible exact LeO.none _)
      | (with_reducible refine LeO.ite ?_ ?_)
      | (with_reducible refine LeO.bind ?_ (fun _ => ?_))
      | exact ih0 _ _ _ _ _
      | exact ih1 _ _ _ _ _ _
      | exact ih2 _ _ _
      | exact awardingbodyref20_Dark.mono _ _
      | exact awardingbodyref20_greatest.mono _ _ _
      | exact LeO.none _
      | refine LeO.ite ?_ ?_
      | refine LeO.bind ?_ (fun _ => ?_)
set_option maxHeartbeats 8000000 in
set_option maxRecDepth 100000 in
theorem awardingbodyref20_Judge.calls (k : Nat) (a0_0 : Int) (a0_1 : Int) (a0_2 : Int) (A1 : Option Addr) (c1 : Nat) (l1 : List Int) (r1 : Int) (r2 : Int) (w : World) (hr1 : Kd.C (Kd.int .i64) w A1 l1.length l1) (hc1 : l1.length ≤ c1) (h : awardingbodyref20_Judge.f k a0_0 a0_1 a0_2 l1 = some (r1, r2)) :
    Calls Try.prog 22 #[.agg #[.int .i64 a0_0, .int .i64 a0_1, .int .i64 a0_2], .slice A1 l1.length c1] w fun e w' => e = .returned (.tuple #[.int .i64 r1, .int .i64 r2]) ∧ Below w.heap.size w w' := by
 have hu23 := Try.underlying23
 have HR1 := Aside0.mk hr1
 have HC1 := Aside0.mk hc1
 clear hr1 hc1
 have HB := Aside0.mk (Below.refl w.heap.size w)
 have H : ((awardingbodyref20_Valid.f a0_0 a0_1 a0_2).bind fun t199 => (if t199 = true then (if (l1.length : Int) < 2 then (awardingbodyref20_Judge.j0 k l1 true a0_0 a0_1 a0_2) else (awardingbodyref20_Judge.j0 k l1 (decide ((l1.length : Int) > 5)) a0_0 a0_1 a0_2)) else (some (0, 1)))) = some (r1, r2) := h
 clear h
 replace H := Option.bind_eq_some_iff.mp H
 obtain ⟨t199, A30, H⟩ := H
 replace H : (if t199 = true then (if (l1.length : Int) < 2 then (awardingbodyref20_Judge.j0 k l1 true a0_0 a0_1 a0_2) else (awardingbodyref20_Judge.j0 k l1 (decide ((l1.length : Int) > 5)) a0_0 a0_1 a0_2)) else (some (0, 1))) = some (r1, r2) := H
 have A3 := Aside0.mk A30
 clear A30
 by_cases c4 : t199 = true
 ·subst c4
  have H1 : (if (l1.length : Int) < 2 then (awardingbodyref20_Judge.j0 k l1 true a0_0 a0_1 a0_2) else (awardingbodyref20_Judge.j0 k l1 (decide ((l1.length : Int) > 5)) a0_0 a0_1 a0_2)) = some (r1, r2) := by rw [if_pos rfl] at H; exact H
  clear H
  have H := H1
  clear H1
  have HC5 := Aside0.mk H
  clear H
  go_enter Try.func22, Try.ntmps22
  go_upto_region 3 with (first | ((with_reducible refine gate_dst (N := 2) rfl ?_); (try (refine gate_guard (by rfl) ?_; dsimp only)); refine box_event ?hg (N := 2) ?hd (cs := #[.int .i64 a0_0, .int .i64 a0_1, .int .i64 a0_2]) (t := 23) ?hr ?_; (case hd => rfl); (case hg => rfl); (case hr => first | (go_simp; done) | (go_simp; rfl)); intro gb198 hg w6 hbox hb; have n0_ := Aside0.mk (below_step (by repeat (first | (with_reducible first | exact HB.out | apply below_alloc | apply pw_below_drewN | apply below_drew1) | exact HB.out)) hb); have n1_ := Aside0.mk (hbox); have n2_ := Aside0.mk ((by rw [hg]; exact (below_size (by repeat (first | (with_reducible first | exact HB.out | apply below_alloc | apply pw_below_drewN | apply below_drew1) | exact HB.out))) : w.heap.size ≤ gb198)); have n3_ := Aside0.mk ((by rw [hg]; exact (below_size (by repeat (first | (with_reducible first | exact HB.out | apply below_alloc | apply pw_below_drewN | apply below_drew1) | exact HB.out))) : w.heap.size ≤ gb198)); clear HB; have HB := n0_; have BK198 := n1_; have GW198 := n2_; have GE198 := n3_; clear n0_ n1_ n2_ n3_; clear hb hbox hg; have hcz7_0 : w6.cell? ⟨gb198, 0, none⟩ = some (.int .i64 a0_0) := (blk_cell BK198.out 0).trans rfl; have hcz7_1 : w6.cell? ⟨gb198, 1, none⟩ = some (.int .i64 a0_1) := (blk_cell BK198.out 1).trans rfl; have hcz7_2 : w6.cell? ⟨gb198, 2, none⟩ = some (.int .i64 a0_2) := (blk_cell BK198.out 2).trans rfl; have hfz7_0 := blk_frozen BK198.out 0; have hfz7_1 := blk_frozen BK198.out 1; have hfz7_2 := blk_frozen BK198.out 2) | (go_at_call 13; (with_reducible refine (awardingbodyref20_Valid.calls a0_0 a0_1 a0_2 true _ A3.out).mono ?_); rintro e w8 ⟨rfl, hb⟩; have n0_ := Aside0.mk (blk_below (g := gb198) (o := .cells #[.int .i64 a0_0, .int .i64 a0_1, .int .i64 a0_2] 23 (0, 0)) (by (with_reducible repeat (first | refine blk_drewN ?_ _ | refine blk_drew ?_ | refine blk_alloc ?_ _)); exact BK198.out) hb); have n1_ := Aside0.mk (below_step (by repeat (first | (with_reducible first | exact HB.out | apply below_alloc | apply pw_below_drewN | apply below_drew1 | refine below_set ?_ GE198.out) | exact HB.out)) hb); clear BK198; clear HB; have BK198 := n0_; have HB := n1_; clear n0_ n1_; (try clear hb); (try clear hb2); (try clear hk); (try clear hi)))
  repeat (go_quiet (first | ((with_reducible refine gate_dst (N := 2) rfl ?_); (try (refine gate_guard (by rfl) ?_; dsimp only)); refine box_event ?hg (N := 2) ?hd (cs := #[.int .i64 a0_0, .int .i64 a0_1, .int .i64 a0_2]) (t := 23) ?hr ?_; (case hd => rfl); (case hg => rfl); (case hr => first | (go_simp; done) | (go_simp; rfl)); intro gb198 hg w6 hbox hb; have n0_ := Aside0.mk (below_step (by repeat (first | (with_reducible first | exact HB.out | apply below_alloc | apply pw_below_drewN | apply below_drew1) | exact HB.out)) hb); have n1_ := Aside0.mk (hbox); have n2_ := Aside0.mk ((by rw [hg]; exact (below_size (by repeat (first | (with_reducible first | exact HB.out | apply below_alloc | apply pw_below_drewN | apply below_drew1) | exact HB.out))) : w.heap.size ≤ gb198)); have n3_ := Aside0.mk ((by rw [hg]; exact (below_size (by repeat (first | (with_reducible first | exact HB.out | apply below_alloc | apply pw_below_drewN | apply below_drew1) | exact HB.out))) : w.heap.size ≤ gb198)); clear HB; have HB := n0_; have BK198 := n1_; have GW198 := n2_; have GE198 := n3_; clear n0_ n1_ n2_ n3_; clear hb hbox hg; have hcz7_0 : w6.cell? ⟨gb198, 0, none⟩ = some (.int .i64 a0_0) := (blk_cell BK198.out 0).trans rfl; have hcz7_1 : w6.cell? ⟨gb198, 1, none⟩ = some (.int .i64 a0_1) := (blk_cell BK198.out 1).trans rfl; have hcz7_2 : w6.cell? ⟨gb198, 2, none⟩ = some (.int .i64 a0_2) := (blk_cell BK198.out 2).trans rfl; have hfz7_0 := blk_frozen BK198.out 0; have hfz7_1 := blk_frozen BK198.out 1; have hfz7_2 := blk_frozen BK198.out 2) | (go_at_call 13; (with_reducible refine (awardingbodyref20_Valid.calls a0_0 a0_1 a0_2 true _ A3.out).mono ?_); rintro e w8 ⟨rfl, hb⟩; have n0_ := Aside0.mk (blk_below (g := gb198) (o := .cells #[.int .i64 a0_0, .int .i64 a0_1, .int .i64 a0_2] 23 (0, 0)) (by (with_reducible repeat (first | refine blk_drewN ?_ _ | refine blk_drew ?_ | refine blk_alloc ?_ _)); exact BK198.out) hb); have n1_ := Aside0.mk (below_step (by repeat (first | (with_reducible first | exact HB.out | apply below_alloc | apply pw_below_drewN | apply below_drew1 | refine below_set ?_ GE198.out) | exact HB.out)) hb); clear BK198; clear HB; have BK198 := n0_; have HB := n1_; clear n0_ n1_; (try clear hb); (try clear hb2); (try clear hk); (try clear hi))); go_upto_region 3 with (first | ((with_reducible refine gate_dst (N := 2) rfl ?_); (try (refine gate_guard (by rfl) ?_; dsimp only)); refine box_event ?hg (N := 2) ?hd (cs := #[.int .i64 a0_0, .int .i64 a0_1, .int .i64 a0_2]) (t := 23) ?hr ?_; (case hd => rfl); (case hg => rfl); (case hr => first | (go_simp; done) | (go_simp; rfl)); intro gb198 hg w6 hbox hb; have n0_ := Aside0.mk (below_step (by repeat (first | (with_reducible first | exact HB.out | apply below_alloc | apply pw_below_drewN | apply below_drew1) | exact HB.out)) hb); have n1_ := Aside0.mk (hbox); have n2_ := Aside0.mk ((by rw [hg]; exact (below_size (by repeat (first | (with_reducible first | exact HB.out | apply below_alloc | apply pw_below_drewN | apply below_drew1) | exact HB.out))) : w.heap.size ≤ gb198)); have n3_ := Aside0.mk ((by rw [hg]; exact (below_size (by repeat (first | (with_reducible first | exact HB.out | apply below_alloc | apply pw_below_drewN | apply below_drew1) | exact HB.out))) : w.heap.size ≤ gb198)); clear HB; have HB := n0_; have BK198 := n1_; have GW198 := n2_; have GE198 := n3_; clear n0_ n1_ n2_ n3_; clear hb hbox hg; have hcz7_0 : w6.cell? ⟨gb198, 0, none⟩ = some (.int .i64 a0_0) := (blk_cell BK198.out 0).trans rfl; have hcz7_1 : w6.cell? ⟨gb198, 1, none⟩ = some (.int .i64 a0_1) := (blk_cell BK198.out 1).trans rfl; have hcz7_2 : w6.cell? ⟨gb198, 2, none⟩ = some (.int .i64 a0_2) := (blk_cell BK198.out 2).trans rfl; have hfz7_0 := blk_frozen BK198.out 0; have hfz7_1 := blk_frozen BK198.out 1; have hfz7_2 := blk_frozen BK198.out 2) | (go_at_call 13; (with_reducible refine (awardingbodyref20_Valid.calls a0_0 a0_1 a0_2 true _ A3.out).mono ?_); rintro e w8 ⟨rfl, hb⟩; have n0_ := Aside0.mk (blk_below (g := gb198) (o := .cells #[.int .i64 a0_0, .int .i64 a0_1, .int .i64 a0_2] 23 (0, 0)) (by (with_reducible repeat (first | refine blk_drewN ?_ _ | refine blk_drew ?_ | refine blk_alloc ?_ _)); exact BK198.out) hb); have n1_ := Aside0.mk (below_step (by repeat (first | (with_reducible first | exact HB.out | apply below_alloc | apply pw_below_drewN | apply below_drew1 | refine below_set ?_ GE198.out) | exact HB.out)) hb); clear BK198; clear HB; have BK198 := n0_; have HB := n1_; clear n0_ n1_; (try clear hb); (try clear hb2); (try clear hk); (try clear hi))))
  (try simp only [Act.put, List.setIfInBounds_toArray, List.set_cons_zero, List.set_cons_succ])
  go_cut [20] (fun v20 wc => ∃ (kq : Nat) (x20_4 : Bool), v20 = .bool x20_4 ∧ Aside0 (awardingbodyref20_Judge.j0 kq l1 x20_4 a0_0 a0_1 a0_2 = some (r1, r2)) ∧ Aside0 (kq ≤ k) ∧ Aside0 (wc.heap[gb198]? = some (.cells #[.int .i64 a0_0, .int .i64 a0_1, .int .i64 a0_2] 23 (0, 0))) ∧ Aside0 (Below w.heap.size w wc))
  case first =>
   have H := HC5.out
   clear HC5
   by_cases c9 : (l1.length : Int) < 2
   ·rw [if_pos c9] at H
    have c9b0 : decide ((l1.length : Int) < 2) = true := decide_eq_true c9
    have c9b1 : decide (l1.length < 2) = true := decide_eq_true (by omega)
    clear c9
    (first | rw [c9b0] | (simp only [i64_w, i32_w]; rw [c9b0]) | skip)
    have H' := Aside0.mk H
    clear H
    go_wp2
    repeat (go_quiet (fail); try go_wp2)
    go_meet
    case rel => exact ⟨_, (true), (by first | rfl | (simp; done) | (simp [*]; done)), H', ⟨by first | omega | exact Nat.le_refl _⟩, ⟨by (with_reducible repeat (first | refine blk_drewN ?_ _ | refine blk_drew ?_ | refine blk_alloc ?_ _)); exact BK198.out⟩, ⟨by repeat (first | (with_reducible first | exact HB.out | apply below_alloc | apply pw_below_drewN | apply below_drew1 | refine below_set ?_ GE198.out) | exact HB.out)⟩⟩
   ·rw [if_neg c9] at H
    have c9b0 : decide ((l1.length : Int) < 2) = false := decide_eq_false c9
    have c9b1 : decide (l1.length < 2) = false := decide_eq_false (by omega)
    clear c9
    (first | rw [c9b0] | (simp only [i64_w, i32_w]; rw [c9b0]) | skip)
    have H' := Aside0.mk H
    clear H
    go_wp2
    repeat (go_quiet (fail); try go_wp2)
    go_meet
    case rel => exact ⟨_, (decide ((l1.length : Int) > 5)), (by first | rfl | (simp; done) | (simp [*]; done)), H', ⟨by first | omega | exact Nat.le_refl _⟩, ⟨by (with_reducible repeat (first | refine blk_drewN ?_ _ | refine blk_drew ?_ | refine blk_alloc ?_ _)); exact BK198.out⟩, ⟨by repeat (first | (with_reducible first | exact HB.out | apply below_alloc | apply pw_below_drewN | apply below_drew1 | refine below_set ?_ GE198.out) | exact HB.out)⟩⟩
  case rest =>
   clear HC5
   try clear c1
   try clear c2
   try clear p2
   try clear c4
   try clear c9
   try clear c9b0
   try clear c9b1
   try clear hcz7_0
   try clear hcz7_1
   try clear hcz7_2
   try clear hfz7_0
   try clear hfz7_1
   try clear hfz7_2
   obtain ⟨kq, x20_4, rfl, HA, HJ4, BK198, HB⟩ := hcut
   cases kq with
   | zero => exact absurd HA.out (by simp [awardingbodyref20_Judge.j0])
   | succ kj4 =>
    have H := HA.out
    clear HA
    simp only [awardingbodyref20_Judge.j0] at H
    by_cases c10 : x20_4 = true
    ·subst c10
     have H1 : (some (0, 3)) = some (r1, r2) := by rw [if_pos rfl] at H; exact H
     clear H
     have H := H1
     clear H1
     simp only [Option.some.injEq, Prod.mk.injEq] at H
     obtain ⟨rfl, rfl⟩ := H
     go_wp2
     repeat (go_quiet (fail); try go_wp2)
     go_ret2
     exact ⟨by first | rfl | (simp [errW_none, errW_some] <;> rfl) | (simp [*, errW_none, errW_some] <;> rfl), by repeat (first | (with_reducible first | exact HB.out | apply below_alloc | apply pw_below_drewN | apply below_drew1 | refine below_set ?_ GE198.out) | exact HB.out)⟩
    ·replace c10 := Bool.eq_false_iff.mpr c10
     subst c10
     have H1 : ((awardingbodyref20_Dark.f kj4 l1).bind fun t200 => (if t200 = true then (awardingbodyref20_Judge.l0 kj4 l1 0 0 a0_0 a0_1 a0_2) else (some (0, 2)))) = some (r1, r2) := by rw [if_neg (show ¬ (false = true) by decide)] at H; exact H
     clear H
     have H := H1
     clear H1
     replace H := Option.bind_eq_some_iff.mp H
     obtain ⟨t200, A110, H⟩ := H
     replace H : (if t200 = true then (awardingbodyref20_Judge.l0 kj4 l1 0 0 a0_0 a0_1 a0_2) else (some (0, 2))) = some (r1, r2) := H
     have A11 := Aside0.mk A110
     clear A110
     by_cases c12 : t200 = true
     ·subst c12
      have H1 : (awardingbodyref20_Judge.l0 kj4 l1 0 0 a0_0 a0_1 a0_2) = some (r1, r2) := by rw [if_pos rfl] at H; exact H
      clear H
      have H := H1
      clear H1
      have H' := Aside0.mk H
      clear H
      go_wp2_with (first | (go_at_call 44; (with_reducible refine (awardingbodyref20_Dark.calls kj4 _ _ l1 true _ ?side1 ?side2 A11.out).mono ?_); (case side1 => repeat (first | exact (Kd.C_below HR1.out HB.out) | (with_reducible refine Kd.C_alloc ?_ _) | (with_reducible refine Kd.C_drewN ?_ _) | (with_reducible refine Kd.C_drew ?_))); (case side2 => exact HC1.out); rintro e w' ⟨rfl, ⟨nd, rfl⟩⟩; (try first | exact ⟨rfl, _, World.drewN_drewN _ _ _⟩ | exact ⟨rfl, _, Eq.trans (World.drewN_drewN _ _ _) (congrArg (World.drewN _) (Nat.add_assoc _ _ _))⟩)))
      repeat (go_quiet (first | (go_at_call 44; (with_reducible refine (awardingbodyref20_Dark.calls kj4 _ _ l1 true _ ?side1 ?side2 A11.out).mono ?_); (case side1 => repeat (first | exact (Kd.C_below HR1.out HB.out) | (with_reducible refine Kd.C_alloc ?_ _) | (with_reducible refine Kd.C_drewN ?_ _) | (with_reducible refine Kd.C_drew ?_))); (case side2 => exact HC1.out); rintro e w' ⟨rfl, ⟨nd, rfl⟩⟩; (try first | exact ⟨rfl, _, World.drewN_drewN _ _ _⟩ | exact ⟨rfl, _, Eq.trans (World.drewN_drewN _ _ _) (congrArg (World.drewN _) (Nat.add_assoc _ _ _))⟩))); try go_wp2_with (first | (go_at_call 44; (with_reducible refine (awardingbodyref20_Dark.calls kj4 _ _ l1 true _ ?side1 ?side2 A11.out).mono ?_); (case side1 => repeat (first | exact (Kd.C_below HR1.out HB.out) | (with_reducible refine Kd.C_alloc ?_ _) | (with_reducible refine Kd.C_drewN ?_ _) | (with_reducible refine Kd.C_drew ?_))); (case side2 => exact HC1.out); rintro e w' ⟨rfl, ⟨nd, rfl⟩⟩; (try first | exact ⟨rfl, _, World.drewN_drewN _ _ _⟩ | exact ⟨rfl, _, Eq.trans (World.drewN_drewN _ _ _) (congrArg (World.drewN _) (Nat.add_assoc _ _ _))⟩))))
      go_loopg [6, 7] kj4 (fun kq v6 v7 w' => ∃ (x6_2 : Int) (x7_2 : Int), v6 = .int .i64 x6_2 ∧ v7 = .int .i64 x7_2 ∧ Aside0 (awardingbodyref20_Judge.l0 kq l1 x6_2 x7_2 a0_0 a0_1 a0_2 = some (r1, r2)) ∧ Aside0 (kq ≤ kj4) ∧ Aside0 (w'.heap[gb198]? = some (.cells #[.int .i64 a0_0, .int .i64 a0_1, .int .i64 a0_2] 23 (0, 0))) ∧ Aside0 (Below w.heap.size w w'))
      case atStart => exact ⟨(0), (0), (by first | rfl | (simp; done) | (simp [*]; done)), (by first | rfl | (simp; done) | (simp [*]; done)), H', ⟨Nat.le_refl _⟩, ⟨by (with_reducible repeat (first | refine blk_drewN ?_ _ | refine blk_drew ?_ | refine blk_alloc ?_ _)); exact BK198.out⟩, ⟨by repeat (first | (with_reducible first | exact HB.out | apply below_alloc | apply pw_below_drewN | apply below_drew1 | refine below_set ?_ GE198.out) | exact HB.out)⟩⟩
      case round =>
       clear H'
       try clear c1
       try clear c2
       try clear p2
       try clear c4
       try clear c9
       try clear c9b0
       try clear c9b1
       try clear c10
       try clear c12
       try clear hcz7_0
       try clear hcz7_1
       try clear hcz7_2
       try clear hfz7_0
       try clear hfz7_1
       try clear hfz7_2
       try clear p2
       obtain ⟨x6_2, x7_2, rfl, rfl, HA, HK2, BK198, HB⟩ := hrel
       cases gk with
       | zero => exact absurd HA.out (by simp [awardingbodyref20_Judge.l0])
       | succ k2 =>
        have H := HA.out
        clear HA
        simp only [awardingbodyref20_Judge.l0] at H
        by_cases c13 : x7_2 < (l1.length : Int)
        ·rw [if_pos c13] at H
         have c13b0 : decide (x7_2 < (l1.length : Int)) = true := decide_eq_true c13
         clear c13
         by_cases c14 : 0 ≤ x7_2
         ·rw [if_pos c14] at H
          have c14b0 : decide (0 ≤ x7_2) = true := decide_eq_true c14
          clear c14
          by_cases c15 : (rd l1 x7_2) ≥ a0_0
          ·rw [if_pos c15] at H
           have c15b0 : decide (a0_0 ≤ (rd l1 x7_2)) = true := decide_eq_true c15
           clear c15
           have H' := Aside0.mk H
           clear H
           have p201 : 0 ≤ (x7_2 : Int) := of_decide_eq_true (by first | (with_reducible assumption) | assumption)
           have q201 : x7_2 < (l1.length : Int) := of_decide_eq_true (by first | (with_reducible assumption) | assumption)
           obtain ⟨ad201, e201, hx201_0⟩ := Kd.at_int HR1.out x7_2 p201 q201
           cases e201
           replace hx201_0 := (HB.out.cell (World.block_lt_of_cell? w _ hx201_0)).trans hx201_0
           replace p201 := eq_true p201
           replace q201 := eq_true q201
           have hcz16_0 : wr.cell? ⟨gb198, 0, none⟩ = some (.int .i64 a0_0) := (blk_cell BK198.out 0).trans rfl
           have hcz16_1 : wr.cell? ⟨gb198, 1, none⟩ = some (.int .i64 a0_1) := (blk_cell BK198.out 1).trans rfl
           have hcz16_2 : wr.cell? ⟨gb198, 2, none⟩ = some (.int .i64 a0_2) := (blk_cell BK198.out 2).trans rfl
           have hfz16_0 := blk_frozen BK198.out 0
           have hfz16_1 := blk_frozen BK198.out 1
           have hfz16_2 := blk_frozen BK198.out 2
           go_wp2
           repeat (go_quiet (fail); try go_wp2)
           go_roundg k2
           case measure => have := HJ4.out; have := HK2.out; omega
           case rel => exact ⟨(wrap64 (x6_2 + 1)), (wrap64 (x7_2 + 1)), (by first | rfl | (simp; done) | (simp [*]; done)), (by first | rfl | (simp; done) | (simp [*]; done)), H', ⟨by have := HJ4.out; have := HK2.out; omega⟩, ⟨by (with_reducible repeat (first | refine blk_drewN ?_ _ | refine blk_drew ?_ | refine blk_alloc ?_ _)); exact BK198.out⟩, ⟨by repeat (first | (with_reducible first | exact HB.out | apply below_alloc | apply pw_below_drewN | apply below_drew1 | refine below_set ?_ GE198.out) | exact HB.out)⟩⟩
          ·rw [if_neg c15] at H
           have c15b0 : decide (a0_0 ≤ (rd l1 x7_2)) = false := decide_eq_false c15
           clear c15
           have H' := Aside0.mk H
           clear H
           have p201 : 0 ≤ (x7_2 : Int) := of_decide_eq_true (by first | (with_reducible assumption) | assumption)
           have q201 : x7_2 < (l1.length : Int) := of_decide_eq_true (by first | (with_reducible assumption) | assumption)
           obtain ⟨ad201, e201, hx201_0⟩ := Kd.at_int HR1.out x7_2 p201 q201
           cases e201
           replace hx201_0 := (HB.out.cell (World.block_lt_of_cell? w _ hx201_0)).trans hx201_0
           replace p201 := eq_true p201
           replace q201 := eq_true q201
           have hcz17_0 : wr.cell? ⟨gb198, 0, none⟩ = some (.int .i64 a0_0) := (blk_cell BK198.out 0).trans rfl
           have hcz17_1 : wr.cell? ⟨gb198, 1, none⟩ = some (.int .i64 a0_1) := (blk_cell BK198.out 1).trans rfl
           have hcz17_2 : wr.cell? ⟨gb198, 2, none⟩ = some (.int .i64 a0_2) := (blk_cell BK198.out 2).trans rfl
           have hfz17_0 := blk_frozen BK198.out 0
           have hfz17_1 := blk_frozen BK198.out 1
           have hfz17_2 := blk_frozen BK198.out 2
           go_wp2
           repeat (go_quiet (fail); try go_wp2)
           go_roundg k2
           case measure => have := HJ4.out; have := HK2.out; omega
           case rel => exact ⟨(x6_2), (wrap64 (x7_2 + 1)), (by first | rfl | (simp; done) | (simp [*]; done)), (by first | rfl | (simp; done) | (simp [*]; done)), H', ⟨by have := HJ4.out; have := HK2.out; omega⟩, ⟨by (with_reducible repeat (first | refine blk_drewN ?_ _ | refine blk_drew ?_ | refine blk_alloc ?_ _)); exact BK198.out⟩, ⟨by repeat (first | (with_reducible first | exact HB.out | apply below_alloc | apply pw_below_drewN | apply below_drew1 | refine below_set ?_ GE198.out) | exact HB.out)⟩⟩
         ·rw [if_neg c14] at H
          exact absurd H (by simp)
        ·rw [if_neg c13] at H
         have c13b0 : decide (x7_2 < (l1.length : Int)) = false := decide_eq_false c13
         clear c13
         replace H := Option.bind_eq_some_iff.mp H
         obtain ⟨⟨t202, t203⟩, A180, H⟩ := H
         replace H : (if x6_2 = 1 then (awardingbodyref20_Judge.j2 k2 x6_2 t202 true) else (if t203 = true then (if 0 ≤ t202 then (if t202 < (l1.length : Int) then (awardingbodyref20_Judge.j2 k2 x6_2 t202 (decide ((rd l1 t202) ≥ a0_1))) else (none)) else (none)) else (awardingbodyref20_Judge.j2 k2 x6_2 t202 false))) = some (r1, r2) := H
         have A18 := Aside0.mk A180
         clear A180
         have HC19 := Aside0.mk H
         clear H
         have hcz20_0 : wr.cell? ⟨gb198, 0, none⟩ = some (.int .i64 a0_0) := (blk_cell BK198.out 0).trans rfl
         have hcz20_1 : wr.cell? ⟨gb198, 1, none⟩ = some (.int .i64 a0_1) := (blk_cell BK198.out 1).trans rfl
         have hcz20_2 : wr.cell? ⟨gb198, 2, none⟩ = some (.int .i64 a0_2) := (blk_cell BK198.out 2).trans rfl
         have hfz20_0 := blk_frozen BK198.out 0
         have hfz20_1 := blk_frozen BK198.out 1
         have hfz20_2 := blk_frozen BK198.out 2
         go_upto_region 14 with (first | (go_at_call 45; (with_reducible refine (awardingbodyref20_greatest.calls k2 _ _ l1 a0_2 t202 t203 _ ?side1 ?side2 A18.out).mono ?_); (case side1 => repeat (first | exact (Kd.C_below HR1.out HB.out) | (with_reducible refine Kd.C_alloc ?_ _) | (with_reducible refine Kd.C_drewN ?_ _) | (with_reducible refine Kd.C_drew ?_))); (case side2 => exact HC1.out); rintro e w' ⟨rfl, ⟨nd, rfl⟩⟩; (try first | exact ⟨rfl, _, World.drewN_drewN _ _ _⟩ | exact ⟨rfl, _, Eq.trans (World.drewN_drewN _ _ _) (congrArg (World.drewN _) (Nat.add_assoc _ _ _))⟩)))
         repeat (go_quiet (first | (go_at_call 45; (with_reducible refine (awardingbodyref20_greatest.calls k2 _ _ l1 a0_2 t202 t203 _ ?side1 ?side2 A18.out).mono ?_); (case side1 => repeat (first | exact (Kd.C_below HR1.out HB.out) | (with_reducible refine Kd.C_alloc ?_ _) | (with_reducible refine Kd.C_drewN ?_ _) | (with_reducible refine Kd.C_drew ?_))); (case side2 => exact HC1.out); rintro e w' ⟨rfl, ⟨nd, rfl⟩⟩; (try first | exact ⟨rfl, _, World.drewN_drewN _ _ _⟩ | exact ⟨rfl, _, Eq.trans (World.drewN_drewN _ _ _) (congrArg (World.drewN _) (Nat.add_assoc _ _ _))⟩))); go_upto_region 14 with (first | (go_at_call 45; (with_reducible refine (awardingbodyref20_greatest.calls k2 _ _ l1 a0_2 t202 t203 _ ?side1 ?side2 A18.out).mono ?_); (case side1 => repeat (first | exact (Kd.C_below HR1.out HB.out) | (with_reducible refine Kd.C_alloc ?_ _) | (with_reducible refine Kd.C_drewN ?_ _) | (with_reducible refine Kd.C_drew ?_))); (case side2 => exact HC1.out); rintro e w' ⟨rfl, ⟨nd, rfl⟩⟩; (try first | exact ⟨rfl, _, World.drewN_drewN _ _ _⟩ | exact ⟨rfl, _, Eq.trans (World.drewN_drewN _ _ _) (congrArg (World.drewN _) (Nat.add_assoc _ _ _))⟩))))
         (try simp only [Act.put, List.setIfInBounds_toArray, List.set_cons_zero, List.set_cons_succ])
         go_cut [59] (fun v59 wc => ∃ (kq : Nat) (x59_18 : Bool), v59 = .bool x59_18 ∧ Aside0 (awardingbodyref20_Judge.j2 kq x6_2 t202 x59_18 = some (r1, r2)) ∧ Aside0 (kq ≤ k2) ∧ Aside0 (wc.heap[gb198]? = some (.cells #[.int .i64 a0_0, .int .i64 a0_1, .int .i64 a0_2] 23 (0, 0))) ∧ Aside0 (Below w.heap.size w wc))
         case first =>
          have H := HC19.out
          clear HC19
          by_cases c21 : x6_2 = 1
          ·rw [if_pos c21] at H
           have c21b0 : (x6_2 == 1) = true := beq_iff_eq.mpr c21
           have c21b1 : (x6_2 != 1) = false := bne_eq_false_iff_eq.mpr c21
           clear c21
           (first | rw [c21b0] | (simp only [i64_w, i32_w]; rw [c21b0]) | skip)
           have H' := Aside0.mk H
           clear H
           go_wp2
           repeat (go_quiet (fail); try go_wp2)
           go_meet
           case rel => exact ⟨_, (true), (by first | rfl | (simp; done) | (simp [*]; done)), H', ⟨by have := HJ4.out; have := HK2.out; first | omega | exact Nat.le_refl _⟩, ⟨by (with_reducible repeat (first | refine blk_drewN ?_ _ | refine blk_drew ?_ | refine blk_alloc ?_ _)); exact BK198.out⟩, ⟨by repeat (first | (with_reducible first | exact HB.out | apply below_alloc | apply pw_below_drewN | apply below_drew1 | refine below_set ?_ GE198.out) | exact HB.out)⟩⟩
          ·rw [if_neg c21] at H
           have c21b0 : (x6_2 == 1) = false := beq_eq_false_iff_ne.mpr c21
           have c21b1 : (x6_2 != 1) = true := bne_iff_ne.mpr c21
           (first | rw [c21b0] | (simp only [i64_w, i32_w]; rw [c21b0]) | skip)
           by_cases c22 : t203 = true
           ·subst c22
            have H1 : (if 0 ≤ t202 then (if t202 < (l1.length : Int) then (awardingbodyref20_Judge.j2 k2 x6_2 t202 (decide ((rd l1 t202) ≥ a0_1))) else (none)) else (none)) = some (r1, r2) := by rw [if_pos rfl] at H; exact H
            clear H
            have H := H1
            clear H1
            by_cases c23 : 0 ≤ t202
            ·rw [if_pos c23] at H
             have c23b0 : decide (0 ≤ t202) = true := decide_eq_true c23
             clear c23
             by_cases c24 : t202 < (l1.length : Int)
             ·rw [if_pos c24] at H
              have c24b0 : decide (t202 < (l1.length : Int)) = true := decide_eq_true c24
              clear c24
              have H' := Aside0.mk H
              clear H
              have p204 : 0 ≤ (t202 : Int) := of_decide_eq_true (by first | (with_reducible assumption) | assumption)
              have q204 : t202 < (l1.length : Int) := of_decide_eq_true (by first | (with_reducible assumption) | assumption)
              obtain ⟨ad204, e204, hx204_0⟩ := Kd.at_int HR1.out t202 p204 q204
              cases e204
              replace hx204_0 := (HB.out.cell (World.block_lt_of_cell? w _ hx204_0)).trans hx204_0
              replace p204 := eq_true p204
              replace q204 := eq_true q204
              have hcz25_0 : wr.cell? ⟨gb198, 0, none⟩ = some (.int .i64 a0_0) := (blk_cell BK198.out 0).trans rfl
              have hcz25_1 : wr.cell? ⟨gb198, 1, none⟩ = some (.int .i64 a0_1) := (blk_cell BK198.out 1).trans rfl
              have hcz25_2 : wr.cell? ⟨gb198, 2, none⟩ = some (.int .i64 a0_2) := (blk_cell BK198.out 2).trans rfl
              have hfz25_0 := blk_frozen BK198.out 0
              have hfz25_1 := blk_frozen BK198.out 1
              have hfz25_2 := blk_frozen BK198.out 2
              go_wp2
              repeat (go_quiet (fail); try go_wp2)
              go_meet
              case rel => exact ⟨_, (decide ((rd l1 t202) ≥ a0_1)), (by first | rfl | (simp; done) | (simp [*]; done)), H', ⟨by have := HJ4.out; have := HK2.out; first | omega | exact Nat.le_refl _⟩, ⟨by (with_reducible repeat (first | refine blk_drewN ?_ _ | refine blk_drew ?_ | refine blk_alloc ?_ _)); exact BK198.out⟩, ⟨by repeat (first | (with_reducible first | exact HB.out | apply below_alloc | apply pw_below_drewN | apply below_drew1 | refine below_set ?_ GE198.out) | exact HB.out)⟩⟩
             ·rw [if_neg c24] at H
              exact absurd H (by simp)
            ·rw [if_neg c23] at H
             exact absurd H (by simp)
           ·replace c22 := Bool.eq_false_iff.mpr c22
            subst c22
            have H1 : (awardingbodyref20_Judge.j2 k2 x6_2 t202 false) = some (r1, r2) := by rw [if_neg (show ¬ (false = true) by decide)] at H; exact H
            clear H
            have H := H1
            clear H1
            have H' := Aside0.mk H
            clear H
            go_wp2
            repeat (go_quiet (fail); try go_wp2)
            go_meet
            case rel => exact ⟨_, (false), (by first | rfl | (simp; done) | (simp [*]; done)), H', ⟨by have := HJ4.out; have := HK2.out; first | omega | exact Nat.le_refl _⟩, ⟨by (with_reducible repeat (first | refine blk_drewN ?_ _ | refine blk_drew ?_ | refine blk_alloc ?_ _)); exact BK198.out⟩, ⟨by repeat (first | (with_reducible first | exact HB.out | apply below_alloc | apply pw_below_drewN | apply below_drew1 | refine below_set ?_ GE198.out) | exact HB.out)⟩⟩
         case rest =>
          clear HC19
          try clear c1
          try clear c2
          try clear p2
          try clear q2
          try clear hx2
          try clear c4
          try clear p6
          try clear c9
          try clear c9b0
          try clear c9b1
          try clear c10
          try clear c12
          try clear c13
          try clear c13b0
          try clear c14
          try clear c14b0
          try clear c15
          try clear c15b0
          try clear p20
          try clear q20
          try clear hx20
          try clear c21
          try clear c21b0
          try clear c21b1
          try clear c22
          try clear c23
          try clear c23b0
          try clear c24
          try clear c24b0
          try clear hcz16_0
          try clear hcz16_1
          try clear hcz16_2
          try clear hcz17_0
          try clear hcz17_1
          try clear hcz17_2
          try clear hcz20_0
          try clear hcz20_1
          try clear hcz20_2
          try clear hcz25_0
          try clear hcz25_1
          try clear hcz25_2
          try clear hcz7_0
          try clear hcz7_1
          try clear hcz7_2
          try clear hfz16_0
          try clear hfz16_1
          try clear hfz16_2
          try clear hfz17_0
          try clear hfz17_1
          try clear hfz17_2
          try clear hfz20_0
          try clear hfz20_1
          try clear hfz20_2
          try clear hfz25_0
          try clear hfz25_1
          try clear hfz25_2
          try clear hfz7_0
          try clear hfz7_1
          try clear hfz7_2
          try clear hx201_0
          try clear hx204_0
          try clear p2
          try clear p201
          try clear p204
          try clear q201
          try clear q204
          obtain ⟨kq, x59_18, rfl, HA, HJ18, BK198, HB⟩ := hcut
          cases kq with
          | zero => exact absurd HA.out (by simp [awardingbodyref20_Judge.j2])
          | succ kj18 =>
           have H := HA.out
           clear HA
           simp only [awardingbodyref20_Judge.j2] at H
           by_cases c26 : x59_18 = true
           ·subst c26
            have H1 : (some (t202, 0)) = some (r1, r2) := by rw [if_pos rfl] at H; exact H
            clear H
            have H := H1
            clear H1
            simp only [Option.some.injEq, Prod.mk.injEq] at H
            obtain ⟨rfl, rfl⟩ := H
            go_wp2
            repeat (go_quiet (fail); try go_wp2)
            go_ret2
            exact ⟨by first | rfl | (simp [errW_none, errW_some] <;> rfl) | (simp [*, errW_none, errW_some] <;> rfl), by repeat (first | (with_reducible first | exact HB.out | apply below_alloc | apply pw_below_drewN | apply below_drew1 | refine below_set ?_ GE198.out) | exact HB.out)⟩
           ·replace c26 := Bool.eq_false_iff.mpr c26
            subst c26
            have H1 : (if x6_2 > 1 then (some ((-2), 0)) else (some ((-1), 0))) = some (r1, r2) := by rw [if_neg (show ¬ (false = true) by decide)] at H; exact H
            clear H
            have H := H1
            clear H1
            by_cases c27 : x6_2 > 1
            ·rw [if_pos c27] at H
             have c27b0 : decide (1 < x6_2) = true := decide_eq_true c27
             clear c27
             simp only [Option.some.injEq, Prod.mk.injEq] at H
             obtain ⟨rfl, rfl⟩ := H
             go_wp2
             repeat (go_quiet (fail); try go_wp2)
             go_ret2
             exact ⟨by first | rfl | (simp [errW_none, errW_some] <;> rfl) | (simp [*, errW_none, errW_some] <;> rfl), by repeat (first | (with_reducible first | exact HB.out | apply below_alloc | apply pw_below_drewN | apply below_drew1 | refine below_set ?_ GE198.out) | exact HB.out)⟩
            ·rw [if_neg c27] at H
             have c27b0 : decide (1 < x6_2) = false := decide_eq_false c27
             clear c27
             simp only [Option.some.injEq, Prod.mk.injEq] at H
             obtain ⟨rfl, rfl⟩ := H
             go_wp2
             repeat (go_quiet (fail); try go_wp2)
             go_ret2
             exact ⟨by first | rfl | (simp [errW_none, errW_some] <;> rfl) | (simp [*, errW_none, errW_some] <;> rfl), by repeat (first | (with_reducible first | exact HB.out | apply below_alloc | apply pw_below_drewN | apply below_drew1 | refine below_set ?_ GE198.out) | exact HB.out)⟩
     ·replace c12 := Bool.eq_false_iff.mpr c12
      subst c12
      have H1 : (some (0, 2)) = some (r1, r2) := by rw [if_neg (show ¬ (false = true) by decide)] at H; exact H
      clear H
      have H := H1
      clear H1
      simp only [Option.some.injEq, Prod.mk.injEq] at H
      obtain ⟨rfl, rfl⟩ := H
      go_wp2_with (first | (go_at_call 44; (with_reducible refine (awardingbodyref20_Dark.calls kj4 _ _ l1 false _ ?side1 ?side2 A11.out).mono ?_); (case side1 => repeat (first | exact (Kd.C_below HR1.out HB.out) | (with_reducible refine Kd.C_alloc ?_ _) | (with_reducible refine Kd.C_drewN ?_ _) | (with_reducible refine Kd.C_drew ?_))); (case side2 => exact HC1.out); rintro e w' ⟨rfl, ⟨nd, rfl⟩⟩; (try first | exact ⟨rfl, _, World.drewN_drewN _ _ _⟩ | exact ⟨rfl, _, Eq.trans (World.drewN_drewN _ _ _) (congrArg (World.drewN _) (Nat.add_assoc _ _ _))⟩)))
      repeat (go_quiet (first | (go_at_call 44; (with_reducible refine (awardingbodyref20_Dark.calls kj4 _ _ l1 false _ ?side1 ?side2 A11.out).mono ?_); (case side1 => repeat (first | exact (Kd.C_below HR1.out HB.out) | (with_reducible refine Kd.C_alloc ?_ _) | (with_reducible refine Kd.C_drewN ?_ _) | (with_reducible refine Kd.C_drew ?_))); (case side2 => exact HC1.out); rintro e w' ⟨rfl, ⟨nd, rfl⟩⟩; (try first | exact ⟨rfl, _, World.drewN_drewN _ _ _⟩ | exact ⟨rfl, _, Eq.trans (World.drewN_drewN _ _ _) (congrArg (World.drewN _) (Nat.add_assoc _ _ _))⟩))); try go_wp2_with (first | (go_at_call 44; (with_reducible refine (awardingbodyref20_Dark.calls kj4 _ _ l1 false _ ?side1 ?side2 A11.out).mono ?_); (case side1 => repeat (first | exact (Kd.C_below HR1.out HB.out) | (with_reducible refine Kd.C_alloc ?_ _) | (with_reducible refine Kd.C_drewN ?_ _) | (with_reducible refine Kd.C_drew ?_))); (case side2 => exact HC1.out); rintro e w' ⟨rfl, ⟨nd, rfl⟩⟩; (try first | exact ⟨rfl, _, World.drewN_drewN _ _ _⟩ | exact ⟨rfl, _, Eq.trans (World.drewN_drewN _ _ _) (congrArg (World.drewN _) (Nat.add_assoc _ _ _))⟩))))
      go_ret2
      exact ⟨by first | rfl | (simp [errW_none, errW_some] <;> rfl) | (simp [*, errW_none, errW_some] <;> rfl), by repeat (first | (with_reducible first | exact HB.out | apply below_alloc | apply pw_below_drewN | apply below_drew1 | refine below_set ?_ GE198.out) | exact HB.out)⟩
 ·replace c4 := Bool.eq_false_iff.mpr c4
  subst c4
  have H1 : (some (0, 1)) = some (r1, r2) := by rw [if_neg (show ¬ (false = true) by decide)] at H; exact H
  clear H
  have H := H1
  clear H1
  simp only [Option.some.injEq, Prod.mk.injEq] at H
  obtain ⟨rfl, rfl⟩ := H
  go_enter Try.func22, Try.ntmps22
  go_wp2_with (first | ((with_reducible refine gate_dst (N := 2) rfl ?_); (try (refine gate_guard (by rfl) ?_; dsimp only)); refine box_event ?hg (N := 2) ?hd (cs := #[.int .i64 a0_0, .int .i64 a0_1, .int .i64 a0_2]) (t := 23) ?hr ?_; (case hd => rfl); (case hg => rfl); (case hr => first | (go_simp; done) | (go_simp; rfl)); intro gb198 hg w28 hbox hb; have n0_ := Aside0.mk (below_step (by repeat (first | (with_reducible first | exact HB.out | apply below_alloc | apply pw_below_drewN | apply below_drew1) | exact HB.out)) hb); have n1_ := Aside0.mk (hbox); have n2_ := Aside0.mk ((by rw [hg]; exact (below_size (by repeat (first | (with_reducible first | exact HB.out | apply below_alloc | apply pw_below_drewN | apply below_drew1) | exact HB.out))) : w.heap.size ≤ gb198)); have n3_ := Aside0.mk ((by rw [hg]; exact (below_size (by repeat (first | (with_reducible first | exact HB.out | apply below_alloc | apply pw_below_drewN | apply below_drew1) | exact HB.out))) : w.heap.size ≤ gb198)); clear HB; have HB := n0_; have BK198 := n1_; have GW198 := n2_; have GE198 := n3_; clear n0_ n1_ n2_ n3_; clear hb hbox hg; have hcz29_0 : w28.cell? ⟨gb198, 0, none⟩ = some (.int .i64 a0_0) := (blk_cell BK198.out 0).trans rfl; have hcz29_1 : w28.cell? ⟨gb198, 1, none⟩ = some (.int .i64 a0_1) := (blk_cell BK198.out 1).trans rfl; have hcz29_2 : w28.cell? ⟨gb198, 2, none⟩ = some (.int .i64 a0_2) := (blk_cell BK198.out 2).trans rfl; have hfz29_0 := blk_frozen BK198.out 0; have hfz29_1 := blk_frozen BK198.out 1; have hfz29_2 := blk_frozen BK198.out 2) | (go_at_call 13; (with_reducible refine (awardingbodyref20_Valid.calls a0_0 a0_1 a0_2 false _ A3.out).mono ?_); rintro e w30 ⟨rfl, hb⟩; have n0_ := Aside0.mk (blk_below (g := gb198) (o := .cells #[.int .i64 a0_0, .int .i64 a0_1, .int .i64 a0_2] 23 (0, 0)) (by (with_reducible repeat (first | refine blk_drewN ?_ _ | refine blk_drew ?_ | refine blk_alloc ?_ _)); exact BK198.out) hb); have n1_ := Aside0.mk (below_step (by repeat (first | (with_reducible first | exact HB.out | apply below_alloc | apply pw_below_drewN | apply below_drew1 | refine below_set ?_ GE198.out) | exact HB.out)) hb); clear BK198; clear HB; have BK198 := n0_; have HB := n1_; clear n0_ n1_; (try clear hb); (try clear hb2); (try clear hk); (try clear hi)))
  repeat (go_quiet (first | ((with_reducible refine gate_dst (N := 2) rfl ?_); (try (refine gate_guard (by rfl) ?_; dsimp only)); refine box_event ?hg (N := 2) ?hd (cs := #[.int .i64 a0_0, .int .i64 a0_1, .int .i64 a0_2]) (t := 23) ?hr ?_; (case hd => rfl); (case hg => rfl); (case hr => first | (go_simp; done) | (go_simp; rfl)); intro gb198 hg w28 hbox hb; have n0_ := Aside0.mk (below_step (by repeat (first | (with_reducible first | exact HB.out | apply below_alloc | apply pw_below_drewN | apply below_drew1) | exact HB.out)) hb); have n1_ := Aside0.mk (hbox); have n2_ := Aside0.mk ((by rw [hg]; exact (below_size (by repeat (first | (with_reducible first | exact HB.out | apply below_alloc | apply pw_below_drewN | apply below_drew1) | exact HB.out))) : w.heap.size ≤ gb198)); have n3_ := Aside0.mk ((by rw [hg]; exact (below_size (by repeat (first | (with_reducible first | exact HB.out | apply below_alloc | apply pw_below_drewN | apply below_drew1) | exact HB.out))) : w.heap.size ≤ gb198)); clear HB; have HB := n0_; have BK198 := n1_; have GW198 := n2_; have GE198 := n3_; clear n0_ n1_ n2_ n3_; clear hb hbox hg; have hcz29_0 : w28.cell? ⟨gb198, 0, none⟩ = some (.int .i64 a0_0) := (blk_cell BK198.out 0).trans rfl; have hcz29_1 : w28.cell? ⟨gb198, 1, none⟩ = some (.int .i64 a0_1) := (blk_cell BK198.out 1).trans rfl; have hcz29_2 : w28.cell? ⟨gb198, 2, none⟩ = some (.int .i64 a0_2) := (blk_cell BK198.out 2).trans rfl; have hfz29_0 := blk_frozen BK198.out 0; have hfz29_1 := blk_frozen BK198.out 1; have hfz29_2 := blk_frozen BK198.out 2) | (go_at_call 13; (with_reducible refine (awardingbodyref20_Valid.calls a0_0 a0_1 a0_2 false _ A3.out).mono ?_); rintro e w30 ⟨rfl, hb⟩; have n0_ := Aside0.mk (blk_below (g := gb198) (o := .cells #[.int .i64 a0_0, .int .i64 a0_1, .int .i64 a0_2] 23 (0, 0)) (by (with_reducible repeat (first | refine blk_drewN ?_ _ | refine blk_drew ?_ | refine blk_alloc ?_ _)); exact BK198.out) hb); have n1_ := Aside0.mk (below_step (by repeat (first | (with_reducible first | exact HB.out | apply below_alloc | apply pw_below_drewN | apply below_drew1 | refine below_set ?_ GE198.out) | exact HB.out)) hb); clear BK198; clear HB; have BK198 := n0_; have HB := n1_; clear n0_ n1_; (try clear hb); (try clear hb2); (try clear hk); (try clear hi))); try go_wp2_with (first | ((with_reducible refine gate_dst (N := 2) rfl ?_); (try (refine gate_guard (by rfl) ?_; dsimp only)); refine box_event ?hg (N := 2) ?hd (cs := #[.int .i64 a0_0, .int .i64 a0_1, .int .i64 a0_2]) (t := 23) ?hr ?_; (case hd => rfl); (case hg => rfl); (case hr => first | (go_simp; done) | (go_simp; rfl)); intro gb198 hg w28 hbox hb; have n0_ := Aside0.mk (below_step (by repeat (first | (with_reducible first | exact HB.out | apply below_alloc | apply pw_below_drewN | apply below_drew1) | exact HB.out)) hb); have n1_ := Aside0.mk (hbox); have n2_ := Aside0.mk ((by rw [hg]; exact (below_size (by repeat (first | (with_reducible first | exact HB.out | apply below_alloc | apply pw_below_drewN | apply below_drew1) | exact HB.out))) : w.heap.size ≤ gb198)); have n3_ := Aside0.mk ((by rw [hg]; exact (below_size (by repeat (first | (with_reducible first | exact HB.out | apply below_alloc | apply pw_below_drewN | apply below_drew1) | exact HB.out))) : w.heap.size ≤ gb198)); clear HB; have HB := n0_; have BK198 := n1_; have GW198 := n2_; have GE198 := n3_; clear n0_ n1_ n2_ n3_; clear hb hbox hg; have hcz29_0 : w28.cell? ⟨gb198, 0, none⟩ = some (.int .i64 a0_0) := (blk_cell BK198.out 0).trans rfl; have hcz29_1 : w28.cell? ⟨gb198, 1, none⟩ = some (.int .i64 a0_1) := (blk_cell BK198.out 1).trans rfl; have hcz29_2 : w28.cell? ⟨gb198, 2, none⟩ = some (.int .i64 a0_2) := (blk_cell BK198.out 2).trans rfl; have hfz29_0 := blk_frozen BK198.out 0; have hfz29_1 := blk_frozen BK198.out 1; have hfz29_2 := blk_frozen BK198.out 2) | (go_at_call 13; (with_reducible refine (awardingbodyref20_Valid.calls a0_0 a0_1 a0_2 false _ A3.out).mono ?_); rintro e w30 ⟨rfl, hb⟩; have n0_ := Aside0.mk (blk_below (g := gb198) (o := .cells #[.int .i64 a0_0, .int .i64 a0_1, .int .i64 a0_2] 23 (0, 0)) (by (with_reducible repeat (first | refine blk_drewN ?_ _ | refine blk_drew ?_ | refine blk_alloc ?_ _)); exact BK198.out) hb); have n1_ := Aside0.mk (below_step (by repeat (first | (with_reducible first | exact HB.out | apply below_alloc | apply pw_below_drewN | apply below_drew1 | refine below_set ?_ GE198.out) | exact HB.out)) hb); clear BK198; clear HB; have BK198 := n0_; have HB := n1_; clear n0_ n1_; (try clear hb); (try clear hb2); (try clear hk); (try clear hi))))
  go_ret2
  exact ⟨by first | rfl | (simp [errW_none, errW_some] <;> rfl) | (simp [*, errW_none, errW_some] <;> rfl), by repeat (first | (with_reducible first | exact HB.out | apply below_alloc | apply pw_below_drewN | apply below_drew1 | refine below_set ?_ GE198.out) | exact HB.out)⟩

end Go.Proofs.Ythbmpjglkbhhgaa.Print
