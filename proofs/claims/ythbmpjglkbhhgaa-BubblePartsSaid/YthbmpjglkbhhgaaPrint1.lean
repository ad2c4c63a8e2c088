-- Printed by a program of this session (wip/own_print.py) out of the translation; Lean checks it.
import Derived.Test.YthbmpjglkbhhgaaShort
import Derived.Test.YthbmpjglkbhhgaaPrint0
namespace Go.Proofs.Ythbmpjglkbhhgaa.Print
open Go.RowKit Go.Proofs.YthbmpjglkbhhgaaW.PrintWords Go.Proofs.YthbmpjglkbhhgaaW.PrintLast Go.Proofs.YthbmpjglkbhhgaaW.PrintMore
attribute [local go_sem] max2_int min2_int max_two min_two max_three min_three max_four min_four   -- for this text's walks alone
set_option linter.unusedVariables false
set_option linter.unusedSimpArgs false

/-! ### bubble_Valid: function 12 -/
def bubble_Valid.f (a0_0 : Int) (a0_1 : Int) (a0_2 : Int) : Option (Bool) := if 1 ≤ a0_1 then (if a0_1 ≤ a0_0 then (if a0_0 ≤ 9 then (if a0_2 ≥ 1 then (some (decide (a0_2 ≤ 9))) else (some false)) else (some false)) else (some false)) else (some false)
set_option maxHeartbeats 8000000 in
set_option maxRecDepth 100000 in
theorem bubble_Valid.calls (a0_0 : Int) (a0_1 : Int) (a0_2 : Int) (r : Bool) (w : World) (h : bubble_Valid.f a0_0 a0_1 a0_2 = some r) :
    Calls Try.prog 12 #[.agg #[.int .i64 a0_0, .int .i64 a0_1, .int .i64 a0_2]] w fun e w' => e = .returned (.bool r) ∧ Below w.heap.size w w' := by
 have hu23 := Try.underlying23
 have HB := za (Below.refl w.heap.size w)
 have H : (if 1 ≤ a0_1 then (if a0_1 ≤ a0_0 then (if a0_0 ≤ 9 then (if a0_2 ≥ 1 then (some (decide (a0_2 ≤ 9))) else (some false)) else (some false)) else (some false)) else (some false)) = some r := h
 clear h
 by_cases c2 : 1 ≤ a0_1
 ·rw [if_pos c2] at H
  have c2b0 : decide (1 ≤ a0_1) = true := decide_eq_true c2
  clear c2
  by_cases c3 : a0_1 ≤ a0_0
  ·rw [if_pos c3] at H
   have c3b0 : decide (a0_1 ≤ a0_0) = true := decide_eq_true c3
   clear c3
   by_cases c4 : a0_0 ≤ 9
   ·rw [if_pos c4] at H
    have c4b0 : decide (a0_0 ≤ 9) = true := decide_eq_true c4
    clear c4
    by_cases c5 : a0_2 ≥ 1
    ·rw [if_pos c5] at H
     have c5b0 : decide (1 ≤ a0_2) = true := decide_eq_true c5
     clear c5
     obtain rfl := Option.some.inj H
     go_enter Try.func12, Try.ntmps12
     go_wp2_with (first | ((with_reducible refine gate_dst (N := 1) rfl ?_); refine zE 1 #[.int .i64 a0_0, .int .i64 a0_1, .int .i64 a0_2] 23 ?_; intro gb101 hg w6 hbox hb; have BK101 := za (hbox); have GW101 := zg HB hg; have GE101 := zg HB hg; replace HB := zs HB hb; clear hb hbox hg; obtain ⟨hcz7_0, hcz7_1, hcz7_2, hfz7_0, hfz7_1, hfz7_2⟩ := z3 BK101))
     go_ret
     exact ⟨zf, zm HB⟩
    ·rw [if_neg c5] at H
     have c5b0 : decide (1 ≤ a0_2) = false := decide_eq_false c5
     clear c5
     obtain rfl := Option.some.inj H
     go_enter Try.func12, Try.ntmps12
     go_wp2_with (first | ((with_reducible refine gate_dst (N := 1) rfl ?_); refine zE 1 #[.int .i64 a0_0, .int .i64 a0_1, .int .i64 a0_2] 23 ?_; intro gb101 hg w8 hbox hb; have BK101 := za (hbox); have GW101 := zg HB hg; have GE101 := zg HB hg; replace HB := zs HB hb; clear hb hbox hg; obtain ⟨hcz9_0, hcz9_1, hcz9_2, hfz9_0, hfz9_1, hfz9_2⟩ := z3 BK101))
     go_ret
     exact ⟨zf, zm HB⟩
   ·rw [if_neg c4] at H
    have c4b0 : decide (a0_0 ≤ 9) = false := decide_eq_false c4
    clear c4
    obtain rfl := Option.some.inj H
    go_enter Try.func12, Try.ntmps12
    go_wp2_with (first | ((with_reducible refine gate_dst (N := 1) rfl ?_); refine zE 1 #[.int .i64 a0_0, .int .i64 a0_1, .int .i64 a0_2] 23 ?_; intro gb101 hg w10 hbox hb; have BK101 := za (hbox); have GW101 := zg HB hg; have GE101 := zg HB hg; replace HB := zs HB hb; clear hb hbox hg; obtain ⟨hcz11_0, hcz11_1, hcz11_2, hfz11_0, hfz11_1, hfz11_2⟩ := z3 BK101))
    go_ret
    exact ⟨zf, zm HB⟩
  ·rw [if_neg c3] at H
   have c3b0 : decide (a0_1 ≤ a0_0) = false := decide_eq_false c3
   clear c3
   obtain rfl := Option.some.inj H
   go_enter Try.func12, Try.ntmps12
   go_wp2_with (first | ((with_reducible refine gate_dst (N := 1) rfl ?_); refine zE 1 #[.int .i64 a0_0, .int .i64 a0_1, .int .i64 a0_2] 23 ?_; intro gb101 hg w12 hbox hb; have BK101 := za (hbox); have GW101 := zg HB hg; have GE101 := zg HB hg; replace HB := zs HB hb; clear hb hbox hg; obtain ⟨hcz13_0, hcz13_1, hcz13_2, hfz13_0, hfz13_1, hfz13_2⟩ := z3 BK101))
   go_ret
   exact ⟨zf, zm HB⟩
 ·rw [if_neg c2] at H
  have c2b0 : decide (1 ≤ a0_1) = false := decide_eq_false c2
  clear c2
  obtain rfl := Option.some.inj H
  go_enter Try.func12, Try.ntmps12
  go_wp2_with (first | ((with_reducible refine gate_dst (N := 1) rfl ?_); refine zE 1 #[.int .i64 a0_0, .int .i64 a0_1, .int .i64 a0_2] 23 ?_; intro gb101 hg w14 hbox hb; have BK101 := za (hbox); have GW101 := zg HB hg; have GE101 := zg HB hg; replace HB := zs HB hb; clear hb hbox hg; obtain ⟨hcz15_0, hcz15_1, hcz15_2, hfz15_0, hfz15_1, hfz15_2⟩ := z3 BK101))
  go_ret
  exact ⟨zf, zm HB⟩

-- NOT PRINTED: function 59 (slices_IndexFunc_int_int_59)

-- NOT PRINTED: function 40 (slices_ContainsFunc_int_int)

/-! ### bubble_outside: function 41 -/
def bubble_outside.f (a0 : Int) : Option (Bool) := if a0 < 0 then (some true) else (some (decide (a0 > 9)))
set_option maxHeartbeats 8000000 in
set_option maxRecDepth 100000 in
theorem bubble_outside.calls (a0 : Int) (r : Bool) (w : World) (h : bubble_outside.f a0 = some r) :
    Calls Try.prog 41 #[.int .i64 a0] w fun e w' => e = .returned (.bool r) ∧ Drawn0 w w' := by
 have H : (if a0 < 0 then (some true) else (some (decide (a0 > 9)))) = some r := h
 clear h
 by_cases c2 : a0 < 0
 ·rw [if_pos c2] at H
  have c2b0 : decide (a0 < 0) = true := decide_eq_true c2
  clear c2
  obtain rfl := Option.some.inj H
  go_enter Try.func41, Try.ntmps41
  go_wp2
  go_ret
  exact ⟨by first | rfl | (simp; done) | (simp [*]; done), by repeat (first | exact Drawn0.refl _ | apply Drawn0.step)⟩
 ·rw [if_neg c2] at H
  have c2b0 : decide (a0 < 0) = false := decide_eq_false c2
  clear c2
  obtain rfl := Option.some.inj H
  go_enter Try.func41, Try.ntmps41
  go_wp2
  go_ret
  exact ⟨by first | rfl | (simp; done) | (simp [*]; done), by repeat (first | exact Drawn0.refl _ | apply Drawn0.step)⟩

/-! ### slices_Index_int_int: function 42 -/
def slices_Index_int_int.l0 : Nat → List Int → Int → Int → Int → Option (Int)
  | 0, _, _, _, _ => none
  | k + 1, x0, x1, x7, x8 => if x8 < x7 then (if 0 ≤ x8 then (if x8 < (x0.length : Int) then (if x1 = (rd x0 x8) then (some x8) else (slices_Index_int_int.l0 k x0 x1 x7 (wrap64 (x8 + 1)))) else (none)) else (none)) else (some (-1))
def slices_Index_int_int.f (k : Nat) (l0 : List Int) (a1 : Int) : Option (Int) := slices_Index_int_int.l0 k l0 a1 (l0.length : Int) 0
theorem slices_Index_int_int.mono_l : ∀ k, (∀ y0 y1 y2 y3, LeO (slices_Index_int_int.l0 k y0 y1 y2 y3) (slices_Index_int_int.l0 (k + 1) y0 y1 y2 y3))
  | 0 => fun _ _ _ _ r h => by simp [slices_Index_int_int.l0] at h
  | k + 1 => by
    have ih0 := slices_Index_int_int.mono_l k
    · intro y0 y1 y2 y3
      unfold slices_Index_int_int.l0
      repeat' first
      | (with_reducible exact ih0 _ _ _ _)
      | (with_reducible exact LeO.refl _)
      | (with_reducible exact LeO.none _)
      | (with_reducible refine LeO.ite ?_ ?_)
      | (with_reducible refine LeO.bind ?_ (fun _ => ?_))
      | exact ih0 _ _ _ _
      | exact LeO.none _
      | refine LeO.ite ?_ ?_
      | refine LeO.bind ?_ (fun _ => ?_)
theorem slices_Index_int_int.mono : ∀ a0 a1 k, LeO (slices_Index_int_int.f k a0 a1) (slices_Index_int_int.f (k + 1) a0 a1) := by
  intro a0 a1 k
  have ih0 := slices_Index_int_int.mono_l k
  unfold slices_Index_int_int.f
  repeat' first
      | (with_reducible exact ih0 _ _ _ _)
      | (with_reducible exact LeO.refl _)
      | (with_reducible exact LeO.none _)
      | (with_reducible refine LeO.ite ?_ ?_)
      | (with_reducible refine LeO.bind ?_ (fun _ => ?_))
      | exact ih0 _ _ _ _
      | exact LeO.none _
      | refine LeO.ite ?_ ?_
      | refine LeO.bind ?_ (fun _ => ?_)
set_option maxHeartbeats 8000000 in
set_option maxRecDepth 100000 in
theorem slices_Index_int_int.calls (k : Nat) (A0 : Option Addr) (c0 : Nat) (l0 : List Int) (a1 : Int) (r : Int) (w : World) (hr0 : Kd.C (Kd.int .i64) w A0 l0.length l0) (hc0 : l0.length ≤ c0) (h : slices_Index_int_int.f k l0 a1 = some r) :
    Calls Try.prog 42 #[.slice A0 l0.length c0, .int .i64 a1] w fun e w' => e = .returned (.int .i64 r) ∧ Drawn0 w w' := by
 have HR0 := za hr0
 have HC0 := za hc0
 clear hr0 hc0
 have H : (slices_Index_int_int.l0 k l0 a1 (l0.length : Int) 0) = some r := h
 clear h
 have H' := za H
 clear H
 go_enter Try.func42, Try.ntmps42
 go_wp2
 go_loopg [8] k (fun kq v8 w' => ∃ (x8_1 : Int), v8 = .int .i64 x8_1 ∧ Aside0 (slices_Index_int_int.l0 kq l0 a1 (l0.length : Int) x8_1 = some r) ∧ Aside0 (kq ≤ k) ∧ Drawn0 w w')
 case atStart => exact ⟨(0), (by first | rfl | (simp; done) | (simp [*]; done)), H', ⟨Nat.le_refl _⟩, by repeat (first | exact Drawn0.refl _ | apply Drawn0.step)⟩
 case round =>
  clear H'
  try clear p2
  obtain ⟨x8_1, rfl, HA, HK1, ⟨m1, rfl⟩⟩ := hrel
  cases gk with
  | zero => exact absurd HA.out (by simp [slices_Index_int_int.l0])
  | succ k1 =>
   have H := HA.out
   clear HA
   simp only [slices_Index_int_int.l0] at H
   by_cases c3 : x8_1 < (l0.length : Int)
   ·rw [if_pos c3] at H
    have c3b0 : decide (x8_1 < (l0.length : Int)) = true := decide_eq_true c3
    clear c3
    by_cases c4 : 0 ≤ x8_1
    ·rw [if_pos c4] at H
     have c4b0 : decide (0 ≤ x8_1) = true := decide_eq_true c4
     clear c4
     by_cases c5 : x8_1 < (l0.length : Int)
     ·rw [if_pos c5] at H
      have c5b0 : decide (x8_1 < (l0.length : Int)) = true := decide_eq_true c5
      clear c5
      by_cases c6 : a1 = (rd l0 x8_1)
      ·rw [if_pos c6] at H
       have c6b0 : (a1 == (rd l0 x8_1)) = true := beq_iff_eq.mpr c6
       have c6b1 : (a1 != (rd l0 x8_1)) = false := bne_eq_false_iff_eq.mpr c6
       clear c6
       obtain rfl := Option.some.inj H
       have p102 : 0 ≤ (x8_1 : Int) := of_decide_eq_true (by first | (with_reducible assumption) | assumption)
       have q102 : x8_1 < (l0.length : Int) := of_decide_eq_true (by first | (with_reducible assumption) | assumption)
       obtain ⟨ad102, e102, hx102_0⟩ := Kd.at_int HR0.out x8_1 p102 q102
       cases e102
       replace p102 := eq_true p102
       replace q102 := eq_true q102
       go_wp2
       go_ret
       exact ⟨by first | rfl | (simp; done) | (simp [*]; done), by repeat (first | exact Drawn0.refl _ | apply Drawn0.step)⟩
      ·rw [if_neg c6] at H
       have c6b0 : (a1 == (rd l0 x8_1)) = false := beq_eq_false_iff_ne.mpr c6
       have c6b1 : (a1 != (rd l0 x8_1)) = true := bne_iff_ne.mpr c6
       have H' := za H
       clear H
       have p102 : 0 ≤ (x8_1 : Int) := of_decide_eq_true (by first | (with_reducible assumption) | assumption)
       have q102 : x8_1 < (l0.length : Int) := of_decide_eq_true (by first | (with_reducible assumption) | assumption)
       obtain ⟨ad102, e102, hx102_0⟩ := Kd.at_int HR0.out x8_1 p102 q102
       cases e102
       replace p102 := eq_true p102
       replace q102 := eq_true q102
       go_wp2
       go_roundg k1
       case measure => have := HK1.out; omega
       case rel => exact ⟨(wrap64 (x8_1 + 1)), (by first | rfl | (simp; done) | (simp [*]; done)), H', ⟨by have := HK1.out; omega⟩, by repeat (first | exact Drawn0.refl _ | apply Drawn0.step)⟩
     ·rw [if_neg c5] at H
      exact absurd H (by simp)
    ·rw [if_neg c4] at H
     exact absurd H (by simp)
   ·rw [if_neg c3] at H
    have c3b0 : decide (x8_1 < (l0.length : Int)) = false := decide_eq_false c3
    clear c3
    obtain rfl := Option.some.inj H
    go_wp2
    go_ret
    exact ⟨by first | rfl | (simp; done) | (simp [*]; done), by repeat (first | exact Drawn0.refl _ | apply Drawn0.step)⟩

/-! ### slices_Max_int_int: function 43 -/
def slices_Max_int_int.l0 : Nat → List Int → Int → Int → Option (Int)
  | 0, _, _, _ => none
  | k + 1, x0, x3, x4 => if x4 < (x0.length : Int) then (if 0 ≤ x4 then (slices_Max_int_int.l0 k x0 (mx x3 (rd x0 x4)) (wrap64 (x4 + 1))) else (none)) else (some x3)
def slices_Max_int_int.f (k : Nat) (l0 : List Int) : Option (Int) := if (l0.length : Int) < 1 then (none) else (if 0 < (l0.length : Int) then (slices_Max_int_int.l0 k l0 (rd l0 0) 1) else (none))
theorem slices_Max_int_int.mono_l : ∀ k, (∀ y0 y1 y2, LeO (slices_Max_int_int.l0 k y0 y1 y2) (slices_Max_int_int.l0 (k + 1) y0 y1 y2))
  | 0 => fun _ _ _ r h => by simp [slices_Max_int_int.l0] at h
  | k + 1 => by
    have ih0 := slices_Max_int_int.mono_l k
    · intro y0 y1 y2
      unfold slices_Max_int_int.l0
      repeat' first
      | (with_reducible exact ih0 _ _ _)
      | (with_reducible exact LeO.refl _)
      | (with_reducible exact LeO.none _)
      | (with_reducible refine LeO.ite ?_ ?_)
      | (with_reducible refine LeO.bind ?_ (fun _ => ?_))
      | exact ih0 _ _ _
      | exact LeO.none _
      | refine LeO.ite ?_ ?_
      | refine LeO.bind ?_ (fun _ => ?_)
theorem slices_Max_int_int.mono : ∀ a0 k, LeO (slices_Max_int_int.f k a0) (slices_Max_int_int.f (k + 1) a0) := by
  intro a0 k
  have ih0 := slices_Max_int_int.mono_l k
  unfold slices_Max_int_int.f
  repeat' first
      | (with_reducible exact ih0 _ _ _)
      | (with_reducible exact LeO.refl _)
      | (with_reducible exact LeO.none _)
      | (with_reducible refine LeO.ite ?_ ?_)
      | (with_reducible refine LeO.bind ?_ (fun _ => ?_))
      | exact ih0 _ _ _
      | exact LeO.none _
      | refine LeO.ite ?_ ?_
      | refine LeO.bind ?_ (fun _ => ?_)
set_option maxHeartbeats 8000000 in
set_option maxRecDepth 100000 in
theorem slices_Max_int_int.calls (k : Nat) (A0 : Option Addr) (c0 : Nat) (l0 : List Int) (r : Int) (w : World) (hr0 : Kd.C (Kd.int .i64) w A0 l0.length l0) (hc0 : l0.length ≤ c0) (h : slices_Max_int_int.f k l0 = some r) :
    Calls Try.prog 43 #[.slice A0 l0.length c0] w fun e w' => e = .returned (.int .i64 r) ∧ Below w.heap.size w w' := by
 have HR0 := za hr0
 have HC0 := za hc0
 clear hr0 hc0
 have HB := za (Below.refl w.heap.size w)
 have H : (if (l0.length : Int) < 1 then (none) else (if 0 < (l0.length : Int) then (slices_Max_int_int.l0 k l0 (rd l0 0) 1) else (none))) = some r := h
 clear h
 by_cases c2 : (l0.length : Int) < 1
 ·rw [if_pos c2] at H
  exact absurd H (by simp)
 ·rw [if_neg c2] at H
  have c2b0 : decide ((l0.length : Int) < 1) = false := decide_eq_false c2
  have c2b1 : decide (l0.length < 1) = false := decide_eq_false (by omega)
  clear c2
  by_cases c3 : 0 < (l0.length : Int)
  ·rw [if_pos c3] at H
   have c3b0 : decide (0 < (l0.length : Int)) = true := decide_eq_true c3
   have c3b1 : decide (0 < l0.length) = true := decide_eq_true (by omega)
   clear c3
   have H' := za H
   clear H
   have p103 : 0 ≤ (0 : Int) := (by omega)
   have q103 : 0 < (l0.length : Int) := of_decide_eq_true (by first | (with_reducible assumption) | assumption)
   obtain ⟨ad103, e103, hx103_0⟩ := Kd.at_int HR0.out 0 p103 q103
   cases e103
   have qi103 : (0 < l0.length) = True := eq_true (by omega)
   (try rw [show ((0 : Int)).toNat = 0 from rfl] at hx103_0)
   (try rw [Addr.add_zero'] at hx103_0)
   replace p103 := eq_true p103
   replace q103 := eq_true q103
   go_enter Try.func43, Try.ntmps43
   go_wp2
   go_loopg [3, 4] k (fun kq v3 v4 w' => ∃ (x3_1 : Int) (x4_1 : Int), v3 = .int .i64 x3_1 ∧ v4 = .int .i64 x4_1 ∧ Aside0 (slices_Max_int_int.l0 kq l0 x3_1 x4_1 = some r) ∧ Aside0 (kq ≤ k) ∧ Aside0 (Below w.heap.size w w'))
   case atStart => exact ⟨(rd l0 0), (1), (by first | rfl | (simp; done) | (simp [*]; done)), (by first | rfl | (simp; done) | (simp [*]; done)), H', ⟨Nat.le_refl _⟩, ⟨zm HB⟩⟩
   case round =>
    clear H'
    try clear p1
    try clear q1
    try clear hx1
    try clear qi1
    try clear c2
    try clear c2b0
    try clear c2b1
    try clear p2
    try clear c3
    try clear c3b0
    try clear c3b1
    try clear hx103_0
    try clear p103
    try clear q103
    obtain ⟨x3_1, x4_1, rfl, rfl, HA, HK1, HB⟩ := hrel
    cases gk with
    | zero => exact absurd HA.out (by simp [slices_Max_int_int.l0])
    | succ k1 =>
     have H := HA.out
     clear HA
     simp only [slices_Max_int_int.l0] at H
     by_cases c4 : x4_1 < (l0.length : Int)
     ·rw [if_pos c4] at H
      have c4b0 : decide (x4_1 < (l0.length : Int)) = true := decide_eq_true c4
      clear c4
      by_cases c5 : 0 ≤ x4_1
      ·rw [if_pos c5] at H
       have c5b0 : decide (0 ≤ x4_1) = true := decide_eq_true c5
       clear c5
       obtain ⟨ji6, hji6⟩ : ∃ j_ : Int, (mx x3_1 (rd l0 x4_1)) = j_ := ⟨_, rfl⟩
       replace H : (slices_Max_int_int.l0 k1 l0 ji6 (wrap64 (x4_1 + 1))) = some r := by first | (rw [hji6] at H; exact H) | (simp only [hji6] at H ⊢; exact H)
       have hji6_ : (if x3_1 < (rd l0 x4_1) then (rd l0 x4_1) else x3_1) = ji6 := hji6
       have H' := za H
       clear H
       have p104 : 0 ≤ (x4_1 : Int) := of_decide_eq_true (by first | (with_reducible assumption) | assumption)
       have q104 : x4_1 < (l0.length : Int) := of_decide_eq_true (by first | (with_reducible assumption) | assumption)
       obtain ⟨ad104, e104, hx104_0⟩ := Kd.at_int HR0.out x4_1 p104 q104
       obtain rfl : ad103 = ad104 := (by injection e104)
       replace hx104_0 := zx HB hx104_0
       replace p104 := eq_true p104
       replace q104 := eq_true q104
       go_wp2
       go_roundg k1
       case measure => have := HK1.out; omega
       case rel => exact ⟨(ji6), (wrap64 (x4_1 + 1)), (by first | rfl | (simp; done) | (simp only [← hji6] <;> (first | rfl | simp)) | (simp [*]; done)), (by first | rfl | (simp; done) | (simp [*]; done)), H', ⟨by have := HK1.out; omega⟩, ⟨zm HB⟩⟩
      ·rw [if_neg c5] at H
       exact absurd H (by simp)
     ·rw [if_neg c4] at H
      have c4b0 : decide (x4_1 < (l0.length : Int)) = false := decide_eq_false c4
      clear c4
      obtain rfl := Option.some.inj H
      go_wp2
      go_ret
      exact ⟨zf, zm HB⟩
  ·rw [if_neg c3] at H
   exact absurd H (by simp)

/-! ### slices_IndexFunc_int_int_outside_s59: function 59 -/
def slices_IndexFunc_int_int_outside_s59.l0 : Nat → List Int → Int → Int → Option (Int)
  | 0, _, _, _ => none
  | k + 1, x0, x7, x8 => if x8 < x7 then (if 0 ≤ x8 then (if x8 < (x0.length : Int) then ((bubble_outside.f (rd x0 x8)).bind fun t106 => (if t106 = true then (some x8) else (slices_IndexFunc_int_int_outside_s59.l0 k x0 x7 (wrap64 (x8 + 1))))) else (none)) else (none)) else (some (-1))
def slices_IndexFunc_int_int_outside_s59.f (k : Nat) (l0 : List Int)  : Option (Int) := slices_IndexFunc_int_int_outside_s59.l0 k l0 (l0.length : Int) 0
theorem slices_IndexFunc_int_int_outside_s59.mono_l : ∀ k, (∀ y0 y1 y2, LeO (slices_IndexFunc_int_int_outside_s59.l0 k y0 y1 y2) (slices_IndexFunc_int_int_outside_s59.l0 (k + 1) y0 y1 y2))
  | 0 => fun _ _ _ r h => by simp [slices_IndexFunc_int_int_outside_s59.l0] at h
  | k + 1 => by
    have ih0 := slices_IndexFunc_int_int_outside_s59.mono_l k
    · intro y0 y1 y2
      unfold slices_IndexFunc_int_int_outside_s59.l0
      repeat' first
      | (with_reducible exact ih0 _ _ _)
      | (with_reducible exact LeO.refl _)
      | (with_reducible exact LeO.none _)
      | (with_reducible refine LeO.ite ?_ ?_)
      | (with_reducible refine LeO.bind ?_ (fun _ => ?_))
      | exact ih0 _ _ _
      | exact LeO.none _
      | refine LeO.ite ?_ ?_
      | refine LeO.bind ?_ (fun _ => ?_)
theorem slices_IndexFunc_int_int_outside_s59.mono : ∀ a0 k, LeO (slices_IndexFunc_int_int_outside_s59.f k a0) (slices_IndexFunc_int_int_outside_s59.f (k + 1) a0) := by
  intro a0 k
  have ih0 := slices_IndexFunc_int_int_outside_s59.mono_l k
  unfold slices_IndexFunc_int_int_outside_s59.f
  repeat' first
      | (with_reducible exact ih0 _ _ _)
      | (with_reducible exact LeO.refl _)
      | (with_reducible exact LeO.none _)
      | (with_reducible refine LeO.ite ?_ ?_)
      | (with_reducible refine LeO.bind ?_ (fun _ => ?_))
      | exact ih0 _ _ _
      | exact LeO.none _
      | refine LeO.ite ?_ ?_
      | refine LeO.bind ?_ (fun _ => ?_)
set_option maxHeartbeats 8000000 in
set_option maxRecDepth 100000 in
theorem slices_IndexFunc_int_int_outside_s59.calls (k : Nat) (A0 : Option Addr) (c0 : Nat) (l0 : List Int)  (r : Int) (w : World) (hr0 : Kd.C (Kd.int .i64) w A0 l0.length l0) (hc0 : l0.length ≤ c0) (h : slices_IndexFunc_int_int_outside_s59.f k l0 = some r) :
    Calls Try.prog 59 #[.slice A0 l0.length c0, .func (.func 41) #[] #[]] w fun e w' => e = .returned (.int .i64 r) ∧ Drawn0 w w' := by
 have HR0 := za hr0
 have HC0 := za hc0
 clear hr0 hc0
 have H : (slices_IndexFunc_int_int_outside_s59.l0 k l0 (l0.length : Int) 0) = some r := h
 clear h
 have H' := za H
 clear H
 go_enter Try.func59, Try.ntmps59
 go_wp2
 go_loopg [8] k (fun kq v8 w' => ∃ (x8_1 : Int), v8 = .int .i64 x8_1 ∧ Aside0 (slices_IndexFunc_int_int_outside_s59.l0 kq l0 (l0.length : Int) x8_1 = some r) ∧ Aside0 (kq ≤ k) ∧ Drawn0 w w')
 case atStart => exact ⟨(0), (by first | rfl | (simp; done) | (simp [*]; done)), H', ⟨Nat.le_refl _⟩, by repeat (first | exact Drawn0.refl _ | apply Drawn0.step)⟩
 case round =>
  clear H'
  try clear p2
  obtain ⟨x8_1, rfl, HA, HK1, ⟨m1, rfl⟩⟩ := hrel
  cases gk with
  | zero => exact absurd HA.out (by simp [slices_IndexFunc_int_int_outside_s59.l0])
  | succ k1 =>
   have H := HA.out
   clear HA
   simp only [slices_IndexFunc_int_int_outside_s59.l0] at H
   by_cases c3 : x8_1 < (l0.length : Int)
   ·rw [if_pos c3] at H
    have c3b0 : decide (x8_1 < (l0.length : Int)) = true := decide_eq_true c3
    clear c3
    by_cases c4 : 0 ≤ x8_1
    ·rw [if_pos c4] at H
     have c4b0 : decide (0 ≤ x8_1) = true := decide_eq_true c4
     clear c4
     by_cases c5 : x8_1 < (l0.length : Int)
     ·rw [if_pos c5] at H
      have c5b0 : decide (x8_1 < (l0.length : Int)) = true := decide_eq_true c5
      clear c5
      replace H := Option.bind_eq_some_iff.mp H
      obtain ⟨t106, A60, H⟩ := H
      replace H : (if t106 = true then (some x8_1) else (slices_IndexFunc_int_int_outside_s59.l0 k1 l0 (l0.length : Int) (wrap64 (x8_1 + 1)))) = some r := H
      have A6 := za A60
      clear A60
      by_cases c7 : t106 = true
      ·subst c7
       have H1 : (some x8_1) = some r := by rw [if_pos rfl] at H; exact H
       clear H
       have H := H1
       clear H1
       obtain rfl := Option.some.inj H
       have p105 : 0 ≤ (x8_1 : Int) := of_decide_eq_true (by first | (with_reducible assumption) | assumption)
       have q105 : x8_1 < (l0.length : Int) := of_decide_eq_true (by first | (with_reducible assumption) | assumption)
       obtain ⟨ad105, e105, hx105_0⟩ := Kd.at_int HR0.out x8_1 p105 q105
       cases e105
       replace p105 := eq_true p105
       replace q105 := eq_true q105
       go_wp2_with (first | (go_at_call 41; (with_reducible refine (bubble_outside.calls (rd l0 x8_1) true _ A6.out).mono ?_); rintro e w' ⟨rfl, ⟨nd, rfl⟩⟩))
       go_ret
       exact ⟨by first | rfl | (simp; done) | (simp [*]; done), by repeat (first | exact Drawn0.refl _ | apply Drawn0.step)⟩
      ·replace c7 := Bool.eq_false_iff.mpr c7
       subst c7
       have H1 : (slices_IndexFunc_int_int_outside_s59.l0 k1 l0 (l0.length : Int) (wrap64 (x8_1 + 1))) = some r := by rw [if_neg (show ¬ (false = true) by decide)] at H; exact H
       clear H
       have H := H1
       clear H1
       have H' := za H
       clear H
       have p105 : 0 ≤ (x8_1 : Int) := of_decide_eq_true (by first | (with_reducible assumption) | assumption)
       have q105 : x8_1 < (l0.length : Int) := of_decide_eq_true (by first | (with_reducible assumption) | assumption)
       obtain ⟨ad105, e105, hx105_0⟩ := Kd.at_int HR0.out x8_1 p105 q105
       cases e105
       replace p105 := eq_true p105
       replace q105 := eq_true q105
       go_wp2_with (first | (go_at_call 41; (with_reducible refine (bubble_outside.calls (rd l0 x8_1) false _ A6.out).mono ?_); rintro e w' ⟨rfl, ⟨nd, rfl⟩⟩))
       go_roundg k1
       case measure => have := HK1.out; omega
       case rel => exact ⟨(wrap64 (x8_1 + 1)), (by first | rfl | (simp; done) | (simp [*]; done)), H', ⟨by have := HK1.out; omega⟩, by repeat (first | exact Drawn0.refl _ | apply Drawn0.step)⟩
     ·rw [if_neg c5] at H
      exact absurd H (by simp)
    ·rw [if_neg c4] at H
     exact absurd H (by simp)
   ·rw [if_neg c3] at H
    have c3b0 : decide (x8_1 < (l0.length : Int)) = false := decide_eq_false c3
    clear c3
    obtain rfl := Option.some.inj H
    go_wp2
    go_ret
    exact ⟨by first | rfl | (simp; done) | (simp [*]; done), by repeat (first | exact Drawn0.refl _ | apply Drawn0.step)⟩

/-! ### slices_ContainsFunc_int_int_outside_s40: function 40 -/
def slices_ContainsFunc_int_int_outside_s40.f (k : Nat) (l0 : List Int)  : Option (Bool) := (slices_IndexFunc_int_int_outside_s59.f k l0).bind fun t107 => (some (decide (t107 ≥ 0)))
theorem slices_ContainsFunc_int_int_outside_s40.mono : ∀ a0 k, LeO (slices_ContainsFunc_int_int_outside_s40.f k a0) (slices_ContainsFunc_int_int_outside_s40.f (k + 1) a0) := by
  intro a0 k
  unfold slices_ContainsFunc_int_int_outside_s40.f
  repeat' first
      | (with_reducible exact slices_IndexFunc_int_int_outside_s59.mono _ _)
      | (with_reducible exact LeO.refl _)
      | (with_reducible exact LeO.none _)
      | (with_reducible refine LeO.ite ?_ ?_)
      | (with_reducible refine LeO.bind ?_ (fun _ => ?_))
      | exact slices_IndexFunc_int_int_outside_s59.mono _ _
      | exact LeO.none _
      | refine LeO.ite ?_ ?_
      | refine LeO.bind ?_ (fun _ => ?_)
set_option maxHeartbeats 8000000 in
set_option maxRecDepth 100000 in
theorem slices_ContainsFunc_int_int_outside_s40.calls (k : Nat) (A0 : Option Addr) (c0 : Nat) (l0 : List Int)  (r : Bool) (w : World) (hr0 : Kd.C (Kd.int .i64) w A0 l0.length l0) (hc0 : l0.length ≤ c0) (h : slices_ContainsFunc_int_int_outside_s40.f k l0 = some r) :
    Calls Try.prog 40 #[.slice A0 l0.length c0, .func (.func 41) #[] #[]] w fun e w' => e = .returned (.bool r) ∧ Drawn0 w w' := by
 have HR0 := za hr0
 have HC0 := za hc0
 clear hr0 hc0
 have H : ((slices_IndexFunc_int_int_outside_s59.f k l0).bind fun t107 => (some (decide (t107 ≥ 0)))) = some r := h
 clear h
 replace H := Option.bind_eq_some_iff.mp H
 obtain ⟨t107, A30, H⟩ := H
 replace H : (some (decide (t107 ≥ 0))) = some r := H
 have A3 := za A30
 clear A30
 obtain rfl := Option.some.inj H
 go_enter Try.func40, Try.ntmps40
 go_wp2_with (first | (go_at_call 59; (with_reducible refine (slices_IndexFunc_int_int_outside_s59.calls k _ _ l0 t107 _ ?side1 ?side2 A3.out).mono ?_); (case side1 => repeat (first | exact HR0.out | (with_reducible refine Kd.C_alloc ?_ _) | (with_reducible refine Kd.C_drewN ?_ _) | (with_reducible refine Kd.C_drew ?_))); (case side2 => exact HC0.out); rintro e w' ⟨rfl, ⟨nd, rfl⟩⟩))
 go_ret
 exact ⟨by first | rfl | (simp; done) | (simp [*]; done), by repeat (first | exact Drawn0.refl _ | apply Drawn0.step)⟩

/-! ### bubble_Judge: function 21 -/
mutual
def bubble_Judge.j0 : Nat → List Int → Bool → Int → Int → Int → Option (Int × Int)
  | 0, _, _, _, _, _ => none
  | k + 1, x1, x15, x109000, x109001, x109002 => if x15 = true then (some (0, 3)) else ((slices_ContainsFunc_int_int_outside_s40.f k x1).bind fun t110 => (if t110 = true then (some (0, 2)) else ((slices_Max_int_int.f k x1).bind fun t111 => ((slices_Index_int_int.f k x1 t111).bind fun t112 => (bubble_Judge.l0 k x1 t112 0 true x1 (x1.length : Int) 0 x109000 x109001 x109002)))))
def bubble_Judge.l0 : Nat → List Int → Int → Int → Bool → List Int → Int → Int → Int → Int → Int → Option (Int × Int)
  | 0, _, _, _, _, _, _, _, _, _, _ => none
  | k + 1, x1, x6, x7, x8, x31, x32, x33, x109000, x109001, x109002 => if x33 < x32 then (if 0 ≤ x33 then (if x33 < (x31.length : Int) then (if (rd x31 x33) ≥ x109000 then (if x8 = true then (if x33 = x6 then (bubble_Judge.l0 k x1 x6 (wrap64 (x7 + 1)) true x31 x32 (wrap64 (x33 + 1)) x109000 x109001 x109002) else (if 0 ≤ x6 then (if x6 < (x1.length : Int) then (bubble_Judge.l0 k x1 x6 (wrap64 (x7 + 1)) (decide ((rd x31 x33) ≤ (wrap64 ((rd x1 x6) - x109002)))) x31 x32 (wrap64 (x33 + 1)) x109000 x109001 x109002) else (none)) else (none))) else (bubble_Judge.l0 k x1 x6 (wrap64 (x7 + 1)) false x31 x32 (wrap64 (x33 + 1)) x109000 x109001 x109002)) else (if x8 = true then (if x33 = x6 then (bubble_Judge.l0 k x1 x6 x7 true x31 x32 (wrap64 (x33 + 1)) x109000 x109001 x109002) else (if 0 ≤ x6 then (if x6 < (x1.length : Int) then (bubble_Judge.l0 k x1 x6 x7 (decide ((rd x31 x33) ≤ (wrap64 ((rd x1 x6) - x109002)))) x31 x32 (wrap64 (x33 + 1)) x109000 x109001 x109002) else (none)) else (none))) else (bubble_Judge.l0 k x1 x6 x7 false x31 x32 (wrap64 (x33 + 1)) x109000 x109001 x109002))) else (none)) else (none)) else (if x7 = 1 then (bubble_Judge.j2 k x6 x7 true) else (if x8 = true then (if 0 ≤ x6 then (if x6 < (x1.length : Int) then (bubble_Judge.j2 k x6 x7 (decide ((rd x1 x6) ≥ x109001))) else (none)) else (none)) else (bubble_Judge.j2 k x6 x7 false)))
def bubble_Judge.j2 : Nat → Int → Int → Bool → Option (Int × Int)
  | 0, _, _, _ => none
  | k + 1, x6, x7, x62 => if x62 = true then (some (x6, 0)) else (if x7 > 1 then (some ((-2), 0)) else (some ((-1), 0)))
end
def bubble_Judge.f (k : Nat) (a0_0 : Int) (a0_1 : Int) (a0_2 : Int) (l1 : List Int) : Option (Int × Int) := (bubble_Valid.f a0_0 a0_1 a0_2).bind fun t109 => (if t109 = true then (if (l1.length : Int) < 2 then (bubble_Judge.j0 k l1 true a0_0 a0_1 a0_2) else (bubble_Judge.j0 k l1 (decide ((l1.length : Int) > 5)) a0_0 a0_1 a0_2)) else (some (0, 1)))
theorem bubble_Judge.mono_l : ∀ k, (∀ y0 y1 y2 y3 y4, LeO (bubble_Judge.j0 k y0 y1 y2 y3 y4) (bubble_Judge.j0 (k + 1) y0 y1 y2 y3 y4)) ∧ (∀ y0 y1 y2 y3 y4 y5 y6 y7 y8 y9, LeO (bubble_Judge.l0 k y0 y1 y2 y3 y4 y5 y6 y7 y8 y9) (bubble_Judge.l0 (k + 1) y0 y1 y2 y3 y4 y5 y6 y7 y8 y9)) ∧ (∀ y0 y1 y2, LeO (bubble_Judge.j2 k y0 y1 y2) (bubble_Judge.j2 (k + 1) y0 y1 y2))
  | 0 => ⟨fun _ _ _ _ _ r h => by simp [bubble_Judge.j0] at h, fun _ _ _ _ _ _ _ _ _ _ r h => by simp [bubble_Judge.l0] at h, fun _ _ _ r h => by simp [bubble_Judge.j2] at h⟩
  | k + 1 => by
    obtain ⟨ih0, ih1, ih2⟩ := bubble_Judge.mono_l k
    refine ⟨?_, ?_, ?_⟩
    · intro y0 y1 y2 y3 y4
      unfold bubble_Judge.j0
      repeat' first
      | (with_reducible exact ih0 _ _ _ _ _)
      | (with_reducible exact ih1 _ _ _ _ _ _ _ _ _ _)
      | (with_reducible exact ih2 _ _ _)
      | (with_reducible exact slices_ContainsFunc_int_int_outside_s40.mono _ _)
      | (with_reducible exact slices_Index_int_int.mono _ _ _)
      | (with_reducible exact slices_Max_int_int.mono _ _)
      | (with_reducible exact LeO.refl _)
      | (with_reducible exact LeO.none _)
      | (with_reducible refine LeO.ite ?_ ?_)
      | (with_reducible refine LeO.bind ?_ (fun _ => ?_))
      | exact ih0 _ _ _ _ _
      | exact ih1 _ _ _ _ _ _ _ _ _ _
      | exact ih2 _ _ _
      | exact slices_ContainsFunc_int_int_outside_s40.mono _ _
      | exact slices_Index_int_int.mono _ _ _
      | exact slices_Max_int_int.mono _ _
      | exact LeO.none _
      | refine LeO.ite ?_ ?_
      | refine LeO.bind ?_ (fun _ => ?_)
    · intro y0 y1 y2 y3 y4 y5 y6 y7 y8 y9
      unfold bubble_Judge.l0
      repeat' first
      | (with_reducible exact ih0 _ _ _ _ _)
      | (with_reducible exact ih1 _ _ _ _ _ _ _ _ _ _)
      | (with_reducible exact ih2 _ _ _)
      | (with_reducible exact slices_ContainsFunc_int_int_outside_s40.mono _ _)
      | (with_reducible exact slices_Index_int_int.mono _ _ _)
      | (with_reducible exact slices_Max_int_int.mono _ _)
      | (with_reducible exact LeO.refl _)
      | (with_reducible exact LeO.none _)
      | (with_reducible refine LeO.ite ?_ ?_)
      | (with_reducible refine LeO.bind ?_ (fun _ => ?_))
      | exact ih0 _ _ _ _ _
      | exact ih1 _ _ _ _ _ _ _ _ _ _
      | exact ih2 _ _ _
      | exact slices_ContainsFunc_int_int_outside_s40.mono _ _
      | exact slices_Index_int_int.mono _ _ _
      | exact slices_Max_int_int.mono _ _
      | exact LeO.none _
      | refine LeO.ite ?_ ?_
      | refine LeO.bind ?_ (fun _ => ?_)
    · intro y0 y1 y2
      unfold bubble_Judge.j2
      repeat' first
      | (with_reducible exact ih0 _ _ _ _ _)
      | (with_reducible exact ih1 _ _ _ _ _ _ _ _ _ _)
      | (with_reducible exact ih2 _ _ _)
      | (with_reducible exact slices_ContainsFunc_int_int_outside_s40.mono _ _)
      | (with_reducible exact slices_Index_int_int.mono _ _ _)
      | (with_reducible exact slices_Max_int_int.mono _ _)
      | (with_reducible exact LeO.refl _)
      | (with_reducible exact LeO.none _)
      | (with_reducible refine LeO.ite ?_ ?_)
      | (with_reducible refine LeO.bind ?_ (fun _ => ?_))
      | exact ih0 _ _ _ _ _
      | exact ih1 _ _ _ _ _ _ _ _ _ _
      | exact ih2 _ _ _
      | exact slices_ContainsFunc_int_int_outside_s40.mono _ _
      | exact slices_Index_int_int.mono _ _ _
      | exact slices_Max_int_int.mono _ _
      | exact LeO.none _
      | refine LeO.ite ?_ ?_
      | refine LeO.bind ?_ (fun _ => ?_)
theorem bubble_Judge.mono : ∀ a0 a1 a2 a3 k, LeO (bubble_Judge.f k a0 a1 a2 a3) (bubble_Judge.f (k + 1) a0 a1 a2 a3) := by
  intro a0 a1 a2 a3 k
  obtain ⟨ih0, ih1, ih2⟩ := bubble_Judge.mono_l k
  unfold bubble_Judge.f
  repeat' first
      | (with_reducible exact ih0 _ _ _ _ _)
      | (with_reducible exact ih1 _ _ _ _ _ _ _ _ _ _)
      | (with_reducible exact ih2 _ _ _)
      | (with_reducible exact slices_ContainsFunc_int_int_outside_s40.mono _ _)
      | (with_reducible exact slices_Index_int_int.mono _ _ _)
      | (with_reducible exact slices_Max_int_int.mono _ _)
      | (with_reducible exact LeO.refl _)
      | (with_reducible exact LeO.none _)
      | (with_reducible refine LeO.ite ?_ ?_)
      | (with_reducible refine LeO.bind ?_ (fun _ => ?_))
      | exact ih0 _ _ _ _ _
      | exact ih1 _ _ _ _ _ _ _ _ _ _
      | exact ih2 _ _ _
      | exact slices_ContainsFunc_int_int_outside_s40.mono _ _
      | exact slices_Index_int_int.mono _ _ _
      | exact slices_Max_int_int.mono _ _
      | exact LeO.none _
      | refine LeO.ite ?_ ?_
      | refine LeO.bind ?_ (fun _ => ?_)
set_option maxHeartbeats 8000000 in
set_option maxRecDepth 100000 in
theorem bubble_Judge.calls (k : Nat) (a0_0 : Int) (a0_1 : Int) (a0_2 : Int) (A1 : Option Addr) (c1 : Nat) (l1 : List Int) (r1 : Int) (r2 : Int) (w : World) (hr1 : Kd.C (Kd.int .i64) w A1 l1.length l1) (hc1 : l1.length ≤ c1) (h : bubble_Judge.f k a0_0 a0_1 a0_2 l1 = some (r1, r2)) :
    Calls Try.prog 21 #[.agg #[.int .i64 a0_0, .int .i64 a0_1, .int .i64 a0_2], .slice A1 l1.length c1] w fun e w' => e = .returned (.tuple #[.int .i64 r1, .int .i64 r2]) ∧ Below w.heap.size w w' := by
 have hu23 := Try.underlying23
 have HR1 := za hr1
 have HC1 := za hc1
 clear hr1 hc1
 have HB := za (Below.refl w.heap.size w)
 have H : ((bubble_Valid.f a0_0 a0_1 a0_2).bind fun t109 => (if t109 = true then (if (l1.length : Int) < 2 then (bubble_Judge.j0 k l1 true a0_0 a0_1 a0_2) else (bubble_Judge.j0 k l1 (decide ((l1.length : Int) > 5)) a0_0 a0_1 a0_2)) else (some (0, 1)))) = some (r1, r2) := h
 clear h
 replace H := Option.bind_eq_some_iff.mp H
 obtain ⟨t109, A30, H⟩ := H
 replace H : (if t109 = true then (if (l1.length : Int) < 2 then (bubble_Judge.j0 k l1 true a0_0 a0_1 a0_2) else (bubble_Judge.j0 k l1 (decide ((l1.length : Int) > 5)) a0_0 a0_1 a0_2)) else (some (0, 1))) = some (r1, r2) := H
 have A3 := za A30
 clear A30
 by_cases c4 : t109 = true
 ·subst c4
  have H1 : (if (l1.length : Int) < 2 then (bubble_Judge.j0 k l1 true a0_0 a0_1 a0_2) else (bubble_Judge.j0 k l1 (decide ((l1.length : Int) > 5)) a0_0 a0_1 a0_2)) = some (r1, r2) := by rw [if_pos rfl] at H; exact H
  clear H
  have H := H1
  clear H1
  have HC5 := za H
  clear H
  go_enter Try.func21, Try.ntmps21
  go_upto_region 3 with (first | ((with_reducible refine gate_dst (N := 2) rfl ?_); (try (refine gate_guard (by rfl) ?_; dsimp only)); refine zE 2 #[.int .i64 a0_0, .int .i64 a0_1, .int .i64 a0_2] 23 ?_; intro gb108 hg w6 hbox hb; have BK108 := za (hbox); have GW108 := zg HB hg; have GE108 := zg HB hg; replace HB := zs HB hb; clear hb hbox hg; obtain ⟨hcz7_0, hcz7_1, hcz7_2, hfz7_0, hfz7_1, hfz7_2⟩ := z3 BK108) | (go_at_call 12; (with_reducible refine (bubble_Valid.calls a0_0 a0_1 a0_2 true _ A3.out).mono ?_); rintro e w8 ⟨rfl, hb⟩; replace BK108 := zb BK108 hb; replace HB := zs HB hb; (try clear hb); (try clear hb2); (try clear hk); (try clear hi)))
  repeat (go_quiet (first | ((with_reducible refine gate_dst (N := 2) rfl ?_); (try (refine gate_guard (by rfl) ?_; dsimp only)); refine zE 2 #[.int .i64 a0_0, .int .i64 a0_1, .int .i64 a0_2] 23 ?_; intro gb108 hg w6 hbox hb; have BK108 := za (hbox); have GW108 := zg HB hg; have GE108 := zg HB hg; replace HB := zs HB hb; clear hb hbox hg; obtain ⟨hcz7_0, hcz7_1, hcz7_2, hfz7_0, hfz7_1, hfz7_2⟩ := z3 BK108) | (go_at_call 12; (with_reducible refine (bubble_Valid.calls a0_0 a0_1 a0_2 true _ A3.out).mono ?_); rintro e w8 ⟨rfl, hb⟩; replace BK108 := zb BK108 hb; replace HB := zs HB hb; (try clear hb); (try clear hb2); (try clear hk); (try clear hi))); go_upto_region 3 with (first | ((with_reducible refine gate_dst (N := 2) rfl ?_); (try (refine gate_guard (by rfl) ?_; dsimp only)); refine zE 2 #[.int .i64 a0_0, .int .i64 a0_1, .int .i64 a0_2] 23 ?_; intro gb108 hg w6 hbox hb; have BK108 := za (hbox); have GW108 := zg HB hg; have GE108 := zg HB hg; replace HB := zs HB hb; clear hb hbox hg; obtain ⟨hcz7_0, hcz7_1, hcz7_2, hfz7_0, hfz7_1, hfz7_2⟩ := z3 BK108) | (go_at_call 12; (with_reducible refine (bubble_Valid.calls a0_0 a0_1 a0_2 true _ A3.out).mono ?_); rintro e w8 ⟨rfl, hb⟩; replace BK108 := zb BK108 hb; replace HB := zs HB hb; (try clear hb); (try clear hb2); (try clear hk); (try clear hi))))
  (try simp only [Act.put, List.setIfInBounds_toArray, List.set_cons_zero, List.set_cons_succ])
  go_cut [15] (fun v15 wc => ∃ (kq : Nat) (x15_4 : Bool), v15 = .bool x15_4 ∧ Aside0 (bubble_Judge.j0 kq l1 x15_4 a0_0 a0_1 a0_2 = some (r1, r2)) ∧ Aside0 (kq ≤ k) ∧ Aside0 (wc.heap[gb108]? = some (.cells #[.int .i64 a0_0, .int .i64 a0_1, .int .i64 a0_2] 23 (0, 0))) ∧ Aside0 (Below w.heap.size w wc))
  case first =>
   have H := HC5.out
   clear HC5
   by_cases c9 : (l1.length : Int) < 2
   ·rw [if_pos c9] at H
    have c9b0 : decide ((l1.length : Int) < 2) = true := decide_eq_true c9
    have c9b1 : decide (l1.length < 2) = true := decide_eq_true (by omega)
    clear c9
    (first | rw [c9b0] | (simp only [i64_w, i32_w]; rw [c9b0]) | skip)
    have H' := za H
    clear H
    go_wp2
    repeat (go_quiet (fail); try go_wp2)
    go_meet
    case rel => exact ⟨_, (true), (by first | rfl | (simp; done) | (simp [*]; done)), H', ⟨by first | omega | exact Nat.le_refl _⟩, ⟨by (with_reducible repeat (first | refine blk_drewN ?_ _ | refine blk_drew ?_ | refine blk_alloc ?_ _)); exact BK108.out⟩, ⟨zm HB⟩⟩
   ·rw [if_neg c9] at H
    have c9b0 : decide ((l1.length : Int) < 2) = false := decide_eq_false c9
    have c9b1 : decide (l1.length < 2) = false := decide_eq_false (by omega)
    clear c9
    (first | rw [c9b0] | (simp only [i64_w, i32_w]; rw [c9b0]) | skip)
    have H' := za H
    clear H
    go_wp2
    repeat (go_quiet (fail); try go_wp2)
    go_meet
    case rel => exact ⟨_, (decide ((l1.length : Int) > 5)), (by first | rfl | (simp; done) | (simp [*]; done)), H', ⟨by first | omega | exact Nat.le_refl _⟩, ⟨by (with_reducible repeat (first | refine blk_drewN ?_ _ | refine blk_drew ?_ | refine blk_alloc ?_ _)); exact BK108.out⟩, ⟨zm HB⟩⟩
  case rest =>
   clear HC5
   try clear c1
   try clear c2
   try clear p2
   try clear c4
   try clear c9
   try clear c9b0
   try clear c9b1
   try clear hcz7_0
   try clear hcz7_1
   try clear hcz7_2
   try clear hfz7_0
   try clear hfz7_1
   try clear hfz7_2
   obtain ⟨kq, x15_4, rfl, HA, HJ4, BK108, HB⟩ := hcut
   cases kq with
   | zero => exact absurd HA.out (by simp [bubble_Judge.j0])
   | succ kj4 =>
    have H := HA.out
    clear HA
    simp only [bubble_Judge.j0] at H
    by_cases c10 : x15_4 = true
    ·subst c10
     have H1 : (some (0, 3)) = some (r1, r2) := by rw [if_pos rfl] at H; exact H
     clear H
     have H := H1
     clear H1
     simp only [Option.some.injEq, Prod.mk.injEq] at H
     obtain ⟨rfl, rfl⟩ := H
     go_wp2
     repeat (go_quiet (fail); try go_wp2)
     go_ret2
     exact ⟨zf, zm HB⟩
    ·replace c10 := Bool.eq_false_iff.mpr c10
     subst c10
     have H1 : ((slices_ContainsFunc_int_int_outside_s40.f kj4 l1).bind fun t110 => (if t110 = true then (some (0, 2)) else ((slices_Max_int_int.f kj4 l1).bind fun t111 => ((slices_Index_int_int.f kj4 l1 t111).bind fun t112 => (bubble_Judge.l0 kj4 l1 t112 0 true l1 (l1.length : Int) 0 a0_0 a0_1 a0_2))))) = some (r1, r2) := by rw [if_neg (show ¬ (false = true) by decide)] at H; exact H
     clear H
     have H := H1
     clear H1
     replace H := Option.bind_eq_some_iff.mp H
     obtain ⟨t110, A110, H⟩ := H
     replace H : (if t110 = true then (some (0, 2)) else ((slices_Max_int_int.f kj4 l1).bind fun t111 => ((slices_Index_int_int.f kj4 l1 t111).bind fun t112 => (bubble_Judge.l0 kj4 l1 t112 0 true l1 (l1.length : Int) 0 a0_0 a0_1 a0_2)))) = some (r1, r2) := H
     have A11 := za A110
     clear A110
     by_cases c12 : t110 = true
     ·subst c12
      have H1 : (some (0, 2)) = some (r1, r2) := by rw [if_pos rfl] at H; exact H
      clear H
      have H := H1
      clear H1
      simp only [Option.some.injEq, Prod.mk.injEq] at H
      obtain ⟨rfl, rfl⟩ := H
      go_wp2_with (first | (go_at_call 40; (with_reducible refine (slices_ContainsFunc_int_int_outside_s40.calls kj4 _ _ l1 true _ ?side1 ?side2 A11.out).mono ?_); (case side1 => exact zC HR1 HB); (case side2 => exact HC1.out); rintro e w' ⟨rfl, ⟨nd, rfl⟩⟩; (try first | exact ⟨rfl, _, World.drewN_drewN _ _ _⟩ | exact ⟨rfl, _, Eq.trans (World.drewN_drewN _ _ _) (congrArg (World.drewN _) (Nat.add_assoc _ _ _))⟩)))
      repeat (go_quiet (first | (go_at_call 40; (with_reducible refine (slices_ContainsFunc_int_int_outside_s40.calls kj4 _ _ l1 true _ ?side1 ?side2 A11.out).mono ?_); (case side1 => exact zC HR1 HB); (case side2 => exact HC1.out); rintro e w' ⟨rfl, ⟨nd, rfl⟩⟩; (try first | exact ⟨rfl, _, World.drewN_drewN _ _ _⟩ | exact ⟨rfl, _, Eq.trans (World.drewN_drewN _ _ _) (congrArg (World.drewN _) (Nat.add_assoc _ _ _))⟩))); try go_wp2_with (first | (go_at_call 40; (with_reducible refine (slices_ContainsFunc_int_int_outside_s40.calls kj4 _ _ l1 true _ ?side1 ?side2 A11.out).mono ?_); (case side1 => exact zC HR1 HB); (case side2 => exact HC1.out); rintro e w' ⟨rfl, ⟨nd, rfl⟩⟩; (try first | exact ⟨rfl, _, World.drewN_drewN _ _ _⟩ | exact ⟨rfl, _, Eq.trans (World.drewN_drewN _ _ _) (congrArg (World.drewN _) (Nat.add_assoc _ _ _))⟩))))
      go_ret2
      exact ⟨zf, zm HB⟩
     ·replace c12 := Bool.eq_false_iff.mpr c12
      subst c12
      have H1 : ((slices_Max_int_int.f kj4 l1).bind fun t111 => ((slices_Index_int_int.f kj4 l1 t111).bind fun t112 => (bubble_Judge.l0 kj4 l1 t112 0 true l1 (l1.length : Int) 0 a0_0 a0_1 a0_2))) = some (r1, r2) := by rw [if_neg (show ¬ (false = true) by decide)] at H; exact H
      clear H
      have H := H1
      clear H1
      replace H := Option.bind_eq_some_iff.mp H
      obtain ⟨t111, A130, H⟩ := H
      replace H : ((slices_Index_int_int.f kj4 l1 t111).bind fun t112 => (bubble_Judge.l0 kj4 l1 t112 0 true l1 (l1.length : Int) 0 a0_0 a0_1 a0_2)) = some (r1, r2) := H
      have A13 := za A130
      clear A130
      replace H := Option.bind_eq_some_iff.mp H
      obtain ⟨t112, A140, H⟩ := H
      replace H : (bubble_Judge.l0 kj4 l1 t112 0 true l1 (l1.length : Int) 0 a0_0 a0_1 a0_2) = some (r1, r2) := H
      have A14 := za A140
      clear A140
      have H' := za H
      clear H
      go_wp2_with (first | (go_at_call 40; (with_reducible refine (slices_ContainsFunc_int_int_outside_s40.calls kj4 _ _ l1 false _ ?side1 ?side2 A11.out).mono ?_); (case side1 => exact zC HR1 HB); (case side2 => exact HC1.out); rintro e w' ⟨rfl, ⟨nd, rfl⟩⟩; (try first | exact ⟨rfl, _, World.drewN_drewN _ _ _⟩ | exact ⟨rfl, _, Eq.trans (World.drewN_drewN _ _ _) (congrArg (World.drewN _) (Nat.add_assoc _ _ _))⟩)) | (go_at_call 43; (with_reducible refine (slices_Max_int_int.calls kj4 _ _ l1 t111 _ ?side1 ?side2 A13.out).mono ?_); (case side1 => repeat (first | exact (Kd.C_below HR1.out (zm HB)) | (with_reducible refine Kd.C_alloc ?_ _) | (with_reducible refine Kd.C_drewN ?_ _) | (with_reducible refine Kd.C_drew ?_))); (case side2 => exact HC1.out); rintro e w15 ⟨rfl, hb⟩; replace BK108 := zb BK108 hb; replace HB := zs HB hb; (try clear hb); (try clear hb2); (try clear hk); (try clear hi)) | (go_at_call 42; (with_reducible refine (slices_Index_int_int.calls kj4 _ _ l1 t111 t112 _ ?side1 ?side2 A14.out).mono ?_); (case side1 => exact zC HR1 HB); (case side2 => exact HC1.out); rintro e w' ⟨rfl, ⟨nd, rfl⟩⟩; (try first | exact ⟨rfl, _, World.drewN_drewN _ _ _⟩ | exact ⟨rfl, _, Eq.trans (World.drewN_drewN _ _ _) (congrArg (World.drewN _) (Nat.add_assoc _ _ _))⟩)))
      repeat (go_quiet (first | (go_at_call 40; (with_reducible refine (slices_ContainsFunc_int_int_outside_s40.calls kj4 _ _ l1 false _ ?side1 ?side2 A11.out).mono ?_); (case side1 => exact zC HR1 HB); (case side2 => exact HC1.out); rintro e w' ⟨rfl, ⟨nd, rfl⟩⟩; (try first | exact ⟨rfl, _, World.drewN_drewN _ _ _⟩ | exact ⟨rfl, _, Eq.trans (World.drewN_drewN _ _ _) (congrArg (World.drewN _) (Nat.add_assoc _ _ _))⟩)) | (go_at_call 43; (with_reducible refine (slices_Max_int_int.calls kj4 _ _ l1 t111 _ ?side1 ?side2 A13.out).mono ?_); (case side1 => repeat (first | exact (Kd.C_below HR1.out (zm HB)) | (with_reducible refine Kd.C_alloc ?_ _) | (with_reducible refine Kd.C_drewN ?_ _) | (with_reducible refine Kd.C_drew ?_))); (case side2 => exact HC1.out); rintro e w15 ⟨rfl, hb⟩; replace BK108 := zb BK108 hb; replace HB := zs HB hb; (try clear hb); (try clear hb2); (try clear hk); (try clear hi)) | (go_at_call 42; (with_reducible refine (slices_Index_int_int.calls kj4 _ _ l1 t111 t112 _ ?side1 ?side2 A14.out).mono ?_); (case side1 => exact zC HR1 HB); (case side2 => exact HC1.out); rintro e w' ⟨rfl, ⟨nd, rfl⟩⟩; (try first | exact ⟨rfl, _, World.drewN_drewN _ _ _⟩ | exact ⟨rfl, _, Eq.trans (World.drewN_drewN _ _ _) (congrArg (World.drewN _) (Nat.add_assoc _ _ _))⟩))); try go_wp2_with (first | (go_at_call 40; (with_reducible refine (slices_ContainsFunc_int_int_outside_s40.calls kj4 _ _ l1 false _ ?side1 ?side2 A11.out).mono ?_); (case side1 => exact zC HR1 HB); (case side2 => exact HC1.out); rintro e w' ⟨rfl, ⟨nd, rfl⟩⟩; (try first | exact ⟨rfl, _, World.drewN_drewN _ _ _⟩ | exact ⟨rfl, _, Eq.trans (World.drewN_drewN _ _ _) (congrArg (World.drewN _) (Nat.add_assoc _ _ _))⟩)) | (go_at_call 43; (with_reducible refine (slices_Max_int_int.calls kj4 _ _ l1 t111 _ ?side1 ?side2 A13.out).mono ?_); (case side1 => repeat (first | exact (Kd.C_below HR1.out (zm HB)) | (with_reducible refine Kd.C_alloc ?_ _) | (with_reducible refine Kd.C_drewN ?_ _) | (with_reducible refine Kd.C_drew ?_))); (case side2 => exact HC1.out); rintro e w15 ⟨rfl, hb⟩; replace BK108 := zb BK108 hb; replace HB := zs HB hb; (try clear hb); (try clear hb2); (try clear hk); (try clear hi)) | (go_at_call 42; (with_reducible refine (slices_Index_int_int.calls kj4 _ _ l1 t111 t112 _ ?side1 ?side2 A14.out).mono ?_); (case side1 => exact zC HR1 HB); (case side2 => exact HC1.out); rintro e w' ⟨rfl, ⟨nd, rfl⟩⟩; (try first | exact ⟨rfl, _, World.drewN_drewN _ _ _⟩ | exact ⟨rfl, _, Eq.trans (World.drewN_drewN _ _ _) (congrArg (World.drewN _) (Nat.add_assoc _ _ _))⟩))))
      go_loopg [7, 8, 33] kj4 (fun kq v7 v8 v33 w' => ∃ (x7_2 : Int) (x8_2 : Bool) (x33_2 : Int), v7 = .int .i64 x7_2 ∧ v8 = .bool x8_2 ∧ v33 = .int .i64 x33_2 ∧ Aside0 (bubble_Judge.l0 kq l1 t112 x7_2 x8_2 l1 (l1.length : Int) x33_2 a0_0 a0_1 a0_2 = some (r1, r2)) ∧ Aside0 (kq ≤ kj4) ∧ Aside0 (w'.heap[gb108]? = some (.cells #[.int .i64 a0_0, .int .i64 a0_1, .int .i64 a0_2] 23 (0, 0))) ∧ Aside0 (Below w.heap.size w w'))
      case atStart => exact ⟨(0), (true), (0), (by first | rfl | (simp; done) | (simp [*]; done)), (by first | rfl | (simp; done) | (simp [*]; done)), (by first | rfl | (simp; done) | (simp [*]; done)), H', ⟨Nat.le_refl _⟩, ⟨by (with_reducible repeat (first | refine blk_drewN ?_ _ | refine blk_drew ?_ | refine blk_alloc ?_ _)); exact BK108.out⟩, ⟨zm HB⟩⟩
      case round =>
       clear H'
       try clear c1
       try clear c2
       try clear p2
       try clear c4
       try clear c9
       try clear c9b0
       try clear c9b1
       try clear c10
       try clear c12
       try clear hcz7_0
       try clear hcz7_1
       try clear hcz7_2
       try clear hfz7_0
       try clear hfz7_1
       try clear hfz7_2
       try clear p2
       obtain ⟨x7_2, x8_2, x33_2, rfl, rfl, rfl, HA, HK2, BK108, HB⟩ := hrel
       cases gk with
       | zero => exact absurd HA.out (by simp [bubble_Judge.l0])
       | succ k2 =>
        have H := HA.out
        clear HA
        simp only [bubble_Judge.l0] at H
        by_cases c16 : x33_2 < (l1.length : Int)
        ·rw [if_pos c16] at H
         have c16b0 : decide (x33_2 < (l1.length : Int)) = true := decide_eq_true c16
         clear c16
         by_cases c17 : 0 ≤ x33_2
         ·rw [if_pos c17] at H
          have c17b0 : decide (0 ≤ x33_2) = true := decide_eq_true c17
          clear c17
          by_cases c18 : x33_2 < (l1.length : Int)
          ·rw [if_pos c18] at H
           have c18b0 : decide (x33_2 < (l1.length : Int)) = true := decide_eq_true c18
           clear c18
           by_cases c19 : (rd l1 x33_2) ≥ a0_0
           ·rw [if_pos c19] at H
            have c19b0 : decide (a0_0 ≤ (rd l1 x33_2)) = true := decide_eq_true c19
            clear c19
            by_cases c20 : x8_2 = true
            ·subst c20
             have H1 : (if x33_2 = t112 then (bubble_Judge.l0 k2 l1 t112 (wrap64 (x7_2 + 1)) true l1 (l1.length : Int) (wrap64 (x33_2 + 1)) a0_0 a0_1 a0_2) else (if 0 ≤ t112 then (if t112 < (l1.length : Int) then (bubble_Judge.l0 k2 l1 t112 (wrap64 (x7_2 + 1)) (decide ((rd l1 x33_2) ≤ (wrap64 ((rd l1 t112) - a0_2)))) l1 (l1.length : Int) (wrap64 (x33_2 + 1)) a0_0 a0_1 a0_2) else (none)) else (none))) = some (r1, r2) := by rw [if_pos rfl] at H; exact H
             clear H
             have H := H1
             clear H1
             by_cases c21 : x33_2 = t112
             ·rw [if_pos c21] at H
              have c21b0 : (x33_2 == t112) = true := beq_iff_eq.mpr c21
              have c21b1 : (x33_2 != t112) = false := bne_eq_false_iff_eq.mpr c21
              clear c21
              have H' := za H
              clear H
              have p113 : 0 ≤ (x33_2 : Int) := of_decide_eq_true (by first | (with_reducible assumption) | assumption)
              have q113 : x33_2 < (l1.length : Int) := of_decide_eq_true (by first | (with_reducible assumption) | assumption)
              obtain ⟨ad113, e113, hx113_0⟩ := Kd.at_int HR1.out x33_2 p113 q113
              cases e113
              replace hx113_0 := zx HB hx113_0
              replace p113 := eq_true p113
              replace q113 := eq_true q113
              obtain ⟨hcz22_0, hcz22_1, hcz22_2, hfz22_0, hfz22_1, hfz22_2⟩ := z3 BK108
              go_wp2
              repeat (go_quiet (fail); try go_wp2)
              go_roundg k2
              case measure => have := HJ4.out; have := HK2.out; omega
              case rel => exact ⟨(wrap64 (x7_2 + 1)), (true), (wrap64 (x33_2 + 1)), (by first | rfl | (simp; done) | (simp [*]; done)), (by first | rfl | (simp; done) | (simp [*]; done)), (by first | rfl | (simp; done) | (simp [*]; done)), H', ⟨by have := HJ4.out; have := HK2.out; omega⟩, ⟨by (with_reducible repeat (first | refine blk_drewN ?_ _ | refine blk_drew ?_ | refine blk_alloc ?_ _)); exact BK108.out⟩, ⟨zm HB⟩⟩
             ·rw [if_neg c21] at H
              have c21b0 : (x33_2 == t112) = false := beq_eq_false_iff_ne.mpr c21
              have c21b1 : (x33_2 != t112) = true := bne_iff_ne.mpr c21
              by_cases c23 : 0 ≤ t112
              ·rw [if_pos c23] at H
               have c23b0 : decide (0 ≤ t112) = true := decide_eq_true c23
               clear c23
               by_cases c24 : t112 < (l1.length : Int)
               ·rw [if_pos c24] at H
                have c24b0 : decide (t112 < (l1.length : Int)) = true := decide_eq_true c24
                clear c24
                have H' := za H
                clear H
                have p113 : 0 ≤ (x33_2 : Int) := of_decide_eq_true (by first | (with_reducible assumption) | assumption)
                have q113 : x33_2 < (l1.length : Int) := of_decide_eq_true (by first | (with_reducible assumption) | assumption)
                obtain ⟨ad113, e113, hx113_0⟩ := Kd.at_int HR1.out x33_2 p113 q113
                cases e113
                replace hx113_0 := zx HB hx113_0
                replace p113 := eq_true p113
                replace q113 := eq_true q113
                obtain ⟨hcz25_0, hcz25_1, hcz25_2, hfz25_0, hfz25_1, hfz25_2⟩ := z3 BK108
                have p114 : 0 ≤ (t112 : Int) := of_decide_eq_true (by first | (with_reducible assumption) | assumption)
                have q114 : t112 < (l1.length : Int) := of_decide_eq_true (by first | (with_reducible assumption) | assumption)
                obtain ⟨ad114, e114, hx114_0⟩ := Kd.at_int HR1.out t112 p114 q114
                obtain rfl : ad113 = ad114 := (by injection e114)
                replace hx114_0 := zx HB hx114_0
                replace p114 := eq_true p114
                replace q114 := eq_true q114
                go_wp2
                repeat (go_quiet (fail); try go_wp2)
                go_roundg k2
                case measure => have := HJ4.out; have := HK2.out; omega
                case rel => exact ⟨(wrap64 (x7_2 + 1)), (decide ((rd l1 x33_2) ≤ (wrap64 ((rd l1 t112) - a0_2)))), (wrap64 (x33_2 + 1)), (by first | rfl | (simp; done) | (simp [*]; done)), (by first | rfl | (simp; done) | (simp [*]; done)), (by first | rfl | (simp; done) | (simp [*]; done)), H', ⟨by have := HJ4.out; have := HK2.out; omega⟩, ⟨by (with_reducible repeat (first | refine blk_drewN ?_ _ | refine blk_drew ?_ | refine blk_alloc ?_ _)); exact BK108.out⟩, ⟨zm HB⟩⟩
               ·rw [if_neg c24] at H
                exact absurd H (by simp)
              ·rw [if_neg c23] at H
               exact absurd H (by simp)
            ·replace c20 := Bool.eq_false_iff.mpr c20
             subst c20
             have H1 : (bubble_Judge.l0 k2 l1 t112 (wrap64 (x7_2 + 1)) false l1 (l1.length : Int) (wrap64 (x33_2 + 1)) a0_0 a0_1 a0_2) = some (r1, r2) := by rw [if_neg (show ¬ (false = true) by decide)] at H; exact H
             clear H
             have H := H1
             clear H1
             have H' := za H
             clear H
             have p113 : 0 ≤ (x33_2 : Int) := of_decide_eq_true (by first | (with_reducible assumption) | assumption)
             have q113 : x33_2 < (l1.length : Int) := of_decide_eq_true (by first | (with_reducible assumption) | assumption)
             obtain ⟨ad113, e113, hx113_0⟩ := Kd.at_int HR1.out x33_2 p113 q113
             cases e113
             replace hx113_0 := zx HB hx113_0
             replace p113 := eq_true p113
             replace q113 := eq_true q113
             obtain ⟨hcz26_0, hcz26_1, hcz26_2, hfz26_0, hfz26_1, hfz26_2⟩ := z3 BK108
             go_wp2
             repeat (go_quiet (fail); try go_wp2)
             go_roundg k2
             case measure => have := HJ4.out; have := HK2.out; omega
             case rel => exact ⟨(wrap64 (x7_2 + 1)), (false), (wrap64 (x33_2 + 1)), (by first | rfl | (simp; done) | (simp [*]; done)), (by first | rfl | (simp; done) | (simp [*]; done)), (by first | rfl | (simp; done) | (simp [*]; done)), H', ⟨by have := HJ4.out; have := HK2.out; omega⟩, ⟨by (with_reducible repeat (first | refine blk_drewN ?_ _ | refine blk_drew ?_ | refine blk_alloc ?_ _)); exact BK108.out⟩, ⟨zm HB⟩⟩
           ·rw [if_neg c19] at H
            have c19b0 : decide (a0_0 ≤ (rd l1 x33_2)) = false := decide_eq_false c19
            clear c19
            by_cases c27 : x8_2 = true
            ·subst c27
             have H1 : (if x33_2 = t112 then (bubble_Judge.l0 k2 l1 t112 x7_2 true l1 (l1.length : Int) (wrap64 (x33_2 + 1)) a0_0 a0_1 a0_2) else (if 0 ≤ t112 then (if t112 < (l1.length : Int) then (bubble_Judge.l0 k2 l1 t112 x7_2 (decide ((rd l1 x33_2) ≤ (wrap64 ((rd l1 t112) - a0_2)))) l1 (l1.length : Int) (wrap64 (x33_2 + 1)) a0_0 a0_1 a0_2) else (none)) else (none))) = some (r1, r2) := by rw [if_pos rfl] at H; exact H
             clear H
             have H := H1
             clear H1
             by_cases c28 : x33_2 = t112
             ·rw [if_pos c28] at H
              have c28b0 : (x33_2 == t112) = true := beq_iff_eq.mpr c28
              have c28b1 : (x33_2 != t112) = false := bne_eq_false_iff_eq.mpr c28
              clear c28
              have H' := za H
              clear H
              have p113 : 0 ≤ (x33_2 : Int) := of_decide_eq_true (by first | (with_reducible assumption) | assumption)
              have q113 : x33_2 < (l1.length : Int) := of_decide_eq_true (by first | (with_reducible assumption) | assumption)
              obtain ⟨ad113, e113, hx113_0⟩ := Kd.at_int HR1.out x33_2 p113 q113
              cases e113
              replace hx113_0 := zx HB hx113_0
              replace p113 := eq_true p113
              replace q113 := eq_true q113
              obtain ⟨hcz29_0, hcz29_1, hcz29_2, hfz29_0, hfz29_1, hfz29_2⟩ := z3 BK108
              go_wp2
              repeat (go_quiet (fail); try go_wp2)
              go_roundg k2
              case measure => have := HJ4.out; have := HK2.out; omega
              case rel => exact ⟨(x7_2), (true), (wrap64 (x33_2 + 1)), (by first | rfl | (simp; done) | (simp [*]; done)), (by first | rfl | (simp; done) | (simp [*]; done)), (by first | rfl | (simp; done) | (simp [*]; done)), H', ⟨by have := HJ4.out; have := HK2.out; omega⟩, ⟨by (with_reducible repeat (first | refine blk_drewN ?_ _ | refine blk_drew ?_ | refine blk_alloc ?_ _)); exact BK108.out⟩, ⟨zm HB⟩⟩
             ·rw [if_neg c28] at H
              have c28b0 : (x33_2 == t112) = false := beq_eq_false_iff_ne.mpr c28
              have c28b1 : (x33_2 != t112) = true := bne_iff_ne.mpr c28
              by_cases c30 : 0 ≤ t112
              ·rw [if_pos c30] at H
               have c30b0 : decide (0 ≤ t112) = true := decide_eq_true c30
               clear c30
               by_cases c31 : t112 < (l1.length : Int)
               ·rw [if_pos c31] at H
                have c31b0 : decide (t112 < (l1.length : Int)) = true := decide_eq_true c31
                clear c31
                have H' := za H
                clear H
                have p113 : 0 ≤ (x33_2 : Int) := of_decide_eq_true (by first | (with_reducible assumption) | assumption)
                have q113 : x33_2 < (l1.length : Int) := of_decide_eq_true (by first | (with_reducible assumption) | assumption)
                obtain ⟨ad113, e113, hx113_0⟩ := Kd.at_int HR1.out x33_2 p113 q113
                cases e113
                replace hx113_0 := zx HB hx113_0
                replace p113 := eq_true p113
                replace q113 := eq_true q113
                obtain ⟨hcz32_0, hcz32_1, hcz32_2, hfz32_0, hfz32_1, hfz32_2⟩ := z3 BK108
                have p115 : 0 ≤ (t112 : Int) := of_decide_eq_true (by first | (with_reducible assumption) | assumption)
                have q115 : t112 < (l1.length : Int) := of_decide_eq_true (by first | (with_reducible assumption) | assumption)
                obtain ⟨ad115, e115, hx115_0⟩ := Kd.at_int HR1.out t112 p115 q115
                obtain rfl : ad113 = ad115 := (by injection e115)
                replace hx115_0 := zx HB hx115_0
                replace p115 := eq_true p115
                replace q115 := eq_true q115
                go_wp2
                repeat (go_quiet (fail); try go_wp2)
                go_roundg k2
                case measure => have := HJ4.out; have := HK2.out; omega
                case rel => exact ⟨(x7_2), (decide ((rd l1 x33_2) ≤ (wrap64 ((rd l1 t112) - a0_2)))), (wrap64 (x33_2 + 1)), (by first | rfl | (simp; done) | (simp [*]; done)), (by first | rfl | (simp; done) | (simp [*]; done)), (by first | rfl | (simp; done) | (simp [*]; done)), H', ⟨by have := HJ4.out; have := HK2.out; omega⟩, ⟨by (with_reducible repeat (first | refine blk_drewN ?_ _ | refine blk_drew ?_ | refine blk_alloc ?_ _)); exact BK108.out⟩, ⟨zm HB⟩⟩
               ·rw [if_neg c31] at H
                exact absurd H (by simp)
              ·rw [if_neg c30] at H
               exact absurd H (by simp)
            ·replace c27 := Bool.eq_false_iff.mpr c27
             subst c27
             have H1 : (bubble_Judge.l0 k2 l1 t112 x7_2 false l1 (l1.length : Int) (wrap64 (x33_2 + 1)) a0_0 a0_1 a0_2) = some (r1, r2) := by rw [if_neg (show ¬ (false = true) by decide)] at H; exact H
             clear H
             have H := H1
             clear H1
             have H' := za H
             clear H
             have p113 : 0 ≤ (x33_2 : Int) := of_decide_eq_true (by first | (with_reducible assumption) | assumption)
             have q113 : x33_2 < (l1.length : Int) := of_decide_eq_true (by first | (with_reducible assumption) | assumption)
             obtain ⟨ad113, e113, hx113_0⟩ := Kd.at_int HR1.out x33_2 p113 q113
             cases e113
             replace hx113_0 := zx HB hx113_0
             replace p113 := eq_true p113
             replace q113 := eq_true q113
             obtain ⟨hcz33_0, hcz33_1, hcz33_2, hfz33_0, hfz33_1, hfz33_2⟩ := z3 BK108
             go_wp2
             repeat (go_quiet (fail); try go_wp2)
             go_roundg k2
             case measure => have := HJ4.out; have := HK2.out; omega
             case rel => exact ⟨(x7_2), (false), (wrap64 (x33_2 + 1)), (by first | rfl | (simp; done) | (simp [*]; done)), (by first | rfl | (simp; done) | (simp [*]; done)), (by first | rfl | (simp; done) | (simp [*]; done)), H', ⟨by have := HJ4.out; have := HK2.out; omega⟩, ⟨by (with_reducible repeat (first | refine blk_drewN ?_ _ | refine blk_drew ?_ | refine blk_alloc ?_ _)); exact BK108.out⟩, ⟨zm HB⟩⟩
          ·rw [if_neg c18] at H
           exact absurd H (by simp)
         ·rw [if_neg c17] at H
          exact absurd H (by simp)
        ·rw [if_neg c16] at H
         have c16b0 : decide (x33_2 < (l1.length : Int)) = false := decide_eq_false c16
         clear c16
         have HC34 := za H
         clear H
         go_upto_region 16 with (fail)
         repeat (go_quiet (fail); go_upto_region 16 with (fail))
         go_cut [62] (fun v62 wc => ∃ (kq : Nat) (x62_33 : Bool), v62 = .bool x62_33 ∧ Aside0 (bubble_Judge.j2 kq t112 x7_2 x62_33 = some (r1, r2)) ∧ Aside0 (kq ≤ k2) ∧ Aside0 (wc.heap[gb108]? = some (.cells #[.int .i64 a0_0, .int .i64 a0_1, .int .i64 a0_2] 23 (0, 0))) ∧ Aside0 (Below w.heap.size w wc))
         case first =>
          have H := HC34.out
          clear HC34
          by_cases c35 : x7_2 = 1
          ·rw [if_pos c35] at H
           have c35b0 : (x7_2 == 1) = true := beq_iff_eq.mpr c35
           have c35b1 : (x7_2 != 1) = false := bne_eq_false_iff_eq.mpr c35
           clear c35
           (first | rw [c35b0] | (simp only [i64_w, i32_w]; rw [c35b0]) | skip)
           have H' := za H
           clear H
           go_wp2
           repeat (go_quiet (fail); try go_wp2)
           go_meet
           case rel => exact ⟨_, (true), (by first | rfl | (simp; done) | (simp [*]; done)), H', ⟨by have := HJ4.out; have := HK2.out; first | omega | exact Nat.le_refl _⟩, ⟨by (with_reducible repeat (first | refine blk_drewN ?_ _ | refine blk_drew ?_ | refine blk_alloc ?_ _)); exact BK108.out⟩, ⟨zm HB⟩⟩
          ·rw [if_neg c35] at H
           have c35b0 : (x7_2 == 1) = false := beq_eq_false_iff_ne.mpr c35
           have c35b1 : (x7_2 != 1) = true := bne_iff_ne.mpr c35
           (first | rw [c35b0] | (simp only [i64_w, i32_w]; rw [c35b0]) | skip)
           by_cases c36 : x8_2 = true
           ·subst c36
            have H1 : (if 0 ≤ t112 then (if t112 < (l1.length : Int) then (bubble_Judge.j2 k2 t112 x7_2 (decide ((rd l1 t112) ≥ a0_1))) else (none)) else (none)) = some (r1, r2) := by rw [if_pos rfl] at H; exact H
            clear H
            have H := H1
            clear H1
            by_cases c37 : 0 ≤ t112
            ·rw [if_pos c37] at H
             have c37b0 : decide (0 ≤ t112) = true := decide_eq_true c37
             clear c37
             by_cases c38 : t112 < (l1.length : Int)
             ·rw [if_pos c38] at H
              have c38b0 : decide (t112 < (l1.length : Int)) = true := decide_eq_true c38
              clear c38
              have H' := za H
              clear H
              have p116 : 0 ≤ (t112 : Int) := of_decide_eq_true (by first | (with_reducible assumption) | assumption)
              have q116 : t112 < (l1.length : Int) := of_decide_eq_true (by first | (with_reducible assumption) | assumption)
              obtain ⟨ad116, e116, hx116_0⟩ := Kd.at_int HR1.out t112 p116 q116
              cases e116
              replace hx116_0 := zx HB hx116_0
              replace p116 := eq_true p116
              replace q116 := eq_true q116
              obtain ⟨hcz39_0, hcz39_1, hcz39_2, hfz39_0, hfz39_1, hfz39_2⟩ := z3 BK108
              go_wp2
              repeat (go_quiet (fail); try go_wp2)
              go_meet
              case rel => exact ⟨_, (decide ((rd l1 t112) ≥ a0_1)), (by first | rfl | (simp; done) | (simp [*]; done)), H', ⟨by have := HJ4.out; have := HK2.out; first | omega | exact Nat.le_refl _⟩, ⟨by (with_reducible repeat (first | refine blk_drewN ?_ _ | refine blk_drew ?_ | refine blk_alloc ?_ _)); exact BK108.out⟩, ⟨zm HB⟩⟩
             ·rw [if_neg c38] at H
              exact absurd H (by simp)
            ·rw [if_neg c37] at H
             exact absurd H (by simp)
           ·replace c36 := Bool.eq_false_iff.mpr c36
            subst c36
            have H1 : (bubble_Judge.j2 k2 t112 x7_2 false) = some (r1, r2) := by rw [if_neg (show ¬ (false = true) by decide)] at H; exact H
            clear H
            have H := H1
            clear H1
            have H' := za H
            clear H
            go_wp2
            repeat (go_quiet (fail); try go_wp2)
            go_meet
            case rel => exact ⟨_, (false), (by first | rfl | (simp; done) | (simp [*]; done)), H', ⟨by have := HJ4.out; have := HK2.out; first | omega | exact Nat.le_refl _⟩, ⟨by (with_reducible repeat (first | refine blk_drewN ?_ _ | refine blk_drew ?_ | refine blk_alloc ?_ _)); exact BK108.out⟩, ⟨zm HB⟩⟩
         case rest =>
          clear HC34
          try clear c1
          try clear p1
          try clear q1
          try clear hx1
          try clear c2
          try clear p2
          try clear c3
          try clear c4
          try clear p6
          try clear c9
          try clear c9b0
          try clear c9b1
          try clear c10
          try clear p11
          try clear q11
          try clear hx11
          try clear c12
          try clear c16
          try clear c16b0
          try clear c17
          try clear c17b0
          try clear c18
          try clear c18b0
          try clear c19
          try clear c19b0
          try clear c20
          try clear c21
          try clear c21b0
          try clear c21b1
          try clear c23
          try clear c23b0
          try clear c24
          try clear c24b0
          try clear c27
          try clear c28
          try clear c28b0
          try clear c28b1
          try clear c30
          try clear c30b0
          try clear c31
          try clear c31b0
          try clear c35
          try clear c35b0
          try clear c35b1
          try clear c36
          try clear c37
          try clear c37b0
          try clear c38
          try clear c38b0
          try clear hcz22_0
          try clear hcz22_1
          try clear hcz22_2
          try clear hcz25_0
          try clear hcz25_1
          try clear hcz25_2
          try clear hcz26_0
          try clear hcz26_1
          try clear hcz26_2
          try clear hcz29_0
          try clear hcz29_1
          try clear hcz29_2
          try clear hcz32_0
          try clear hcz32_1
          try clear hcz32_2
          try clear hcz33_0
          try clear hcz33_1
          try clear hcz33_2
          try clear hcz39_0
          try clear hcz39_1
          try clear hcz39_2
          try clear hcz7_0
          try clear hcz7_1
          try clear hcz7_2
          try clear hfz22_0
          try clear hfz22_1
          try clear hfz22_2
          try clear hfz25_0
          try clear hfz25_1
          try clear hfz25_2
          try clear hfz26_0
          try clear hfz26_1
          try clear hfz26_2
          try clear hfz29_0
          try clear hfz29_1
          try clear hfz29_2
          try clear hfz32_0
          try clear hfz32_1
          try clear hfz32_2
          try clear hfz33_0
          try clear hfz33_1
          try clear hfz33_2
          try clear hfz39_0
          try clear hfz39_1
          try clear hfz39_2
          try clear hfz7_0
          try clear hfz7_1
          try clear hfz7_2
          try clear hx113_0
          try clear hx114_0
          try clear hx115_0
          try clear hx116_0
          try clear p113
          try clear p114
          try clear p115
          try clear p116
          try clear p2
          try clear q113
          try clear q114
          try clear q115
          try clear q116
          obtain ⟨kq, x62_33, rfl, HA, HJ33, BK108, HB⟩ := hcut
          cases kq with
          | zero => exact absurd HA.out (by simp [bubble_Judge.j2])
          | succ kj33 =>
           have H := HA.out
           clear HA
           simp only [bubble_Judge.j2] at H
           by_cases c40 : x62_33 = true
           ·subst c40
            have H1 : (some (t112, 0)) = some (r1, r2) := by rw [if_pos rfl] at H; exact H
            clear H
            have H := H1
            clear H1
            simp only [Option.some.injEq, Prod.mk.injEq] at H
            obtain ⟨rfl, rfl⟩ := H
            go_wp2
            repeat (go_quiet (fail); try go_wp2)
            go_ret2
            exact ⟨zf, zm HB⟩
           ·replace c40 := Bool.eq_false_iff.mpr c40
            subst c40
            have H1 : (if x7_2 > 1 then (some ((-2), 0)) else (some ((-1), 0))) = some (r1, r2) := by rw [if_neg (show ¬ (false = true) by decide)] at H; exact H
            clear H
            have H := H1
            clear H1
            by_cases c41 : x7_2 > 1
            ·rw [if_pos c41] at H
             have c41b0 : decide (1 < x7_2) = true := decide_eq_true c41
             clear c41
             simp only [Option.some.injEq, Prod.mk.injEq] at H
             obtain ⟨rfl, rfl⟩ := H
             go_wp2
             repeat (go_quiet (fail); try go_wp2)
             go_ret2
             exact ⟨zf, zm HB⟩
            ·rw [if_neg c41] at H
             have c41b0 : decide (1 < x7_2) = false := decide_eq_false c41
             clear c41
             simp only [Option.some.injEq, Prod.mk.injEq] at H
             obtain ⟨rfl, rfl⟩ := H
             go_wp2
             repeat (go_quiet (fail); try go_wp2)
             go_ret2
             exact ⟨zf, zm HB⟩
 ·replace c4 := Bool.eq_false_iff.mpr c4
  subst c4
  have H1 : (some (0, 1)) = some (r1, r2) := by rw [if_neg (show ¬ (false = true) by decide)] at H; exact H
  clear H
  have H := H1
  clear H1
  simp only [Option.some.injEq, Prod.mk.injEq] at H
  obtain ⟨rfl, rfl⟩ := H
  go_enter Try.func21, Try.ntmps21
  go_wp2_with (first | ((with_reducible refine gate_dst (N := 2) rfl ?_); (try (refine gate_guard (by rfl) ?_; dsimp only)); refine zE 2 #[.int .i64 a0_0, .int .i64 a0_1, .int .i64 a0_2] 23 ?_; intro gb108 hg w42 hbox hb; have BK108 := za (hbox); have GW108 := zg HB hg; have GE108 := zg HB hg; replace HB := zs HB hb; clear hb hbox hg; obtain ⟨hcz43_0, hcz43_1, hcz43_2, hfz43_0, hfz43_1, hfz43_2⟩ := z3 BK108) | (go_at_call 12; (with_reducible refine (bubble_Valid.calls a0_0 a0_1 a0_2 false _ A3.out).mono ?_); rintro e w44 ⟨rfl, hb⟩; replace BK108 := zb BK108 hb; replace HB := zs HB hb; (try clear hb); (try clear hb2); (try clear hk); (try clear hi)))
  repeat (go_quiet (first | ((with_reducible refine gate_dst (N := 2) rfl ?_); (try (refine gate_guard (by rfl) ?_; dsimp only)); refine zE 2 #[.int .i64 a0_0, .int .i64 a0_1, .int .i64 a0_2] 23 ?_; intro gb108 hg w42 hbox hb; have BK108 := za (hbox); have GW108 := zg HB hg; have GE108 := zg HB hg; replace HB := zs HB hb; clear hb hbox hg; obtain ⟨hcz43_0, hcz43_1, hcz43_2, hfz43_0, hfz43_1, hfz43_2⟩ := z3 BK108) | (go_at_call 12; (with_reducible refine (bubble_Valid.calls a0_0 a0_1 a0_2 false _ A3.out).mono ?_); rintro e w44 ⟨rfl, hb⟩; replace BK108 := zb BK108 hb; replace HB := zs HB hb; (try clear hb); (try clear hb2); (try clear hk); (try clear hi))); try go_wp2_with (first | ((with_reducible refine gate_dst (N := 2) rfl ?_); (try (refine gate_guard (by rfl) ?_; dsimp only)); refine zE 2 #[.int .i64 a0_0, .int .i64 a0_1, .int .i64 a0_2] 23 ?_; intro gb108 hg w42 hbox hb; have BK108 := za (hbox); have GW108 := zg HB hg; have GE108 := zg HB hg; replace HB := zs HB hb; clear hb hbox hg; obtain ⟨hcz43_0, hcz43_1, hcz43_2, hfz43_0, hfz43_1, hfz43_2⟩ := z3 BK108) | (go_at_call 12; (with_reducible refine (bubble_Valid.calls a0_0 a0_1 a0_2 false _ A3.out).mono ?_); rintro e w44 ⟨rfl, hb⟩; replace BK108 := zb BK108 hb; replace HB := zs HB hb; (try clear hb); (try clear hb2); (try clear hk); (try clear hi))))
  go_ret2
  exact ⟨zf, zm HB⟩

end Go.Proofs.Ythbmpjglkbhhgaa.Print
