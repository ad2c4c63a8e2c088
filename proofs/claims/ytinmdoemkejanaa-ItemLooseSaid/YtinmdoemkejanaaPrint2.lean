-- Printed by a program of this session (wip/own_print.py) out of the translation; Lean checks it.
import Derived.Test.YtinmdoemkejanaaShort
import Derived.Test.YtinmdoemkejanaaPrint0
namespace Go.Proofs.Ytinmdoemkejanaa.Print
open Go.RowKit Go.Proofs.YtinmdoemkejanaaW.PrintWords Go.Proofs.YtinmdoemkejanaaW.PrintLast Go.Proofs.YtinmdoemkejanaaW.PrintMore
attribute [local go_sem] max2_int min2_int max_two min_two max_three min_three max_four min_four   -- for this text's walks alone
set_option linter.unusedVariables false
set_option linter.unusedSimpArgs false

/-! ### awardingbodymake_Cut: function 11 -/
def awardingbodymake_Cut.f (a0 : Int) (a1 : Int) : Option (Int) := if a1 < 1 then (some 0) else (if a1 = 0 then (none) else (if (Int.tmod a0 a1) < 0 then (some (wrap64 ((Int.tmod a0 a1) + a1))) else (some (Int.tmod a0 a1))))
set_option maxHeartbeats 8000000 in
set_option maxRecDepth 100000 in
theorem awardingbodymake_Cut.calls (a0 : Int) (a1 : Int) (r : Int) (w : World) (h : awardingbodymake_Cut.f a0 a1 = some r) :
    Calls Try.prog 11 #[.int .i64 a0, .int .i64 a1] w fun e w' => e = .returned (.int .i64 r) ∧ Drawn0 w w' := by
 have H : (if a1 < 1 then (some 0) else (if a1 = 0 then (none) else (if (Int.tmod a0 a1) < 0 then (some (wrap64 ((Int.tmod a0 a1) + a1))) else (some (Int.tmod a0 a1))))) = some r := h
 clear h
 by_cases c3 : a1 < 1
 ·rw [if_pos c3] at H
  have c3b0 : decide (a1 < 1) = true := decide_eq_true c3
  clear c3
  obtain rfl := Option.some.inj H
  go_enter Try.func11, Try.ntmps11
  go_wp2
  go_ret
  exact ⟨by first | rfl | (simp; done) | (simp [*]; done), by repeat (first | exact Drawn0.refl _ | apply Drawn0.step)⟩
 ·rw [if_neg c3] at H
  have c3b0 : decide (a1 < 1) = false := decide_eq_false c3
  clear c3
  by_cases c4 : a1 = 0
  ·rw [if_pos c4] at H
   exact absurd H (by simp)
  ·rw [if_neg c4] at H
   have c4b0 : (a1 == 0) = false := beq_eq_false_iff_ne.mpr c4
   have c4b1 : (a1 != 0) = true := bne_iff_ne.mpr c4
   by_cases c5 : (Int.tmod a0 a1) < 0
   ·rw [if_pos c5] at H
    have c5b0 : decide ((Int.tmod a0 a1) < 0) = true := decide_eq_true c5
    clear c5
    obtain rfl := Option.some.inj H
    go_enter Try.func11, Try.ntmps11
    go_wp2
    go_ret
    exact ⟨by first | rfl | (simp; done) | (simp [*]; done), by repeat (first | exact Drawn0.refl _ | apply Drawn0.step)⟩
   ·rw [if_neg c5] at H
    have c5b0 : decide ((Int.tmod a0 a1) < 0) = false := decide_eq_false c5
    clear c5
    obtain rfl := Option.some.inj H
    go_enter Try.func11, Try.ntmps11
    go_wp2
    go_ret
    exact ⟨by first | rfl | (simp; done) | (simp [*]; done), by repeat (first | exact Drawn0.refl _ | apply Drawn0.step)⟩

/-! ### item_in: function 36 -/
def item_in.f (a0 : Int) (a1 : Int) (a2 : Int) : Option (Bool) := if a0 ≥ a1 then (some (decide (a0 ≤ a2))) else (some false)
set_option maxHeartbeats 8000000 in
set_option maxRecDepth 100000 in
theorem item_in.calls (a0 : Int) (a1 : Int) (a2 : Int) (r : Bool) (w : World) (h : item_in.f a0 a1 a2 = some r) :
    Calls Try.prog 36 #[.int .i64 a0, .int .i64 a1, .int .i64 a2] w fun e w' => e = .returned (.bool r) ∧ Drawn0 w w' := by
 have H : (if a0 ≥ a1 then (some (decide (a0 ≤ a2))) else (some false)) = some r := h
 clear h
 by_cases c4 : a0 ≥ a1
 ·rw [if_pos c4] at H
  have c4b0 : decide (a1 ≤ a0) = true := decide_eq_true c4
  clear c4
  obtain rfl := Option.some.inj H
  go_enter Try.func36, Try.ntmps36
  go_wp2
  go_ret
  exact ⟨by first | rfl | (simp; done) | (simp [*]; done), by repeat (first | exact Drawn0.refl _ | apply Drawn0.step)⟩
 ·rw [if_neg c4] at H
  have c4b0 : decide (a1 ≤ a0) = false := decide_eq_false c4
  clear c4
  obtain rfl := Option.some.inj H
  go_enter Try.func36, Try.ntmps36
  go_wp2
  go_ret
  exact ⟨by first | rfl | (simp; done) | (simp [*]; done), by repeat (first | exact Drawn0.refl _ | apply Drawn0.step)⟩

/-! ### item_ValidPart: function 12 -/
def item_ValidPart.j0 : Nat → Bool → Int → Int → Int → Int → Int → Int → Option (Bool)
  | 0, _, _, _, _, _, _, _ => none
  | k + 1, x18, x102000, x102001, x102002, x102003, x102004, x102005 => if x18 = true then (some false) else (if x102000 = 1 then (if x102004 = 0 then (some (x102005 == 0)) else (some false)) else (if x102000 = 2 then ((item_in.f x102004 2 5).bind fun t105 => (if t105 = true then ((item_in.f x102005 0 (wrap64 (x102004 - 1))).bind fun t106 => (some t106)) else (some false))) else (some false)))
def item_ValidPart.f (k : Nat) (a0_0 : Int) (a0_1 : Int) (a0_2 : Int) (a0_3 : Int) (a0_4 : Int) (a0_5 : Int) : Option (Bool) := (item_in.f a0_1 1 40).bind fun t102 => (if t102 = true then ((item_in.f a0_2 0 15).bind fun t103 => (if t103 = true then ((item_in.f a0_3 0 5).bind fun t104 => (item_ValidPart.j0 k (!t104) a0_0 a0_1 a0_2 a0_3 a0_4 a0_5)) else (item_ValidPart.j0 k true a0_0 a0_1 a0_2 a0_3 a0_4 a0_5))) else (item_ValidPart.j0 k true a0_0 a0_1 a0_2 a0_3 a0_4 a0_5))
theorem item_ValidPart.mono_l : ∀ k, (∀ y0 y1 y2 y3 y4 y5 y6, LeO (item_ValidPart.j0 k y0 y1 y2 y3 y4 y5 y6) (item_ValidPart.j0 (k + 1) y0 y1 y2 y3 y4 y5 y6))
  | 0 => fun _ _ _ _ _ _ _ r h => by simp [item_ValidPart.j0] at h
  | k + 1 => by
    have ih0 := item_ValidPart.mono_l k
    · intro y0 y1 y2 y3 y4 y5 y6
      unfold item_ValidPart.j0
      repeat' first
      | (with_reducible exact ih0 _ _ _ _ _ _ _)
      | (with_reducible exact LeO.refl _)
      | (with_reducible exact LeO.none _)
      | (with_reducible refine LeO.ite ?_ ?_)
      | (with_reducible refine LeO.bind ?_ (fun _ => ?_))
      | exact ih0 _ _ _ _ _ _ _
      | exact LeO.none _
      | refine LeO.ite ?_ ?_
      | refine LeO.bind ?_ (fun _ => ?_)
theorem item_ValidPart.mono : ∀ a0 a1 a2 a3 a4 a5 k, LeO (item_ValidPart.f k a0 a1 a2 a3 a4 a5) (item_ValidPart.f (k + 1) a0 a1 a2 a3 a4 a5) := by
  intro a0 a1 a2 a3 a4 a5 k
  have ih0 := item_ValidPart.mono_l k
  unfold item_ValidPart.f
  repeat' first
      | (with_reducible exact ih0 _ _ _ _ _ _ _)
      | (with_reducible exact LeO.refl _)
      | (with_reducible exact LeO.none _)
      | (with_reducible refine LeO.ite ?_ ?_)
      | (with_reducible refine LeO.bind ?_ (fun _ => ?_))
      | exact ih0 _ _ _ _ _ _ _
      | exact LeO.none _
      | refine LeO.ite ?_ ?_
      | refine LeO.bind ?_ (fun _ => ?_)
set_option maxHeartbeats 8000000 in
set_option maxRecDepth 100000 in
theorem item_ValidPart.calls (k : Nat) (a0_0 : Int) (a0_1 : Int) (a0_2 : Int) (a0_3 : Int) (a0_4 : Int) (a0_5 : Int) (r : Bool) (w : World) (h : item_ValidPart.f k a0_0 a0_1 a0_2 a0_3 a0_4 a0_5 = some r) :
    Calls Try.prog 12 #[.agg #[.int .i64 a0_0, .int .i64 a0_1, .int .i64 a0_2, .int .i64 a0_3, .int .i64 a0_4, .int .i64 a0_5]] w fun e w' => e = .returned (.bool r) ∧ Below w.heap.size w w' := by
 have hu23 := Try.underlying23
 have HB := za (Below.refl w.heap.size w)
 have H : ((item_in.f a0_1 1 40).bind fun t102 => (if t102 = true then ((item_in.f a0_2 0 15).bind fun t103 => (if t103 = true then ((item_in.f a0_3 0 5).bind fun t104 => (item_ValidPart.j0 k (!t104) a0_0 a0_1 a0_2 a0_3 a0_4 a0_5)) else (item_ValidPart.j0 k true a0_0 a0_1 a0_2 a0_3 a0_4 a0_5))) else (item_ValidPart.j0 k true a0_0 a0_1 a0_2 a0_3 a0_4 a0_5))) = some r := h
 clear h
 have HC2 := za H
 clear H
 go_enter Try.func12, Try.ntmps12
 go_upto_region 1 with (first | ((with_reducible refine gate_dst (N := 1) rfl ?_); refine zE 1 #[.int .i64 a0_0, .int .i64 a0_1, .int .i64 a0_2, .int .i64 a0_3, .int .i64 a0_4, .int .i64 a0_5] 23 ?_; intro gb101 hg w3 hbox hb; have BK101 := za (hbox); have GW101 := zg HB hg; have GE101 := zg HB hg; replace HB := zs HB hb; clear hb hbox hg))
 (try simp only [Act.put, List.setIfInBounds_toArray, List.set_cons_zero, List.set_cons_succ])
 go_cut [18] (fun v18 wc => ∃ (kq : Nat) (x18_1 : Bool), v18 = .bool x18_1 ∧ Aside0 (item_ValidPart.j0 kq x18_1 a0_0 a0_1 a0_2 a0_3 a0_4 a0_5 = some r) ∧ Aside0 (kq ≤ k) ∧ Aside0 (wc.heap[gb101]? = some (.cells #[.int .i64 a0_0, .int .i64 a0_1, .int .i64 a0_2, .int .i64 a0_3, .int .i64 a0_4, .int .i64 a0_5] 23 (0, 0))) ∧ Aside0 (Below w.heap.size w wc))
 case first =>
  have H := HC2.out
  clear HC2
  replace H := Option.bind_eq_some_iff.mp H
  obtain ⟨t102, A40, H⟩ := H
  replace H : (if t102 = true then ((item_in.f a0_2 0 15).bind fun t103 => (if t103 = true then ((item_in.f a0_3 0 5).bind fun t104 => (item_ValidPart.j0 k (!t104) a0_0 a0_1 a0_2 a0_3 a0_4 a0_5)) else (item_ValidPart.j0 k true a0_0 a0_1 a0_2 a0_3 a0_4 a0_5))) else (item_ValidPart.j0 k true a0_0 a0_1 a0_2 a0_3 a0_4 a0_5)) = some r := H
  have A4 := za A40
  clear A40
  by_cases c5 : t102 = true
  ·subst c5
   have H1 : ((item_in.f a0_2 0 15).bind fun t103 => (if t103 = true then ((item_in.f a0_3 0 5).bind fun t104 => (item_ValidPart.j0 k (!t104) a0_0 a0_1 a0_2 a0_3 a0_4 a0_5)) else (item_ValidPart.j0 k true a0_0 a0_1 a0_2 a0_3 a0_4 a0_5))) = some r := by rw [if_pos rfl] at H; exact H
   clear H
   have H := H1
   clear H1
   replace H := Option.bind_eq_some_iff.mp H
   obtain ⟨t103, A60, H⟩ := H
   replace H : (if t103 = true then ((item_in.f a0_3 0 5).bind fun t104 => (item_ValidPart.j0 k (!t104) a0_0 a0_1 a0_2 a0_3 a0_4 a0_5)) else (item_ValidPart.j0 k true a0_0 a0_1 a0_2 a0_3 a0_4 a0_5)) = some r := H
   have A6 := za A60
   clear A60
   by_cases c7 : t103 = true
   ·subst c7
    have H1 : ((item_in.f a0_3 0 5).bind fun t104 => (item_ValidPart.j0 k (!t104) a0_0 a0_1 a0_2 a0_3 a0_4 a0_5)) = some r := by rw [if_pos rfl] at H; exact H
    clear H
    have H := H1
    clear H1
    replace H := Option.bind_eq_some_iff.mp H
    obtain ⟨t104, A80, H⟩ := H
    replace H : (item_ValidPart.j0 k (!t104) a0_0 a0_1 a0_2 a0_3 a0_4 a0_5) = some r := H
    have A8 := za A80
    clear A80
    have H' := za H
    clear H
    obtain ⟨hcz9_0, hcz9_1, hcz9_2, hcz9_3, hcz9_4, hcz9_5, hfz9_0, hfz9_1, hfz9_2, hfz9_3, hfz9_4, hfz9_5⟩ := z6 BK101
    go_wp2_with (first | ((with_reducible refine gate_callee (f := 36) rfl ?_); refine zL (some 5) Try.func36 #[.int .i64 a0_1, .int .i64 1, .int .i64 40] ?_; (with_reducible refine (item_in.calls a0_1 1 40 true _ A4.out).mono ?_); rintro e w' ⟨rfl, ⟨nd, rfl⟩⟩; refine ⟨_, rfl, ?_⟩) | (go_at_call 36; (with_reducible refine (item_in.calls a0_2 0 15 true _ A6.out).mono ?_); rintro e w' ⟨rfl, ⟨nd, rfl⟩⟩) | (go_at_call 36; (with_reducible refine (item_in.calls a0_3 0 5 t104 _ A8.out).mono ?_); rintro e w' ⟨rfl, ⟨nd, rfl⟩⟩))
    go_meet
    case rel => exact ⟨_, (!t104), (by first | rfl | (simp; done) | (simp [*]; done)), H', ⟨by first | omega | exact Nat.le_refl _⟩, ⟨by (with_reducible repeat (first | refine blk_drewN ?_ _ | refine blk_drew ?_ | refine blk_alloc ?_ _)); exact BK101.out⟩, ⟨zm HB⟩⟩
   ·replace c7 := Bool.eq_false_iff.mpr c7
    subst c7
    have H1 : (item_ValidPart.j0 k true a0_0 a0_1 a0_2 a0_3 a0_4 a0_5) = some r := by rw [if_neg (show ¬ (false = true) by decide)] at H; exact H
    clear H
    have H := H1
    clear H1
    have H' := za H
    clear H
    obtain ⟨hcz10_0, hcz10_1, hcz10_2, hcz10_3, hcz10_4, hcz10_5, hfz10_0, hfz10_1, hfz10_2, hfz10_3, hfz10_4, hfz10_5⟩ := z6 BK101
    go_wp2_with (first | ((with_reducible refine gate_callee (f := 36) rfl ?_); refine zL (some 5) Try.func36 #[.int .i64 a0_1, .int .i64 1, .int .i64 40] ?_; (with_reducible refine (item_in.calls a0_1 1 40 true _ A4.out).mono ?_); rintro e w' ⟨rfl, ⟨nd, rfl⟩⟩; refine ⟨_, rfl, ?_⟩) | (go_at_call 36; (with_reducible refine (item_in.calls a0_2 0 15 false _ A6.out).mono ?_); rintro e w' ⟨rfl, ⟨nd, rfl⟩⟩))
    go_meet
    case rel => exact ⟨_, (true), (by first | rfl | (simp; done) | (simp [*]; done)), H', ⟨by first | omega | exact Nat.le_refl _⟩, ⟨by (with_reducible repeat (first | refine blk_drewN ?_ _ | refine blk_drew ?_ | refine blk_alloc ?_ _)); exact BK101.out⟩, ⟨zm HB⟩⟩
  ·replace c5 := Bool.eq_false_iff.mpr c5
   subst c5
   have H1 : (item_ValidPart.j0 k true a0_0 a0_1 a0_2 a0_3 a0_4 a0_5) = some r := by rw [if_neg (show ¬ (false = true) by decide)] at H; exact H
   clear H
   have H := H1
   clear H1
   have H' := za H
   clear H
   obtain ⟨hcz11_0, hcz11_1, hcz11_2, hcz11_3, hcz11_4, hcz11_5, hfz11_0, hfz11_1, hfz11_2, hfz11_3, hfz11_4, hfz11_5⟩ := z6 BK101
   go_wp2_with (first | ((with_reducible refine gate_callee (f := 36) rfl ?_); refine zL (some 5) Try.func36 #[.int .i64 a0_1, .int .i64 1, .int .i64 40] ?_; (with_reducible refine (item_in.calls a0_1 1 40 false _ A4.out).mono ?_); rintro e w' ⟨rfl, ⟨nd, rfl⟩⟩; refine ⟨_, rfl, ?_⟩))
   go_meet
   case rel => exact ⟨_, (true), (by first | rfl | (simp; done) | (simp [*]; done)), H', ⟨by first | omega | exact Nat.le_refl _⟩, ⟨by (with_reducible repeat (first | refine blk_drewN ?_ _ | refine blk_drew ?_ | refine blk_alloc ?_ _)); exact BK101.out⟩, ⟨zm HB⟩⟩
 case rest =>
  clear HC2
  try clear c1
  try clear p2
  try clear c3
  try clear c5
  try clear c7
  try clear hcz10_0
  try clear hcz10_1
  try clear hcz10_2
  try clear hcz10_3
  try clear hcz10_4
  try clear hcz10_5
  try clear hcz11_0
  try clear hcz11_1
  try clear hcz11_2
  try clear hcz11_3
  try clear hcz11_4
  try clear hcz11_5
  try clear hcz9_0
  try clear hcz9_1
  try clear hcz9_2
  try clear hcz9_3
  try clear hcz9_4
  try clear hcz9_5
  try clear hfz10_0
  try clear hfz10_1
  try clear hfz10_2
  try clear hfz10_3
  try clear hfz10_4
  try clear hfz10_5
  try clear hfz11_0
  try clear hfz11_1
  try clear hfz11_2
  try clear hfz11_3
  try clear hfz11_4
  try clear hfz11_5
  try clear hfz9_0
  try clear hfz9_1
  try clear hfz9_2
  try clear hfz9_3
  try clear hfz9_4
  try clear hfz9_5
  obtain ⟨kq, x18_1, rfl, HA, HJ1, BK101, HB⟩ := hcut
  cases kq with
  | zero => exact absurd HA.out (by simp [item_ValidPart.j0])
  | succ kj1 =>
   have H := HA.out
   clear HA
   simp only [item_ValidPart.j0] at H
   by_cases c12 : x18_1 = true
   ·subst c12
    have H1 : (some false) = some r := by rw [if_pos rfl] at H; exact H
    clear H
    have H := H1
    clear H1
    obtain rfl := Option.some.inj H
    go_wp2
    go_ret
    exact ⟨zf, zm HB⟩
   ·replace c12 := Bool.eq_false_iff.mpr c12
    subst c12
    have H1 : (if a0_0 = 1 then (if a0_4 = 0 then (some (a0_5 == 0)) else (some false)) else (if a0_0 = 2 then ((item_in.f a0_4 2 5).bind fun t105 => (if t105 = true then ((item_in.f a0_5 0 (wrap64 (a0_4 - 1))).bind fun t106 => (some t106)) else (some false))) else (some false))) = some r := by rw [if_neg (show ¬ (false = true) by decide)] at H; exact H
    clear H
    have H := H1
    clear H1
    by_cases c13 : a0_0 = 1
    ·rw [if_pos c13] at H
     have c13b0 : (a0_0 == 1) = true := beq_iff_eq.mpr c13
     have c13b1 : (a0_0 != 1) = false := bne_eq_false_iff_eq.mpr c13
     clear c13
     by_cases c14 : a0_4 = 0
     ·rw [if_pos c14] at H
      have c14b0 : (a0_4 == 0) = true := beq_iff_eq.mpr c14
      have c14b1 : (a0_4 != 0) = false := bne_eq_false_iff_eq.mpr c14
      clear c14
      obtain rfl := Option.some.inj H
      obtain ⟨hcz15_0, hcz15_1, hcz15_2, hcz15_3, hcz15_4, hcz15_5, hfz15_0, hfz15_1, hfz15_2, hfz15_3, hfz15_4, hfz15_5⟩ := z6 BK101
      go_wp2
      go_ret
      exact ⟨zf, zm HB⟩
     ·rw [if_neg c14] at H
      have c14b0 : (a0_4 == 0) = false := beq_eq_false_iff_ne.mpr c14
      have c14b1 : (a0_4 != 0) = true := bne_iff_ne.mpr c14
      obtain rfl := Option.some.inj H
      obtain ⟨hcz16_0, hcz16_1, hcz16_2, hcz16_3, hcz16_4, hcz16_5, hfz16_0, hfz16_1, hfz16_2, hfz16_3, hfz16_4, hfz16_5⟩ := z6 BK101
      go_wp2
      go_ret
      exact ⟨zf, zm HB⟩
    ·rw [if_neg c13] at H
     have c13b0 : (a0_0 == 1) = false := beq_eq_false_iff_ne.mpr c13
     have c13b1 : (a0_0 != 1) = true := bne_iff_ne.mpr c13
     by_cases c17 : a0_0 = 2
     ·rw [if_pos c17] at H
      have c17b0 : (a0_0 == 2) = true := beq_iff_eq.mpr c17
      have c17b1 : (a0_0 != 2) = false := bne_eq_false_iff_eq.mpr c17
      clear c17
      replace H := Option.bind_eq_some_iff.mp H
      obtain ⟨t105, A180, H⟩ := H
      replace H : (if t105 = true then ((item_in.f a0_5 0 (wrap64 (a0_4 - 1))).bind fun t106 => (some t106)) else (some false)) = some r := H
      have A18 := za A180
      clear A180
      by_cases c19 : t105 = true
      ·subst c19
       have H1 : ((item_in.f a0_5 0 (wrap64 (a0_4 - 1))).bind fun t106 => (some t106)) = some r := by rw [if_pos rfl] at H; exact H
       clear H
       have H := H1
       clear H1
       replace H := Option.bind_eq_some_iff.mp H
       obtain ⟨t106, A200, H⟩ := H
       replace H : (some t106) = some r := H
       have A20 := za A200
       clear A200
       obtain rfl := Option.some.inj H
       obtain ⟨hcz21_0, hcz21_1, hcz21_2, hcz21_3, hcz21_4, hcz21_5, hfz21_0, hfz21_1, hfz21_2, hfz21_3, hfz21_4, hfz21_5⟩ := z6 BK101
       go_wp2_with (first | ((with_reducible refine gate_callee (f := 36) rfl ?_); refine zL (some 35) Try.func36 #[.int .i64 a0_4, .int .i64 2, .int .i64 5] ?_; (with_reducible refine (item_in.calls a0_4 2 5 true _ A18.out).mono ?_); rintro e w' ⟨rfl, ⟨nd, rfl⟩⟩; refine ⟨_, rfl, ?_⟩) | (go_at_call 36; (with_reducible refine (item_in.calls a0_5 0 (wrap64 (a0_4 - 1)) t106 _ A20.out).mono ?_); rintro e w' ⟨rfl, ⟨nd, rfl⟩⟩))
       go_ret
       exact ⟨zf, zm HB⟩
      ·replace c19 := Bool.eq_false_iff.mpr c19
       subst c19
       have H1 : (some false) = some r := by rw [if_neg (show ¬ (false = true) by decide)] at H; exact H
       clear H
       have H := H1
       clear H1
       obtain rfl := Option.some.inj H
       obtain ⟨hcz22_0, hcz22_1, hcz22_2, hcz22_3, hcz22_4, hcz22_5, hfz22_0, hfz22_1, hfz22_2, hfz22_3, hfz22_4, hfz22_5⟩ := z6 BK101
       go_wp2_with (first | ((with_reducible refine gate_callee (f := 36) rfl ?_); refine zL (some 35) Try.func36 #[.int .i64 a0_4, .int .i64 2, .int .i64 5] ?_; (with_reducible refine (item_in.calls a0_4 2 5 false _ A18.out).mono ?_); rintro e w' ⟨rfl, ⟨nd, rfl⟩⟩; refine ⟨_, rfl, ?_⟩))
       go_ret
       exact ⟨zf, zm HB⟩
     ·rw [if_neg c17] at H
      have c17b0 : (a0_0 == 2) = false := beq_eq_false_iff_ne.mpr c17
      have c17b1 : (a0_0 != 2) = true := bne_iff_ne.mpr c17
      obtain rfl := Option.some.inj H
      obtain ⟨hcz23_0, hcz23_1, hcz23_2, hcz23_3, hcz23_4, hcz23_5, hfz23_0, hfz23_1, hfz23_2, hfz23_3, hfz23_4, hfz23_5⟩ := z6 BK101
      go_wp2
      go_ret
      exact ⟨zf, zm HB⟩

/-! ### awardingbodyref06_ValidPart: function 13 -/
def awardingbodyref06_ValidPart.j0 : Nat → Bool → Int → Int → Int → Int → Int → Int → Option (Bool)
  | 0, _, _, _, _, _, _, _ => none
  | k + 1, x30, x108000, x108001, x108002, x108003, x108004, x108005 => if x30 = true then (some false) else (if x108000 = 1 then (if x108004 = 0 then (some (x108005 == 0)) else (some false)) else (if x108000 = 2 then (if x108004 ≥ 2 then (if x108004 ≤ 5 then (if x108005 ≥ 0 then (some (decide (x108005 < x108004))) else (some false)) else (some false)) else (some false)) else (some false)))
def awardingbodyref06_ValidPart.f (k : Nat) (a0_0 : Int) (a0_1 : Int) (a0_2 : Int) (a0_3 : Int) (a0_4 : Int) (a0_5 : Int) : Option (Bool) := if a0_1 < 1 then (awardingbodyref06_ValidPart.j0 k true a0_0 a0_1 a0_2 a0_3 a0_4 a0_5) else (if a0_1 > 40 then (awardingbodyref06_ValidPart.j0 k true a0_0 a0_1 a0_2 a0_3 a0_4 a0_5) else (if a0_2 < 0 then (awardingbodyref06_ValidPart.j0 k true a0_0 a0_1 a0_2 a0_3 a0_4 a0_5) else (if a0_2 ≥ 16 then (awardingbodyref06_ValidPart.j0 k true a0_0 a0_1 a0_2 a0_3 a0_4 a0_5) else (if a0_3 < 0 then (awardingbodyref06_ValidPart.j0 k true a0_0 a0_1 a0_2 a0_3 a0_4 a0_5) else (awardingbodyref06_ValidPart.j0 k (decide (a0_3 ≥ 6)) a0_0 a0_1 a0_2 a0_3 a0_4 a0_5)))))
theorem awardingbodyref06_ValidPart.mono_l : ∀ k, (∀ y0 y1 y2 y3 y4 y5 y6, LeO (awardingbodyref06_ValidPart.j0 k y0 y1 y2 y3 y4 y5 y6) (awardingbodyref06_ValidPart.j0 (k + 1) y0 y1 y2 y3 y4 y5 y6))
  | 0 => fun _ _ _ _ _ _ _ r h => by simp [awardingbodyref06_ValidPart.j0] at h
  | k + 1 => by
    have ih0 := awardingbodyref06_ValidPart.mono_l k
    · intro y0 y1 y2 y3 y4 y5 y6
      unfold awardingbodyref06_ValidPart.j0
      repeat' first
      | (with_reducible exact ih0 _ _ _ _ _ _ _)
      | (with_reducible exact LeO.refl _)
      | (with_reducible exact LeO.none _)
      | (with_reducible refine LeO.ite ?_ ?_)
      | (with_reducible refine LeO.bind ?_ (fun _ => ?_))
      | exact ih0 _ _ _ _ _ _ _
      | exact LeO.none _
      | refine LeO.ite ?_ ?_
      | refine LeO.bind ?_ (fun _ => ?_)
theorem awardingbodyref06_ValidPart.mono : ∀ a0 a1 a2 a3 a4 a5 k, LeO (awardingbodyref06_ValidPart.f k a0 a1 a2 a3 a4 a5) (awardingbodyref06_ValidPart.f (k + 1) a0 a1 a2 a3 a4 a5) := by
  intro a0 a1 a2 a3 a4 a5 k
  have ih0 := awardingbodyref06_ValidPart.mono_l k
  unfold awardingbodyref06_ValidPart.f
  repeat' first
      | (with_reducible exact ih0 _ _ _ _ _ _ _)
      | (with_reducible exact LeO.refl _)
      | (with_reducible exact LeO.none _)
      | (with_reducible refine LeO.ite ?_ ?_)
      | (with_reducible refine LeO.bind ?_ (fun _ => ?_))
      | exact ih0 _ _ _ _ _ _ _
      | exact LeO.none _
      | refine LeO.ite ?_ ?_
      | refine LeO.bind ?_ (fun _ => ?_)
set_option maxHeartbeats 8000000 in
set_option maxRecDepth 100000 in
theorem awardingbodyref06_ValidPart.calls (k : Nat) (a0_0 : Int) (a0_1 : Int) (a0_2 : Int) (a0_3 : Int) (a0_4 : Int) (a0_5 : Int) (r : Bool) (w : World) (h : awardingbodyref06_ValidPart.f k a0_0 a0_1 a0_2 a0_3 a0_4 a0_5 = some r) :
    Calls Try.prog 13 #[.agg #[.int .i64 a0_0, .int .i64 a0_1, .int .i64 a0_2, .int .i64 a0_3, .int .i64 a0_4, .int .i64 a0_5]] w fun e w' => e = .returned (.bool r) ∧ Below w.heap.size w w' := by
 have hu23 := Try.underlying23
 have HB := za (Below.refl w.heap.size w)
 have H : (if a0_1 < 1 then (awardingbodyref06_ValidPart.j0 k true a0_0 a0_1 a0_2 a0_3 a0_4 a0_5) else (if a0_1 > 40 then (awardingbodyref06_ValidPart.j0 k true a0_0 a0_1 a0_2 a0_3 a0_4 a0_5) else (if a0_2 < 0 then (awardingbodyref06_ValidPart.j0 k true a0_0 a0_1 a0_2 a0_3 a0_4 a0_5) else (if a0_2 ≥ 16 then (awardingbodyref06_ValidPart.j0 k true a0_0 a0_1 a0_2 a0_3 a0_4 a0_5) else (if a0_3 < 0 then (awardingbodyref06_ValidPart.j0 k true a0_0 a0_1 a0_2 a0_3 a0_4 a0_5) else (awardingbodyref06_ValidPart.j0 k (decide (a0_3 ≥ 6)) a0_0 a0_1 a0_2 a0_3 a0_4 a0_5)))))) = some r := h
 clear h
 have HC2 := za H
 clear H
 go_enter Try.func13, Try.ntmps13
 go_upto_region 1 with (first | ((with_reducible refine gate_dst (N := 1) rfl ?_); refine zE 1 #[.int .i64 a0_0, .int .i64 a0_1, .int .i64 a0_2, .int .i64 a0_3, .int .i64 a0_4, .int .i64 a0_5] 23 ?_; intro gb107 hg w3 hbox hb; have BK107 := za (hbox); have GW107 := zg HB hg; have GE107 := zg HB hg; replace HB := zs HB hb; clear hb hbox hg))
 (try simp only [Act.put, List.setIfInBounds_toArray, List.set_cons_zero, List.set_cons_succ])
 go_cut [30] (fun v30 wc => ∃ (kq : Nat) (x30_1 : Bool), v30 = .bool x30_1 ∧ Aside0 (awardingbodyref06_ValidPart.j0 kq x30_1 a0_0 a0_1 a0_2 a0_3 a0_4 a0_5 = some r) ∧ Aside0 (kq ≤ k) ∧ Aside0 (wc.heap[gb107]? = some (.cells #[.int .i64 a0_0, .int .i64 a0_1, .int .i64 a0_2, .int .i64 a0_3, .int .i64 a0_4, .int .i64 a0_5] 23 (0, 0))) ∧ Aside0 (Below w.heap.size w wc))
 case first =>
  have H := HC2.out
  clear HC2
  by_cases c4 : a0_1 < 1
  ·rw [if_pos c4] at H
   have c4b0 : decide (a0_1 < 1) = true := decide_eq_true c4
   clear c4
   (first | rw [c4b0] | (simp only [i64_w, i32_w]; rw [c4b0]) | skip)
   have H' := za H
   clear H
   obtain ⟨hcz5_0, hcz5_1, hcz5_2, hcz5_3, hcz5_4, hcz5_5, hfz5_0, hfz5_1, hfz5_2, hfz5_3, hfz5_4, hfz5_5⟩ := z6 BK107
   go_wp2
   go_meet
   case rel => exact ⟨_, (true), (by first | rfl | (simp; done) | (simp [*]; done)), H', ⟨by first | omega | exact Nat.le_refl _⟩, ⟨by (with_reducible repeat (first | refine blk_drewN ?_ _ | refine blk_drew ?_ | refine blk_alloc ?_ _)); exact BK107.out⟩, ⟨zm HB⟩⟩
  ·rw [if_neg c4] at H
   have c4b0 : decide (a0_1 < 1) = false := decide_eq_false c4
   clear c4
   (first | rw [c4b0] | (simp only [i64_w, i32_w]; rw [c4b0]) | skip)
   by_cases c6 : a0_1 > 40
   ·rw [if_pos c6] at H
    have c6b0 : decide (40 < a0_1) = true := decide_eq_true c6
    clear c6
    have H' := za H
    clear H
    obtain ⟨hcz7_0, hcz7_1, hcz7_2, hcz7_3, hcz7_4, hcz7_5, hfz7_0, hfz7_1, hfz7_2, hfz7_3, hfz7_4, hfz7_5⟩ := z6 BK107
    go_wp2
    go_meet
    case rel => exact ⟨_, (true), (by first | rfl | (simp; done) | (simp [*]; done)), H', ⟨by first | omega | exact Nat.le_refl _⟩, ⟨by (with_reducible repeat (first | refine blk_drewN ?_ _ | refine blk_drew ?_ | refine blk_alloc ?_ _)); exact BK107.out⟩, ⟨zm HB⟩⟩
   ·rw [if_neg c6] at H
    have c6b0 : decide (40 < a0_1) = false := decide_eq_false c6
    clear c6
    by_cases c8 : a0_2 < 0
    ·rw [if_pos c8] at H
     have c8b0 : decide (a0_2 < 0) = true := decide_eq_true c8
     clear c8
     have H' := za H
     clear H
     obtain ⟨hcz9_0, hcz9_1, hcz9_2, hcz9_3, hcz9_4, hcz9_5, hfz9_0, hfz9_1, hfz9_2, hfz9_3, hfz9_4, hfz9_5⟩ := z6 BK107
     go_wp2
     go_meet
     case rel => exact ⟨_, (true), (by first | rfl | (simp; done) | (simp [*]; done)), H', ⟨by first | omega | exact Nat.le_refl _⟩, ⟨by (with_reducible repeat (first | refine blk_drewN ?_ _ | refine blk_drew ?_ | refine blk_alloc ?_ _)); exact BK107.out⟩, ⟨zm HB⟩⟩
    ·rw [if_neg c8] at H
     have c8b0 : decide (a0_2 < 0) = false := decide_eq_false c8
     clear c8
     by_cases c10 : a0_2 ≥ 16
     ·rw [if_pos c10] at H
      have c10b0 : decide (16 ≤ a0_2) = true := decide_eq_true c10
      clear c10
      have H' := za H
      clear H
      obtain ⟨hcz11_0, hcz11_1, hcz11_2, hcz11_3, hcz11_4, hcz11_5, hfz11_0, hfz11_1, hfz11_2, hfz11_3, hfz11_4, hfz11_5⟩ := z6 BK107
      go_wp2
      go_meet
      case rel => exact ⟨_, (true), (by first | rfl | (simp; done) | (simp [*]; done)), H', ⟨by first | omega | exact Nat.le_refl _⟩, ⟨by (with_reducible repeat (first | refine blk_drewN ?_ _ | refine blk_drew ?_ | refine blk_alloc ?_ _)); exact BK107.out⟩, ⟨zm HB⟩⟩
     ·rw [if_neg c10] at H
      have c10b0 : decide (16 ≤ a0_2) = false := decide_eq_false c10
      clear c10
      by_cases c12 : a0_3 < 0
      ·rw [if_pos c12] at H
       have c12b0 : decide (a0_3 < 0) = true := decide_eq_true c12
       clear c12
       have H' := za H
       clear H
       obtain ⟨hcz13_0, hcz13_1, hcz13_2, hcz13_3, hcz13_4, hcz13_5, hfz13_0, hfz13_1, hfz13_2, hfz13_3, hfz13_4, hfz13_5⟩ := z6 BK107
       go_wp2
       go_meet
       case rel => exact ⟨_, (true), (by first | rfl | (simp; done) | (simp [*]; done)), H', ⟨by first | omega | exact Nat.le_refl _⟩, ⟨by (with_reducible repeat (first | refine blk_drewN ?_ _ | refine blk_drew ?_ | refine blk_alloc ?_ _)); exact BK107.out⟩, ⟨zm HB⟩⟩
      ·rw [if_neg c12] at H
       have c12b0 : decide (a0_3 < 0) = false := decide_eq_false c12
       clear c12
       have H' := za H
       clear H
       obtain ⟨hcz14_0, hcz14_1, hcz14_2, hcz14_3, hcz14_4, hcz14_5, hfz14_0, hfz14_1, hfz14_2, hfz14_3, hfz14_4, hfz14_5⟩ := z6 BK107
       go_wp2
       go_meet
       case rel => exact ⟨_, (decide (a0_3 ≥ 6)), (by first | rfl | (simp; done) | (simp [*]; done)), H', ⟨by first | omega | exact Nat.le_refl _⟩, ⟨by (with_reducible repeat (first | refine blk_drewN ?_ _ | refine blk_drew ?_ | refine blk_alloc ?_ _)); exact BK107.out⟩, ⟨zm HB⟩⟩
 case rest =>
  clear HC2
  try clear c1
  try clear p2
  try clear c4
  try clear c4b0
  try clear c6
  try clear c6b0
  try clear c8
  try clear c8b0
  try clear c10
  try clear c10b0
  try clear c12
  try clear c12b0
  try clear c13
  try clear hcz11_0
  try clear hcz11_1
  try clear hcz11_2
  try clear hcz11_3
  try clear hcz11_4
  try clear hcz11_5
  try clear hcz13_0
  try clear hcz13_1
  try clear hcz13_2
  try clear hcz13_3
  try clear hcz13_4
  try clear hcz13_5
  try clear hcz14_0
  try clear hcz14_1
  try clear hcz14_2
  try clear hcz14_3
  try clear hcz14_4
  try clear hcz14_5
  try clear hcz5_0
  try clear hcz5_1
  try clear hcz5_2
  try clear hcz5_3
  try clear hcz5_4
  try clear hcz5_5
  try clear hcz7_0
  try clear hcz7_1
  try clear hcz7_2
  try clear hcz7_3
  try clear hcz7_4
  try clear hcz7_5
  try clear hcz9_0
  try clear hcz9_1
  try clear hcz9_2
  try clear hcz9_3
  try clear hcz9_4
  try clear hcz9_5
  try clear hfz11_0
  try clear hfz11_1
  try clear hfz11_2
  try clear hfz11_3
  try clear hfz11_4
  try clear hfz11_5
  try clear hfz13_0
  try clear hfz13_1
  try clear hfz13_2
  try clear hfz13_3
  try clear hfz13_4
  try clear hfz13_5
  try clear hfz14_0
  try clear hfz14_1
  try clear hfz14_2
  try clear hfz14_3
  try clear hfz14_4
  try clear hfz14_5
  try clear hfz5_0
  try clear hfz5_1
  try clear hfz5_2
  try clear hfz5_3
  try clear hfz5_4
  try clear hfz5_5
  try clear hfz7_0
  try clear hfz7_1
  try clear hfz7_2
  try clear hfz7_3
  try clear hfz7_4
  try clear hfz7_5
  try clear hfz9_0
  try clear hfz9_1
  try clear hfz9_2
  try clear hfz9_3
  try clear hfz9_4
  try clear hfz9_5
  obtain ⟨kq, x30_1, rfl, HA, HJ1, BK107, HB⟩ := hcut
  cases kq with
  | zero => exact absurd HA.out (by simp [awardingbodyref06_ValidPart.j0])
  | succ kj1 =>
   have H := HA.out
   clear HA
   simp only [awardingbodyref06_ValidPart.j0] at H
   by_cases c15 : x30_1 = true
   ·subst c15
    have H1 : (some false) = some r := by rw [if_pos rfl] at H; exact H
    clear H
    have H := H1
    clear H1
    obtain rfl := Option.some.inj H
    go_wp2
    go_ret
    exact ⟨zf, zm HB⟩
   ·replace c15 := Bool.eq_false_iff.mpr c15
    subst c15
    have H1 : (if a0_0 = 1 then (if a0_4 = 0 then (some (a0_5 == 0)) else (some false)) else (if a0_0 = 2 then (if a0_4 ≥ 2 then (if a0_4 ≤ 5 then (if a0_5 ≥ 0 then (some (decide (a0_5 < a0_4))) else (some false)) else (some false)) else (some false)) else (some false))) = some r := by rw [if_neg (show ¬ (false = true) by decide)] at H; exact H
    clear H
    have H := H1
    clear H1
    by_cases c16 : a0_0 = 1
    ·rw [if_pos c16] at H
     have c16b0 : (a0_0 == 1) = true := beq_iff_eq.mpr c16
     have c16b1 : (a0_0 != 1) = false := bne_eq_false_iff_eq.mpr c16
     clear c16
     by_cases c17 : a0_4 = 0
     ·rw [if_pos c17] at H
      have c17b0 : (a0_4 == 0) = true := beq_iff_eq.mpr c17
      have c17b1 : (a0_4 != 0) = false := bne_eq_false_iff_eq.mpr c17
      clear c17
      obtain rfl := Option.some.inj H
      obtain ⟨hcz18_0, hcz18_1, hcz18_2, hcz18_3, hcz18_4, hcz18_5, hfz18_0, hfz18_1, hfz18_2, hfz18_3, hfz18_4, hfz18_5⟩ := z6 BK107
      go_wp2
      go_ret
      exact ⟨zf, zm HB⟩
     ·rw [if_neg c17] at H
      have c17b0 : (a0_4 == 0) = false := beq_eq_false_iff_ne.mpr c17
      have c17b1 : (a0_4 != 0) = true := bne_iff_ne.mpr c17
      obtain rfl := Option.some.inj H
      obtain ⟨hcz19_0, hcz19_1, hcz19_2, hcz19_3, hcz19_4, hcz19_5, hfz19_0, hfz19_1, hfz19_2, hfz19_3, hfz19_4, hfz19_5⟩ := z6 BK107
      go_wp2
      go_ret
      exact ⟨zf, zm HB⟩
    ·rw [if_neg c16] at H
     have c16b0 : (a0_0 == 1) = false := beq_eq_false_iff_ne.mpr c16
     have c16b1 : (a0_0 != 1) = true := bne_iff_ne.mpr c16
     by_cases c20 : a0_0 = 2
     ·rw [if_pos c20] at H
      have c20b0 : (a0_0 == 2) = true := beq_iff_eq.mpr c20
      have c20b1 : (a0_0 != 2) = false := bne_eq_false_iff_eq.mpr c20
      clear c20
      by_cases c21 : a0_4 ≥ 2
      ·rw [if_pos c21] at H
       have c21b0 : decide (2 ≤ a0_4) = true := decide_eq_true c21
       clear c21
       by_cases c22 : a0_4 ≤ 5
       ·rw [if_pos c22] at H
        have c22b0 : decide (a0_4 ≤ 5) = true := decide_eq_true c22
        clear c22
        by_cases c23 : a0_5 ≥ 0
        ·rw [if_pos c23] at H
         have c23b0 : decide (0 ≤ a0_5) = true := decide_eq_true c23
         clear c23
         obtain rfl := Option.some.inj H
         obtain ⟨hcz24_0, hcz24_1, hcz24_2, hcz24_3, hcz24_4, hcz24_5, hfz24_0, hfz24_1, hfz24_2, hfz24_3, hfz24_4, hfz24_5⟩ := z6 BK107
         go_wp2
         go_ret
         exact ⟨zf, zm HB⟩
        ·rw [if_neg c23] at H
         have c23b0 : decide (0 ≤ a0_5) = false := decide_eq_false c23
         clear c23
         obtain rfl := Option.some.inj H
         obtain ⟨hcz25_0, hcz25_1, hcz25_2, hcz25_3, hcz25_4, hcz25_5, hfz25_0, hfz25_1, hfz25_2, hfz25_3, hfz25_4, hfz25_5⟩ := z6 BK107
         go_wp2
         go_ret
         exact ⟨zf, zm HB⟩
       ·rw [if_neg c22] at H
        have c22b0 : decide (a0_4 ≤ 5) = false := decide_eq_false c22
        clear c22
        obtain rfl := Option.some.inj H
        obtain ⟨hcz26_0, hcz26_1, hcz26_2, hcz26_3, hcz26_4, hcz26_5, hfz26_0, hfz26_1, hfz26_2, hfz26_3, hfz26_4, hfz26_5⟩ := z6 BK107
        go_wp2
        go_ret
        exact ⟨zf, zm HB⟩
      ·rw [if_neg c21] at H
       have c21b0 : decide (2 ≤ a0_4) = false := decide_eq_false c21
       clear c21
       obtain rfl := Option.some.inj H
       obtain ⟨hcz27_0, hcz27_1, hcz27_2, hcz27_3, hcz27_4, hcz27_5, hfz27_0, hfz27_1, hfz27_2, hfz27_3, hfz27_4, hfz27_5⟩ := z6 BK107
       go_wp2
       go_ret
       exact ⟨zf, zm HB⟩
     ·rw [if_neg c20] at H
      have c20b0 : (a0_0 == 2) = false := beq_eq_false_iff_ne.mpr c20
      have c20b1 : (a0_0 != 2) = true := bne_iff_ne.mpr c20
      obtain rfl := Option.some.inj H
      obtain ⟨hcz28_0, hcz28_1, hcz28_2, hcz28_3, hcz28_4, hcz28_5, hfz28_0, hfz28_1, hfz28_2, hfz28_3, hfz28_4, hfz28_5⟩ := z6 BK107
      go_wp2
      go_ret
      exact ⟨zf, zm HB⟩

-- NOT PRINTED: function 53 (slices_IndexFunc_byte_byte)

-- NOT PRINTED: function 42 (slices_ContainsFunc_byte_byte)

/-! ### item_Check_1: function 43 -/
def item_Check_1.f (a0 : Int) : Option (Bool) := if a0 < 32 then (some true) else (some (decide (a0 > 126)))
set_option maxHeartbeats 8000000 in
set_option maxRecDepth 100000 in
theorem item_Check_1.calls (a0 : Int) (r : Bool) (w : World) (h : item_Check_1.f a0 = some r) :
    Calls Try.prog 43 #[.int .u8 a0] w fun e w' => e = .returned (.bool r) ∧ Drawn0 w w' := by
 have H : (if a0 < 32 then (some true) else (some (decide (a0 > 126)))) = some r := h
 clear h
 by_cases c2 : a0 < 32
 ·rw [if_pos c2] at H
  have c2b0 : decide (a0 < 32) = true := decide_eq_true c2
  clear c2
  obtain rfl := Option.some.inj H
  go_enter Try.func43, Try.ntmps43
  go_wp2
  go_ret
  exact ⟨by first | rfl | (simp; done) | (simp [*]; done), by repeat (first | exact Drawn0.refl _ | apply Drawn0.step)⟩
 ·rw [if_neg c2] at H
  have c2b0 : decide (a0 < 32) = false := decide_eq_false c2
  clear c2
  obtain rfl := Option.some.inj H
  go_enter Try.func43, Try.ntmps43
  go_wp2
  go_ret
  exact ⟨by first | rfl | (simp; done) | (simp [*]; done), by repeat (first | exact Drawn0.refl _ | apply Drawn0.step)⟩

-- NOT PRINTED: function 54 (api_Part_54)

-- NOT PRINTED: function 44 (api_Part_44)

end Go.Proofs.Ytinmdoemkejanaa.Print
