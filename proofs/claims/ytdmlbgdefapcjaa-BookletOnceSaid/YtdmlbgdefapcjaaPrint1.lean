-- Printed by a program of this session (wip/own_print.py) out of the translation; Lean checks it.
import Derived.Test.YtdmlbgdefapcjaaShort
import Derived.Test.YtdmlbgdefapcjaaScope
import Derived.Test.YtdmlbgdefapcjaaPrint0
namespace Go.Proofs.Ytdmlbgdefapcjaa.Print
open Go.RowKit Go.Proofs.YtdmlbgdefapcjaaW.PrintWords Go.Proofs.YtdmlbgdefapcjaaW.PrintLast Go.Proofs.YtdmlbgdefapcjaaW.PrintMore
attribute [local go_sem] max2_int min2_int max_two min_two max_three min_three max_four min_four   -- for this text's walks alone
set_option linter.unusedVariables false
set_option linter.unusedSimpArgs false

/-! ### item_in: function 45 -/
def item_in.f (a0 : Int) (a1 : Int) (a2 : Int) : Option (Bool) := if a0 ≥ a1 then (some (decide (a0 ≤ a2))) else (some false)
set_option maxHeartbeats 8000000 in
set_option maxRecDepth 100000 in
theorem item_in.calls (a0 : Int) (a1 : Int) (a2 : Int) (r : Bool) (w : World) (h : item_in.f a0 a1 a2 = some r) :
    Calls Try.prog 45 #[.int .i64 a0, .int .i64 a1, .int .i64 a2] w fun e w' => e = .returned (.bool r) ∧ Drawn0 w w' := by
 have H : (if a0 ≥ a1 then (some (decide (a0 ≤ a2))) else (some false)) = some r := h
 clear h
 by_cases c4 : a0 ≥ a1
 ·rw [if_pos c4] at H
  have c4b0 : decide (a1 ≤ a0) = true := decide_eq_true c4
  clear c4
  obtain rfl := Option.some.inj H
  go_enter Try.func45, Try.ntmps45
  go_wp2
  go_ret
  exact ⟨by first | rfl | (simp; done) | (simp [*]; done), by repeat (first | exact Drawn0.refl _ | apply Drawn0.step)⟩
 ·rw [if_neg c4] at H
  have c4b0 : decide (a1 ≤ a0) = false := decide_eq_false c4
  clear c4
  obtain rfl := Option.some.inj H
  go_enter Try.func45, Try.ntmps45
  go_wp2
  go_ret
  exact ⟨by first | rfl | (simp; done) | (simp [*]; done), by repeat (first | exact Drawn0.refl _ | apply Drawn0.step)⟩

/-! ### item_ValidPart: function 30 -/
def item_ValidPart.j0 : Nat → Bool → Int → Int → Int → Int → Int → Int → Option (Bool)
  | 0, _, _, _, _, _, _, _ => none
  | k + 1, x18, x102000, x102001, x102002, x102003, x102004, x102005 => if x18 = true then (some false) else (if x102000 = 1 then (if x102004 = 0 then (some (x102005 == 0)) else (some false)) else (if x102000 = 2 then ((item_in.f x102004 2 5).bind fun t105 => (if t105 = true then ((item_in.f x102005 0 (wrap64 (x102004 - 1))).bind fun t106 => (some t106)) else (some false))) else (some false)))
def item_ValidPart.f (k : Nat) (a0_0 : Int) (a0_1 : Int) (a0_2 : Int) (a0_3 : Int) (a0_4 : Int) (a0_5 : Int) : Option (Bool) := (item_in.f a0_1 1 40).bind fun t102 => (if t102 = true then ((item_in.f a0_2 0 15).bind fun t103 => (if t103 = true then ((item_in.f a0_3 0 5).bind fun t104 => (item_ValidPart.j0 k (!t104) a0_0 a0_1 a0_2 a0_3 a0_4 a0_5)) else (item_ValidPart.j0 k true a0_0 a0_1 a0_2 a0_3 a0_4 a0_5))) else (item_ValidPart.j0 k true a0_0 a0_1 a0_2 a0_3 a0_4 a0_5))
theorem item_ValidPart.mono_l : ∀ k, (∀ y0 y1 y2 y3 y4 y5 y6, LeO (item_ValidPart.j0 k y0 y1 y2 y3 y4 y5 y6) (item_ValidPart.j0 (k + 1) y0 y1 y2 y3 y4 y5 y6))
  | 0 => fun _ _ _ _ _ _ _ r h => by simp [item_ValidPart.j0] at h
  | k + 1 => by
    have ih0 := item_ValidPart.mono_l k
    · intro y0 y1 y2 y3 y4 y5 y6
      unfold item_ValidPart.j0
      repeat' first
      | (with_reducible exact ih0 _ _ _ _ _ _ _)
      | (with_reducible exact LeO.refl _)
      | (with_reducible exact LeO.none _)
      | (with_reducible refine LeO.ite ?_ ?_)
      | (with_reducible refine LeO.bind ?_ (fun _ => ?_))
      | exact ih0 _ _ _ _ _ _ _
      | exact LeO.none _
      | refine LeO.ite ?_ ?_
      | refine LeO.bind ?_ (fun _ => ?_)
theorem item_ValidPart.mono : ∀ a0 a1 a2 a3 a4 a5 k, LeO (item_ValidPart.f k a0 a1 a2 a3 a4 a5) (item_ValidPart.f (k + 1) a0 a1 a2 a3 a4 a5) := by
  intro a0 a1 a2 a3 a4 a5 k
  have ih0 := item_ValidPart.mono_l k
  unfold item_ValidPart.f
  repeat' first
      | (with_reducible exact ih0 _ _ _ _ _ _ _)
      | (with_reducible exact LeO.refl _)
      | (with_reducible exact LeO.none _)
      | (with_reducible refine LeO.ite ?_ ?_)
      | (with_reducible refine LeO.bind ?_ (fun _ => ?_))
      | exact ih0 _ _ _ _ _ _ _
      | exact LeO.none _
      | refine LeO.ite ?_ ?_
      | refine LeO.bind ?_ (fun _ => ?_)
set_option maxHeartbeats 8000000 in
set_option maxRecDepth 100000 in
theorem item_ValidPart.calls (k : Nat) (a0_0 : Int) (a0_1 : Int) (a0_2 : Int) (a0_3 : Int) (a0_4 : Int) (a0_5 : Int) (r : Bool) (w : World) (h : item_ValidPart.f k a0_0 a0_1 a0_2 a0_3 a0_4 a0_5 = some r) :
    Calls Try.prog 30 #[.agg #[.int .i64 a0_0, .int .i64 a0_1, .int .i64 a0_2, .int .i64 a0_3, .int .i64 a0_4, .int .i64 a0_5]] w fun e w' => e = .returned (.bool r) ∧ Below w.heap.size w w' := by
 have hu23 := Try.underlying23
 have HB := za (Below.refl w.heap.size w)
 have H : ((item_in.f a0_1 1 40).bind fun t102 => (if t102 = true then ((item_in.f a0_2 0 15).bind fun t103 => (if t103 = true then ((item_in.f a0_3 0 5).bind fun t104 => (item_ValidPart.j0 k (!t104) a0_0 a0_1 a0_2 a0_3 a0_4 a0_5)) else (item_ValidPart.j0 k true a0_0 a0_1 a0_2 a0_3 a0_4 a0_5))) else (item_ValidPart.j0 k true a0_0 a0_1 a0_2 a0_3 a0_4 a0_5))) = some r := h
 clear h
 have HC2 := za H
 clear H
 go_enter Try.func30, Try.ntmps30
 go_upto_region 1 with (first | ((with_reducible refine gate_dst (N := 1) rfl ?_); refine zE 1 #[.int .i64 a0_0, .int .i64 a0_1, .int .i64 a0_2, .int .i64 a0_3, .int .i64 a0_4, .int .i64 a0_5] 23 ?_; intro gb101 hg w3 hbox hb; have BK101 := za (hbox); have GW101 := zg HB hg; have GE101 := zg HB hg; replace HB := zs HB hb; clear hb hbox hg))
 (try simp only [Act.put, List.setIfInBounds_toArray, List.set_cons_zero, List.set_cons_succ])
 go_cut [18] (fun v18 wc => ∃ (kq : Nat) (x18_1 : Bool), v18 = .bool x18_1 ∧ Aside0 (item_ValidPart.j0 kq x18_1 a0_0 a0_1 a0_2 a0_3 a0_4 a0_5 = some r) ∧ Aside0 (kq ≤ k) ∧ Aside0 (wc.heap[gb101]? = some (.cells #[.int .i64 a0_0, .int .i64 a0_1, .int .i64 a0_2, .int .i64 a0_3, .int .i64 a0_4, .int .i64 a0_5] 23 (0, 0))) ∧ Aside0 (Below w.heap.size w wc))
 case first =>
  have H := HC2.out
  clear HC2
  replace H := Option.bind_eq_some_iff.mp H
  obtain ⟨t102, A40, H⟩ := H
  replace H : (if t102 = true then ((item_in.f a0_2 0 15).bind fun t103 => (if t103 = true then ((item_in.f a0_3 0 5).bind fun t104 => (item_ValidPart.j0 k (!t104) a0_0 a0_1 a0_2 a0_3 a0_4 a0_5)) else (item_ValidPart.j0 k true a0_0 a0_1 a0_2 a0_3 a0_4 a0_5))) else (item_ValidPart.j0 k true a0_0 a0_1 a0_2 a0_3 a0_4 a0_5)) = some r := H
  have A4 := za A40
  clear A40
  by_cases c5 : t102 = true
  ·subst c5
   have H1 : ((item_in.f a0_2 0 15).bind fun t103 => (if t103 = true then ((item_in.f a0_3 0 5).bind fun t104 => (item_ValidPart.j0 k (!t104) a0_0 a0_1 a0_2 a0_3 a0_4 a0_5)) else (item_ValidPart.j0 k true a0_0 a0_1 a0_2 a0_3 a0_4 a0_5))) = some r := by rw [if_pos rfl] at H; exact H
   clear H
   have H := H1
   clear H1
   replace H := Option.bind_eq_some_iff.mp H
   obtain ⟨t103, A60, H⟩ := H
   replace H : (if t103 = true then ((item_in.f a0_3 0 5).bind fun t104 => (item_ValidPart.j0 k (!t104) a0_0 a0_1 a0_2 a0_3 a0_4 a0_5)) else (item_ValidPart.j0 k true a0_0 a0_1 a0_2 a0_3 a0_4 a0_5)) = some r := H
   have A6 := za A60
   clear A60
   by_cases c7 : t103 = true
   ·subst c7
    have H1 : ((item_in.f a0_3 0 5).bind fun t104 => (item_ValidPart.j0 k (!t104) a0_0 a0_1 a0_2 a0_3 a0_4 a0_5)) = some r := by rw [if_pos rfl] at H; exact H
    clear H
    have H := H1
    clear H1
    replace H := Option.bind_eq_some_iff.mp H
    obtain ⟨t104, A80, H⟩ := H
    replace H : (item_ValidPart.j0 k (!t104) a0_0 a0_1 a0_2 a0_3 a0_4 a0_5) = some r := H
    have A8 := za A80
    clear A80
    have H' := za H
    clear H
    obtain ⟨hcz9_0, hcz9_1, hcz9_2, hcz9_3, hcz9_4, hcz9_5, hfz9_0, hfz9_1, hfz9_2, hfz9_3, hfz9_4, hfz9_5⟩ := z6 BK101
    go_wp2_with (first | ((with_reducible refine gate_callee (f := 45) rfl ?_); refine zL (some 5) Try.func45 #[.int .i64 a0_1, .int .i64 1, .int .i64 40] ?_; (with_reducible refine (item_in.calls a0_1 1 40 true _ A4.out).mono ?_); rintro e w' ⟨rfl, ⟨nd, rfl⟩⟩; refine ⟨_, rfl, ?_⟩) | (go_at_call 45; (with_reducible refine (item_in.calls a0_2 0 15 true _ A6.out).mono ?_); rintro e w' ⟨rfl, ⟨nd, rfl⟩⟩) | (go_at_call 45; (with_reducible refine (item_in.calls a0_3 0 5 t104 _ A8.out).mono ?_); rintro e w' ⟨rfl, ⟨nd, rfl⟩⟩))
    go_meet
    case rel => exact ⟨_, (!t104), (by first | rfl | (simp; done) | (simp [*]; done)), H', ⟨by first | omega | exact Nat.le_refl _⟩, ⟨by (with_reducible repeat (first | refine blk_drewN ?_ _ | refine blk_drew ?_ | refine blk_alloc ?_ _)); exact BK101.out⟩, ⟨zm HB⟩⟩
   ·replace c7 := Bool.eq_false_iff.mpr c7
    subst c7
    have H1 : (item_ValidPart.j0 k true a0_0 a0_1 a0_2 a0_3 a0_4 a0_5) = some r := by rw [if_neg (show ¬ (false = true) by decide)] at H; exact H
    clear H
    have H := H1
    clear H1
    have H' := za H
    clear H
    obtain ⟨hcz10_0, hcz10_1, hcz10_2, hcz10_3, hcz10_4, hcz10_5, hfz10_0, hfz10_1, hfz10_2, hfz10_3, hfz10_4, hfz10_5⟩ := z6 BK101
    go_wp2_with (first | ((with_reducible refine gate_callee (f := 45) rfl ?_); refine zL (some 5) Try.func45 #[.int .i64 a0_1, .int .i64 1, .int .i64 40] ?_; (with_reducible refine (item_in.calls a0_1 1 40 true _ A4.out).mono ?_); rintro e w' ⟨rfl, ⟨nd, rfl⟩⟩; refine ⟨_, rfl, ?_⟩) | (go_at_call 45; (with_reducible refine (item_in.calls a0_2 0 15 false _ A6.out).mono ?_); rintro e w' ⟨rfl, ⟨nd, rfl⟩⟩))
    go_meet
    case rel => exact ⟨_, (true), (by first | rfl | (simp; done) | (simp [*]; done)), H', ⟨by first | omega | exact Nat.le_refl _⟩, ⟨by (with_reducible repeat (first | refine blk_drewN ?_ _ | refine blk_drew ?_ | refine blk_alloc ?_ _)); exact BK101.out⟩, ⟨zm HB⟩⟩
  ·replace c5 := Bool.eq_false_iff.mpr c5
   subst c5
   have H1 : (item_ValidPart.j0 k true a0_0 a0_1 a0_2 a0_3 a0_4 a0_5) = some r := by rw [if_neg (show ¬ (false = true) by decide)] at H; exact H
   clear H
   have H := H1
   clear H1
   have H' := za H
   clear H
   obtain ⟨hcz11_0, hcz11_1, hcz11_2, hcz11_3, hcz11_4, hcz11_5, hfz11_0, hfz11_1, hfz11_2, hfz11_3, hfz11_4, hfz11_5⟩ := z6 BK101
   go_wp2_with (first | ((with_reducible refine gate_callee (f := 45) rfl ?_); refine zL (some 5) Try.func45 #[.int .i64 a0_1, .int .i64 1, .int .i64 40] ?_; (with_reducible refine (item_in.calls a0_1 1 40 false _ A4.out).mono ?_); rintro e w' ⟨rfl, ⟨nd, rfl⟩⟩; refine ⟨_, rfl, ?_⟩))
   go_meet
   case rel => exact ⟨_, (true), (by first | rfl | (simp; done) | (simp [*]; done)), H', ⟨by first | omega | exact Nat.le_refl _⟩, ⟨by (with_reducible repeat (first | refine blk_drewN ?_ _ | refine blk_drew ?_ | refine blk_alloc ?_ _)); exact BK101.out⟩, ⟨zm HB⟩⟩
 case rest =>
  clear HC2
  try clear p2
  try clear c3
  try clear c4
  try clear c5
  try clear c7
  try clear hcz10_0
  try clear hcz10_1
  try clear hcz10_2
  try clear hcz10_3
  try clear hcz10_4
  try clear hcz10_5
  try clear hcz11_0
  try clear hcz11_1
  try clear hcz11_2
  try clear hcz11_3
  try clear hcz11_4
  try clear hcz11_5
  try clear hcz9_0
  try clear hcz9_1
  try clear hcz9_2
  try clear hcz9_3
  try clear hcz9_4
  try clear hcz9_5
  try clear hfz10_0
  try clear hfz10_1
  try clear hfz10_2
  try clear hfz10_3
  try clear hfz10_4
  try clear hfz10_5
  try clear hfz11_0
  try clear hfz11_1
  try clear hfz11_2
  try clear hfz11_3
  try clear hfz11_4
  try clear hfz11_5
  try clear hfz9_0
  try clear hfz9_1
  try clear hfz9_2
  try clear hfz9_3
  try clear hfz9_4
  try clear hfz9_5
  obtain ⟨kq, x18_1, rfl, HA, HJ1, BK101, HB⟩ := hcut
  cases kq with
  | zero => exact absurd HA.out (by simp [item_ValidPart.j0])
  | succ kj1 =>
   have H := HA.out
   clear HA
   simp only [item_ValidPart.j0] at H
   by_cases c12 : x18_1 = true
   ·subst c12
    have H1 : (some false) = some r := by rw [if_pos rfl] at H; exact H
    clear H
    have H := H1
    clear H1
    obtain rfl := Option.some.inj H
    go_wp2
    go_ret
    exact ⟨zf, zm HB⟩
   ·replace c12 := Bool.eq_false_iff.mpr c12
    subst c12
    have H1 : (if a0_0 = 1 then (if a0_4 = 0 then (some (a0_5 == 0)) else (some false)) else (if a0_0 = 2 then ((item_in.f a0_4 2 5).bind fun t105 => (if t105 = true then ((item_in.f a0_5 0 (wrap64 (a0_4 - 1))).bind fun t106 => (some t106)) else (some false))) else (some false))) = some r := by rw [if_neg (show ¬ (false = true) by decide)] at H; exact H
    clear H
    have H := H1
    clear H1
    by_cases c13 : a0_0 = 1
    ·rw [if_pos c13] at H
     have c13b0 : (a0_0 == 1) = true := beq_iff_eq.mpr c13
     have c13b1 : (a0_0 != 1) = false := bne_eq_false_iff_eq.mpr c13
     clear c13
     by_cases c14 : a0_4 = 0
     ·rw [if_pos c14] at H
      have c14b0 : (a0_4 == 0) = true := beq_iff_eq.mpr c14
      have c14b1 : (a0_4 != 0) = false := bne_eq_false_iff_eq.mpr c14
      clear c14
      obtain rfl := Option.some.inj H
      obtain ⟨hcz15_0, hcz15_1, hcz15_2, hcz15_3, hcz15_4, hcz15_5, hfz15_0, hfz15_1, hfz15_2, hfz15_3, hfz15_4, hfz15_5⟩ := z6 BK101
      go_wp2
      go_ret
      exact ⟨zf, zm HB⟩
     ·rw [if_neg c14] at H
      have c14b0 : (a0_4 == 0) = false := beq_eq_false_iff_ne.mpr c14
      have c14b1 : (a0_4 != 0) = true := bne_iff_ne.mpr c14
      obtain rfl := Option.some.inj H
      obtain ⟨hcz16_0, hcz16_1, hcz16_2, hcz16_3, hcz16_4, hcz16_5, hfz16_0, hfz16_1, hfz16_2, hfz16_3, hfz16_4, hfz16_5⟩ := z6 BK101
      go_wp2
      go_ret
      exact ⟨zf, zm HB⟩
    ·rw [if_neg c13] at H
     have c13b0 : (a0_0 == 1) = false := beq_eq_false_iff_ne.mpr c13
     have c13b1 : (a0_0 != 1) = true := bne_iff_ne.mpr c13
     by_cases c17 : a0_0 = 2
     ·rw [if_pos c17] at H
      have c17b0 : (a0_0 == 2) = true := beq_iff_eq.mpr c17
      have c17b1 : (a0_0 != 2) = false := bne_eq_false_iff_eq.mpr c17
      clear c17
      replace H := Option.bind_eq_some_iff.mp H
      obtain ⟨t105, A180, H⟩ := H
      replace H : (if t105 = true then ((item_in.f a0_5 0 (wrap64 (a0_4 - 1))).bind fun t106 => (some t106)) else (some false)) = some r := H
      have A18 := za A180
      clear A180
      by_cases c19 : t105 = true
      ·subst c19
       have H1 : ((item_in.f a0_5 0 (wrap64 (a0_4 - 1))).bind fun t106 => (some t106)) = some r := by rw [if_pos rfl] at H; exact H
       clear H
       have H := H1
       clear H1
       replace H := Option.bind_eq_some_iff.mp H
       obtain ⟨t106, A200, H⟩ := H
       replace H : (some t106) = some r := H
       have A20 := za A200
       clear A200
       obtain rfl := Option.some.inj H
       obtain ⟨hcz21_0, hcz21_1, hcz21_2, hcz21_3, hcz21_4, hcz21_5, hfz21_0, hfz21_1, hfz21_2, hfz21_3, hfz21_4, hfz21_5⟩ := z6 BK101
       go_wp2_with (first | ((with_reducible refine gate_callee (f := 45) rfl ?_); refine zL (some 35) Try.func45 #[.int .i64 a0_4, .int .i64 2, .int .i64 5] ?_; (with_reducible refine (item_in.calls a0_4 2 5 true _ A18.out).mono ?_); rintro e w' ⟨rfl, ⟨nd, rfl⟩⟩; refine ⟨_, rfl, ?_⟩) | (go_at_call 45; (with_reducible refine (item_in.calls a0_5 0 (wrap64 (a0_4 - 1)) t106 _ A20.out).mono ?_); rintro e w' ⟨rfl, ⟨nd, rfl⟩⟩))
       go_ret
       exact ⟨zf, zm HB⟩
      ·replace c19 := Bool.eq_false_iff.mpr c19
       subst c19
       have H1 : (some false) = some r := by rw [if_neg (show ¬ (false = true) by decide)] at H; exact H
       clear H
       have H := H1
       clear H1
       obtain rfl := Option.some.inj H
       obtain ⟨hcz22_0, hcz22_1, hcz22_2, hcz22_3, hcz22_4, hcz22_5, hfz22_0, hfz22_1, hfz22_2, hfz22_3, hfz22_4, hfz22_5⟩ := z6 BK101
       go_wp2_with (first | ((with_reducible refine gate_callee (f := 45) rfl ?_); refine zL (some 35) Try.func45 #[.int .i64 a0_4, .int .i64 2, .int .i64 5] ?_; (with_reducible refine (item_in.calls a0_4 2 5 false _ A18.out).mono ?_); rintro e w' ⟨rfl, ⟨nd, rfl⟩⟩; refine ⟨_, rfl, ?_⟩))
       go_ret
       exact ⟨zf, zm HB⟩
     ·rw [if_neg c17] at H
      have c17b0 : (a0_0 == 2) = false := beq_eq_false_iff_ne.mpr c17
      have c17b1 : (a0_0 != 2) = true := bne_iff_ne.mpr c17
      obtain rfl := Option.some.inj H
      obtain ⟨hcz23_0, hcz23_1, hcz23_2, hcz23_3, hcz23_4, hcz23_5, hfz23_0, hfz23_1, hfz23_2, hfz23_3, hfz23_4, hfz23_5⟩ := z6 BK101
      go_wp2
      go_ret
      exact ⟨zf, zm HB⟩

/-! ### booklet_Need: function 12 -/
def booklet_Need.f (k : Nat) (a0_0 : Int) (a0_1 : Int) (a0_2 : Int) (a0_3 : Int) (a0_4 : Int) (a0_5 : Int) : Option (Int) := (item_ValidPart.f k a0_0 a0_1 a0_2 a0_3 a0_4 a0_5).bind fun t108 => (if t108 = true then (if a0_0 = 2 then (some (wrap64 (2 + a0_4))) else (some (mn (wrap64 (2 + a0_1)) 30))) else (some 0))
theorem booklet_Need.mono : ∀ a0 a1 a2 a3 a4 a5 k, LeO (booklet_Need.f k a0 a1 a2 a3 a4 a5) (booklet_Need.f (k + 1) a0 a1 a2 a3 a4 a5) := by
  intro a0 a1 a2 a3 a4 a5 k
  unfold booklet_Need.f
  repeat' first
      | (with_reducible exact item_ValidPart.mono _ _ _ _ _ _ _)
      | (with_reducible exact LeO.refl _)
      | (with_reducible exact LeO.none _)
      | (with_reducible refine LeO.ite ?_ ?_)
      | (with_reducible refine LeO.bind ?_ (fun _ => ?_))
      | exact item_ValidPart.mono _ _ _ _ _ _ _
      | exact LeO.none _
      | refine LeO.ite ?_ ?_
      | refine LeO.bind ?_ (fun _ => ?_)
set_option maxHeartbeats 8000000 in
set_option maxRecDepth 100000 in
theorem booklet_Need.calls (k : Nat) (a0_0 : Int) (a0_1 : Int) (a0_2 : Int) (a0_3 : Int) (a0_4 : Int) (a0_5 : Int) (r : Int) (w : World) (h : booklet_Need.f k a0_0 a0_1 a0_2 a0_3 a0_4 a0_5 = some r) :
    Calls Try.prog 12 #[.agg #[.int .i64 a0_0, .int .i64 a0_1, .int .i64 a0_2, .int .i64 a0_3, .int .i64 a0_4, .int .i64 a0_5]] w fun e w' => e = .returned (.int .i64 r) ∧ Below w.heap.size w w' := by
 have hu23 := Try.underlying23
 have HB := za (Below.refl w.heap.size w)
 have H : ((item_ValidPart.f k a0_0 a0_1 a0_2 a0_3 a0_4 a0_5).bind fun t108 => (if t108 = true then (if a0_0 = 2 then (some (wrap64 (2 + a0_4))) else (some (mn (wrap64 (2 + a0_1)) 30))) else (some 0))) = some r := h
 clear h
 replace H := Option.bind_eq_some_iff.mp H
 obtain ⟨t108, A20, H⟩ := H
 replace H : (if t108 = true then (if a0_0 = 2 then (some (wrap64 (2 + a0_4))) else (some (mn (wrap64 (2 + a0_1)) 30))) else (some 0)) = some r := H
 have A2 := za A20
 clear A20
 by_cases c3 : t108 = true
 ·subst c3
  have H1 : (if a0_0 = 2 then (some (wrap64 (2 + a0_4))) else (some (mn (wrap64 (2 + a0_1)) 30))) = some r := by rw [if_pos rfl] at H; exact H
  clear H
  have H := H1
  clear H1
  by_cases c4 : a0_0 = 2
  ·rw [if_pos c4] at H
   have c4b0 : (a0_0 == 2) = true := beq_iff_eq.mpr c4
   have c4b1 : (a0_0 != 2) = false := bne_eq_false_iff_eq.mpr c4
   clear c4
   obtain rfl := Option.some.inj H
   go_enter Try.func12, Try.ntmps12
   go_wp2_with (first | ((with_reducible refine gate_dst (N := 1) rfl ?_); refine zE 1 #[.int .i64 a0_0, .int .i64 a0_1, .int .i64 a0_2, .int .i64 a0_3, .int .i64 a0_4, .int .i64 a0_5] 23 ?_; intro gb107 hg w5 hbox hb; have BK107 := za (hbox); have GW107 := zg HB hg; have GE107 := zg HB hg; replace HB := zs HB hb; clear hb hbox hg; obtain ⟨hcz6_0, hcz6_1, hcz6_2, hcz6_3, hcz6_4, hcz6_5, hfz6_0, hfz6_1, hfz6_2, hfz6_3, hfz6_4, hfz6_5⟩ := z6 BK107) | ((with_reducible refine gate_callee (f := 30) rfl ?_); refine zL (some 5) Try.func30 #[.agg #[.int .i64 a0_0, .int .i64 a0_1, .int .i64 a0_2, .int .i64 a0_3, .int .i64 a0_4, .int .i64 a0_5]] ?_; (with_reducible refine (item_ValidPart.calls k a0_0 a0_1 a0_2 a0_3 a0_4 a0_5 true _ A2.out).mono ?_); rintro e w7 ⟨rfl, hb⟩; refine ⟨_, rfl, ?_⟩; replace BK107 := zb BK107 hb; replace HB := zs HB hb; (try clear hb); (try clear hb2); (try clear hk); (try clear hi); obtain ⟨hcz8_0, hcz8_1, hcz8_2, hcz8_3, hcz8_4, hcz8_5, hfz8_0, hfz8_1, hfz8_2, hfz8_3, hfz8_4, hfz8_5⟩ := z6 BK107))
   go_ret
   exact ⟨zf, zm HB⟩
  ·rw [if_neg c4] at H
   have c4b0 : (a0_0 == 2) = false := beq_eq_false_iff_ne.mpr c4
   have c4b1 : (a0_0 != 2) = true := bne_iff_ne.mpr c4
   obtain ⟨ji9, hji9⟩ : ∃ j_ : Int, (mn (wrap64 (2 + a0_1)) 30) = j_ := ⟨_, rfl⟩
   replace H : (some ji9) = some r := by first | (rw [hji9] at H; exact H) | (simp only [hji9] at H ⊢; exact H)
   (try rw [hji9] at A2)
   (try (have hji9h : ji9 ≤ 30 := by (rw [← hji9]; unfold mn; (repeat' split) <;> omega)))
   (try (have hji9g : ji9 ≤ 64 := by omega))
   have hji9_ : (if 30 < (wrap64 (2 + a0_1)) then 30 else (wrap64 (2 + a0_1))) = ji9 := hji9
   obtain rfl := Option.some.inj H
   go_enter Try.func12, Try.ntmps12
   go_wp2_with (first | ((with_reducible refine gate_dst (N := 1) rfl ?_); refine zE 1 #[.int .i64 a0_0, .int .i64 a0_1, .int .i64 a0_2, .int .i64 a0_3, .int .i64 a0_4, .int .i64 a0_5] 23 ?_; intro gb107 hg w10 hbox hb; have BK107 := za (hbox); have GW107 := zg HB hg; have GE107 := zg HB hg; replace HB := zs HB hb; clear hb hbox hg; obtain ⟨hcz11_0, hcz11_1, hcz11_2, hcz11_3, hcz11_4, hcz11_5, hfz11_0, hfz11_1, hfz11_2, hfz11_3, hfz11_4, hfz11_5⟩ := z6 BK107) | ((with_reducible refine gate_callee (f := 30) rfl ?_); refine zL (some 5) Try.func30 #[.agg #[.int .i64 a0_0, .int .i64 a0_1, .int .i64 a0_2, .int .i64 a0_3, .int .i64 a0_4, .int .i64 a0_5]] ?_; (with_reducible refine (item_ValidPart.calls k a0_0 a0_1 a0_2 a0_3 a0_4 a0_5 true _ A2.out).mono ?_); rintro e w12 ⟨rfl, hb⟩; refine ⟨_, rfl, ?_⟩; replace BK107 := zb BK107 hb; replace HB := zs HB hb; (try clear hb); (try clear hb2); (try clear hk); (try clear hi); obtain ⟨hcz13_0, hcz13_1, hcz13_2, hcz13_3, hcz13_4, hcz13_5, hfz13_0, hfz13_1, hfz13_2, hfz13_3, hfz13_4, hfz13_5⟩ := z6 BK107))
   go_ret
   exact ⟨by first | rfl | (simp [errW_none, errW_some] <;> rfl) | (simp only [← hji9]; first | rfl | (simp [errW_none, errW_some] <;> rfl)) | (simp [*, errW_none, errW_some] <;> rfl), zm HB⟩
 ·replace c3 := Bool.eq_false_iff.mpr c3
  subst c3
  have H1 : (some 0) = some r := by rw [if_neg (show ¬ (false = true) by decide)] at H; exact H
  clear H
  have H := H1
  clear H1
  obtain rfl := Option.some.inj H
  go_enter Try.func12, Try.ntmps12
  go_wp2_with (first | ((with_reducible refine gate_dst (N := 1) rfl ?_); refine zE 1 #[.int .i64 a0_0, .int .i64 a0_1, .int .i64 a0_2, .int .i64 a0_3, .int .i64 a0_4, .int .i64 a0_5] 23 ?_; intro gb107 hg w14 hbox hb; have BK107 := za (hbox); have GW107 := zg HB hg; have GE107 := zg HB hg; replace HB := zs HB hb; clear hb hbox hg; obtain ⟨hcz15_0, hcz15_1, hcz15_2, hcz15_3, hcz15_4, hcz15_5, hfz15_0, hfz15_1, hfz15_2, hfz15_3, hfz15_4, hfz15_5⟩ := z6 BK107) | ((with_reducible refine gate_callee (f := 30) rfl ?_); refine zL (some 5) Try.func30 #[.agg #[.int .i64 a0_0, .int .i64 a0_1, .int .i64 a0_2, .int .i64 a0_3, .int .i64 a0_4, .int .i64 a0_5]] ?_; (with_reducible refine (item_ValidPart.calls k a0_0 a0_1 a0_2 a0_3 a0_4 a0_5 false _ A2.out).mono ?_); rintro e w16 ⟨rfl, hb⟩; refine ⟨_, rfl, ?_⟩; replace BK107 := zb BK107 hb; replace HB := zs HB hb; (try clear hb); (try clear hb2); (try clear hk); (try clear hi)))
  go_ret
  exact ⟨zf, zm HB⟩

-- NOT PRINTED: function 51 (api_Part_51)

-- NOT PRINTED: function 47 (api_Part_47)

/-! ### item_bad: function 48 -/
def item_bad.f (k : Nat) (a0_0 : Int) (a0_1 : Int) (a0_2 : Int) (a0_3 : Int) (a0_4 : Int) (a0_5 : Int) : Option (Bool) := (item_ValidPart.f k a0_0 a0_1 a0_2 a0_3 a0_4 a0_5).bind fun t110 => (some (!t110))
theorem item_bad.mono : ∀ a0 a1 a2 a3 a4 a5 k, LeO (item_bad.f k a0 a1 a2 a3 a4 a5) (item_bad.f (k + 1) a0 a1 a2 a3 a4 a5) := by
  intro a0 a1 a2 a3 a4 a5 k
  unfold item_bad.f
  repeat' first
      | (with_reducible exact item_ValidPart.mono _ _ _ _ _ _ _)
      | (with_reducible exact LeO.refl _)
      | (with_reducible exact LeO.none _)
      | (with_reducible refine LeO.ite ?_ ?_)
      | (with_reducible refine LeO.bind ?_ (fun _ => ?_))
      | exact item_ValidPart.mono _ _ _ _ _ _ _
      | exact LeO.none _
      | refine LeO.ite ?_ ?_
      | refine LeO.bind ?_ (fun _ => ?_)
set_option maxHeartbeats 8000000 in
set_option maxRecDepth 100000 in
theorem item_bad.calls (k : Nat) (a0_0 : Int) (a0_1 : Int) (a0_2 : Int) (a0_3 : Int) (a0_4 : Int) (a0_5 : Int) (r : Bool) (w : World) (h : item_bad.f k a0_0 a0_1 a0_2 a0_3 a0_4 a0_5 = some r) :
    Calls Try.prog 48 #[.agg #[.int .i64 a0_0, .int .i64 a0_1, .int .i64 a0_2, .int .i64 a0_3, .int .i64 a0_4, .int .i64 a0_5]] w fun e w' => e = .returned (.bool r) ∧ Below w.heap.size w w' := by
 have hu23 := Try.underlying23
 have HB := za (Below.refl w.heap.size w)
 have H : ((item_ValidPart.f k a0_0 a0_1 a0_2 a0_3 a0_4 a0_5).bind fun t110 => (some (!t110))) = some r := h
 clear h
 replace H := Option.bind_eq_some_iff.mp H
 obtain ⟨t110, A20, H⟩ := H
 replace H : (some (!t110)) = some r := H
 have A2 := za A20
 clear A20
 obtain rfl := Option.some.inj H
 go_enter Try.func48, Try.ntmps48
 go_wp2_with (first | ((with_reducible refine gate_dst (N := 1) rfl ?_); refine zE 1 #[.int .i64 a0_0, .int .i64 a0_1, .int .i64 a0_2, .int .i64 a0_3, .int .i64 a0_4, .int .i64 a0_5] 23 ?_; intro gb109 hg w3 hbox hb; have BK109 := za (hbox); have GW109 := zg HB hg; have GE109 := zg HB hg; replace HB := zs HB hb; clear hb hbox hg; obtain ⟨hcz4_0, hcz4_1, hcz4_2, hcz4_3, hcz4_4, hcz4_5, hfz4_0, hfz4_1, hfz4_2, hfz4_3, hfz4_4, hfz4_5⟩ := z6 BK109) | ((with_reducible refine gate_callee (f := 30) rfl ?_); refine zL (some 4) Try.func30 #[.agg #[.int .i64 a0_0, .int .i64 a0_1, .int .i64 a0_2, .int .i64 a0_3, .int .i64 a0_4, .int .i64 a0_5]] ?_; (with_reducible refine (item_ValidPart.calls k a0_0 a0_1 a0_2 a0_3 a0_4 a0_5 t110 _ A2.out).mono ?_); rintro e w5 ⟨rfl, hb⟩; refine ⟨_, rfl, ?_⟩; replace BK109 := zb BK109 hb; replace HB := zs HB hb; (try clear hb); (try clear hb2); (try clear hk); (try clear hi)))
 go_ret
 exact ⟨zf, zm HB⟩

/-! ### item_sum: function 49 -/
def item_sum.l0 : Nat → Int → List (S23) → Int → Int → Option (Int)
  | 0, _, _, _, _ => none
  | k + 1, x3, x6, x7, x8 => if x8 < x7 then (if 0 ≤ x8 then (if x8 < (x6.length : Int) then (item_sum.l0 k (wrap64 (x3 + ((rd_T23 x6 x8).f1))) x6 x7 (wrap64 (x8 + 1))) else (none)) else (none)) else (some x3)
def item_sum.f (k : Nat) (l0 : List (S23)) : Option (Int) := item_sum.l0 k 0 l0 (l0.length : Int) 0
theorem item_sum.mono_l : ∀ k, (∀ y0 y1 y2 y3, LeO (item_sum.l0 k y0 y1 y2 y3) (item_sum.l0 (k + 1) y0 y1 y2 y3))
  | 0 => fun _ _ _ _ r h => by simp [item_sum.l0] at h
  | k + 1 => by
    have ih0 := item_sum.mono_l k
    · intro y0 y1 y2 y3
      unfold item_sum.l0
      repeat' first
      | (with_reducible exact ih0 _ _ _ _)
      | (with_reducible exact LeO.refl _)
      | (with_reducible exact LeO.none _)
      | (with_reducible refine LeO.ite ?_ ?_)
      | (with_reducible refine LeO.bind ?_ (fun _ => ?_))
      | exact ih0 _ _ _ _
      | exact LeO.none _
      | refine LeO.ite ?_ ?_
      | refine LeO.bind ?_ (fun _ => ?_)
theorem item_sum.mono : ∀ a0 k, LeO (item_sum.f k a0) (item_sum.f (k + 1) a0) := by
  intro a0 k
  have ih0 := item_sum.mono_l k
  unfold item_sum.f
  repeat' first
      | (with_reducible exact ih0 _ _ _ _)
      | (with_reducible exact LeO.refl _)
      | (with_reducible exact LeO.none _)
      | (with_reducible refine LeO.ite ?_ ?_)
      | (with_reducible refine LeO.bind ?_ (fun _ => ?_))
      | exact ih0 _ _ _ _
      | exact LeO.none _
      | refine LeO.ite ?_ ?_
      | refine LeO.bind ?_ (fun _ => ?_)
set_option maxHeartbeats 8000000 in
set_option maxRecDepth 100000 in
theorem item_sum.calls (k : Nat) (A0 : Option Addr) (c0 : Nat) (l0 : List (S23)) (r : Int) (w : World) (hr0 : Kd.C k23 w A0 l0.length l0) (hc0 : l0.length ≤ c0) (h : item_sum.f k l0 = some r) :
    Calls Try.prog 49 #[.slice A0 l0.length c0] w fun e w' => e = .returned (.int .i64 r) ∧ Below w.heap.size w w' := by
 have hu23 := Try.underlying23
 have HR0 := za hr0
 have HC0 := za hc0
 clear hr0 hc0
 have HB := za (Below.refl w.heap.size w)
 have H : (item_sum.l0 k 0 l0 (l0.length : Int) 0) = some r := h
 clear h
 have H' := za H
 clear H
 go_enter Try.func49, Try.ntmps49
 go_wp2
 go_loopg [3, 8] k (fun kq v3 v8 w' => ∃ (x3_1 : Int) (x8_1 : Int), v3 = .int .i64 x3_1 ∧ v8 = .int .i64 x8_1 ∧ Aside0 (item_sum.l0 kq x3_1 l0 (l0.length : Int) x8_1 = some r) ∧ Aside0 (kq ≤ k) ∧ Aside0 (Below w.heap.size w w'))
 case atStart => exact ⟨(0), (0), (by first | rfl | (simp; done) | (simp [*]; done)), (by first | rfl | (simp; done) | (simp [*]; done)), H', ⟨Nat.le_refl _⟩, ⟨zm HB⟩⟩
 case round =>
  clear H'
  obtain ⟨x3_1, x8_1, rfl, rfl, HA, HK1, HB⟩ := hrel
  cases gk with
  | zero => exact absurd HA.out (by simp [item_sum.l0])
  | succ k1 =>
   have H := HA.out
   clear HA
   simp only [item_sum.l0] at H
   by_cases c2 : x8_1 < (l0.length : Int)
   ·rw [if_pos c2] at H
    have c2b0 : decide (x8_1 < (l0.length : Int)) = true := decide_eq_true c2
    clear c2
    by_cases c3 : 0 ≤ x8_1
    ·rw [if_pos c3] at H
     have c3b0 : decide (0 ≤ x8_1) = true := decide_eq_true c3
     clear c3
     by_cases c4 : x8_1 < (l0.length : Int)
     ·rw [if_pos c4] at H
      have c4b0 : decide (x8_1 < (l0.length : Int)) = true := decide_eq_true c4
      clear c4
      have H' := za H
      clear H
      have p111 : 0 ≤ (x8_1 : Int) := of_decide_eq_true (by first | (with_reducible assumption) | assumption)
      have q111 : x8_1 < (l0.length : Int) := of_decide_eq_true (by first | (with_reducible assumption) | assumption)
      obtain ⟨ad111, e111, hx111_0, hx111_1, hx111_2, hx111_3, hx111_4, hx111_5⟩ := at_T23 HR0.out x8_1 p111 q111
      cases e111
      replace hx111_0 := zx HB hx111_0
      replace hx111_1 := zx HB hx111_1
      replace hx111_2 := zx HB hx111_2
      replace hx111_3 := zx HB hx111_3
      replace hx111_4 := zx HB hx111_4
      replace hx111_5 := zx HB hx111_5
      replace p111 := eq_true p111
      replace q111 := eq_true q111
      go_wp2_with (first | ((with_reducible refine gate_dst (N := 5) rfl ?_); refine zE 5 #[.int .i64 0, .int .i64 0, .int .i64 0, .int .i64 0, .int .i64 0, .int .i64 0] 23 ?_; intro gb112 hg w5 hbox hb; have BK112 := za (hbox); have GW112 := zg HB hg; have GE112 := zg HB hg; replace HB := zs HB hb; clear hb hbox hg; obtain ⟨hcz6_0, hcz6_1, hcz6_2, hcz6_3, hcz6_4, hcz6_5, hfz6_0, hfz6_1, hfz6_2, hfz6_3, hfz6_4, hfz6_5⟩ := z6 BK112))
      go_roundg k1
      case measure => have := HK1.out; omega
      case rel => exact ⟨(wrap64 (x3_1 + ((rd_T23 l0 x8_1).f1))), (wrap64 (x8_1 + 1)), (by first | rfl | (simp; done) | (simp [*]; done)), (by first | rfl | (simp; done) | (simp [*]; done)), H', ⟨by have := HK1.out; omega⟩, ⟨zm HB⟩⟩
     ·rw [if_neg c4] at H
      exact absurd H (by simp)
    ·rw [if_neg c3] at H
     exact absurd H (by simp)
   ·rw [if_neg c2] at H
    have c2b0 : decide (x8_1 < (l0.length : Int)) = false := decide_eq_false c2
    clear c2
    obtain rfl := Option.some.inj H
    go_wp2
    go_ret
    exact ⟨zf, zm HB⟩

/-! ### api_Part_bad_s51: function 51 -/
def api_Part_bad_s51.l0 : Nat → List (S23) → Int → Int → Option (Int)
  | 0, _, _, _ => none
  | k + 1, x0, x7, x8 => if x8 < x7 then (if 0 ≤ x8 then (if x8 < (x0.length : Int) then ((item_bad.f k ((rd_T23 x0 x8).f0) ((rd_T23 x0 x8).f1) ((rd_T23 x0 x8).f2) ((rd_T23 x0 x8).f3) ((rd_T23 x0 x8).f4) ((rd_T23 x0 x8).f5)).bind fun t114 => (if t114 = true then (some x8) else (api_Part_bad_s51.l0 k x0 x7 (wrap64 (x8 + 1))))) else (none)) else (none)) else (some (-1))
def api_Part_bad_s51.f (k : Nat) (l0 : List (S23))  : Option (Int) := api_Part_bad_s51.l0 k l0 (l0.length : Int) 0
theorem api_Part_bad_s51.mono_l : ∀ k, (∀ y0 y1 y2, LeO (api_Part_bad_s51.l0 k y0 y1 y2) (api_Part_bad_s51.l0 (k + 1) y0 y1 y2))
  | 0 => fun _ _ _ r h => by simp [api_Part_bad_s51.l0] at h
  | k + 1 => by
    have ih0 := api_Part_bad_s51.mono_l k
    · intro y0 y1 y2
      unfold api_Part_bad_s51.l0
      repeat' first
      | (with_reducible exact ih0 _ _ _)
      | (with_reducible exact item_bad.mono _ _ _ _ _ _ _)
      | (with_reducible exact LeO.refl _)
      | (with_reducible exact LeO.none _)
      | (with_reducible refine LeO.ite ?_ ?_)
      | (with_reducible refine LeO.bind ?_ (fun _ => ?_))
      | exact ih0 _ _ _
      | exact item_bad.mono _ _ _ _ _ _ _
      | exact LeO.none _
      | refine LeO.ite ?_ ?_
      | refine LeO.bind ?_ (fun _ => ?_)
theorem api_Part_bad_s51.mono : ∀ a0 k, LeO (api_Part_bad_s51.f k a0) (api_Part_bad_s51.f (k + 1) a0) := by
  intro a0 k
  have ih0 := api_Part_bad_s51.mono_l k
  unfold api_Part_bad_s51.f
  repeat' first
      | (with_reducible exact ih0 _ _ _)
      | (with_reducible exact item_bad.mono _ _ _ _ _ _ _)
      | (with_reducible exact LeO.refl _)
      | (with_reducible exact LeO.none _)
      | (with_reducible refine LeO.ite ?_ ?_)
      | (with_reducible refine LeO.bind ?_ (fun _ => ?_))
      | exact ih0 _ _ _
      | exact item_bad.mono _ _ _ _ _ _ _
      | exact LeO.none _
      | refine LeO.ite ?_ ?_
      | refine LeO.bind ?_ (fun _ => ?_)
set_option maxHeartbeats 8000000 in
set_option maxRecDepth 100000 in
theorem api_Part_bad_s51.calls (k : Nat) (A0 : Option Addr) (c0 : Nat) (l0 : List (S23))  (r : Int) (w : World) (hr0 : Kd.C k23 w A0 l0.length l0) (hc0 : l0.length ≤ c0) (h : api_Part_bad_s51.f k l0 = some r) :
    Calls Try.prog 51 #[.slice A0 l0.length c0, .func (.func 48) #[] #[]] w fun e w' => e = .returned (.int .i64 r) ∧ Below w.heap.size w w' := by
 have hu23 := Try.underlying23
 have HR0 := za hr0
 have HC0 := za hc0
 clear hr0 hc0
 have HB := za (Below.refl w.heap.size w)
 have H : (api_Part_bad_s51.l0 k l0 (l0.length : Int) 0) = some r := h
 clear h
 have H' := za H
 clear H
 go_enter Try.func51, Try.ntmps51
 go_wp2
 go_loopg [8] k (fun kq v8 w' => ∃ (x8_1 : Int), v8 = .int .i64 x8_1 ∧ Aside0 (api_Part_bad_s51.l0 kq l0 (l0.length : Int) x8_1 = some r) ∧ Aside0 (kq ≤ k) ∧ Aside0 (Below w.heap.size w w'))
 case atStart => exact ⟨(0), (by first | rfl | (simp; done) | (simp [*]; done)), H', ⟨Nat.le_refl _⟩, ⟨zm HB⟩⟩
 case round =>
  clear H'
  try clear p2
  obtain ⟨x8_1, rfl, HA, HK1, HB⟩ := hrel
  cases gk with
  | zero => exact absurd HA.out (by simp [api_Part_bad_s51.l0])
  | succ k1 =>
   have H := HA.out
   clear HA
   simp only [api_Part_bad_s51.l0] at H
   by_cases c3 : x8_1 < (l0.length : Int)
   ·rw [if_pos c3] at H
    have c3b0 : decide (x8_1 < (l0.length : Int)) = true := decide_eq_true c3
    clear c3
    by_cases c4 : 0 ≤ x8_1
    ·rw [if_pos c4] at H
     have c4b0 : decide (0 ≤ x8_1) = true := decide_eq_true c4
     clear c4
     by_cases c5 : x8_1 < (l0.length : Int)
     ·rw [if_pos c5] at H
      have c5b0 : decide (x8_1 < (l0.length : Int)) = true := decide_eq_true c5
      clear c5
      replace H := Option.bind_eq_some_iff.mp H
      obtain ⟨t114, A60, H⟩ := H
      replace H : (if t114 = true then (some x8_1) else (api_Part_bad_s51.l0 k1 l0 (l0.length : Int) (wrap64 (x8_1 + 1)))) = some r := H
      have A6 := za A60
      clear A60
      by_cases c7 : t114 = true
      ·subst c7
       have H1 : (some x8_1) = some r := by rw [if_pos rfl] at H; exact H
       clear H
       have H := H1
       clear H1
       obtain rfl := Option.some.inj H
       have p113 : 0 ≤ (x8_1 : Int) := of_decide_eq_true (by first | (with_reducible assumption) | assumption)
       have q113 : x8_1 < (l0.length : Int) := of_decide_eq_true (by first | (with_reducible assumption) | assumption)
       obtain ⟨ad113, e113, hx113_0, hx113_1, hx113_2, hx113_3, hx113_4, hx113_5⟩ := at_T23 HR0.out x8_1 p113 q113
       cases e113
       replace hx113_0 := zx HB hx113_0
       replace hx113_1 := zx HB hx113_1
       replace hx113_2 := zx HB hx113_2
       replace hx113_3 := zx HB hx113_3
       replace hx113_4 := zx HB hx113_4
       replace hx113_5 := zx HB hx113_5
       replace p113 := eq_true p113
       replace q113 := eq_true q113
       go_wp2_with (first | (go_at_call 48; (with_reducible refine (item_bad.calls k1 ((rd_T23 l0 x8_1).f0) ((rd_T23 l0 x8_1).f1) ((rd_T23 l0 x8_1).f2) ((rd_T23 l0 x8_1).f3) ((rd_T23 l0 x8_1).f4) ((rd_T23 l0 x8_1).f5) true _ A6.out).mono ?_); rintro e w8 ⟨rfl, hb⟩; replace HB := zs HB hb; (try clear hb); (try clear hb2); (try clear hk); (try clear hi)))
       go_ret
       exact ⟨zf, zm HB⟩
      ·replace c7 := Bool.eq_false_iff.mpr c7
       subst c7
       have H1 : (api_Part_bad_s51.l0 k1 l0 (l0.length : Int) (wrap64 (x8_1 + 1))) = some r := by rw [if_neg (show ¬ (false = true) by decide)] at H; exact H
       clear H
       have H := H1
       clear H1
       have H' := za H
       clear H
       have p113 : 0 ≤ (x8_1 : Int) := of_decide_eq_true (by first | (with_reducible assumption) | assumption)
       have q113 : x8_1 < (l0.length : Int) := of_decide_eq_true (by first | (with_reducible assumption) | assumption)
       obtain ⟨ad113, e113, hx113_0, hx113_1, hx113_2, hx113_3, hx113_4, hx113_5⟩ := at_T23 HR0.out x8_1 p113 q113
       cases e113
       replace hx113_0 := zx HB hx113_0
       replace hx113_1 := zx HB hx113_1
       replace hx113_2 := zx HB hx113_2
       replace hx113_3 := zx HB hx113_3
       replace hx113_4 := zx HB hx113_4
       replace hx113_5 := zx HB hx113_5
       replace p113 := eq_true p113
       replace q113 := eq_true q113
       go_wp2_with (first | (go_at_call 48; (with_reducible refine (item_bad.calls k1 ((rd_T23 l0 x8_1).f0) ((rd_T23 l0 x8_1).f1) ((rd_T23 l0 x8_1).f2) ((rd_T23 l0 x8_1).f3) ((rd_T23 l0 x8_1).f4) ((rd_T23 l0 x8_1).f5) false _ A6.out).mono ?_); rintro e w9 ⟨rfl, hb⟩; replace HB := zs HB hb; (try clear hb); (try clear hb2); (try clear hk); (try clear hi)))
       go_roundg k1
       case measure => have := HK1.out; omega
       case rel => exact ⟨(wrap64 (x8_1 + 1)), (by first | rfl | (simp; done) | (simp [*]; done)), H', ⟨by have := HK1.out; omega⟩, ⟨zm HB⟩⟩
     ·rw [if_neg c5] at H
      exact absurd H (by simp)
    ·rw [if_neg c4] at H
     exact absurd H (by simp)
   ·rw [if_neg c3] at H
    have c3b0 : decide (x8_1 < (l0.length : Int)) = false := decide_eq_false c3
    clear c3
    obtain rfl := Option.some.inj H
    go_wp2
    go_ret
    exact ⟨zf, zm HB⟩

/-! ### api_Part_bad_s47: function 47 -/
def api_Part_bad_s47.f (k : Nat) (l0 : List (S23))  : Option (Bool) := (api_Part_bad_s51.f k l0).bind fun t115 => (some (decide (t115 ≥ 0)))
theorem api_Part_bad_s47.mono : ∀ a0 k, LeO (api_Part_bad_s47.f k a0) (api_Part_bad_s47.f (k + 1) a0) := by
  intro a0 k
  unfold api_Part_bad_s47.f
  repeat' first
      | (with_reducible exact api_Part_bad_s51.mono _ _)
      | (with_reducible exact LeO.refl _)
      | (with_reducible exact LeO.none _)
      | (with_reducible refine LeO.ite ?_ ?_)
      | (with_reducible refine LeO.bind ?_ (fun _ => ?_))
      | exact api_Part_bad_s51.mono _ _
      | exact LeO.none _
      | refine LeO.ite ?_ ?_
      | refine LeO.bind ?_ (fun _ => ?_)
set_option maxHeartbeats 8000000 in
set_option maxRecDepth 100000 in
theorem api_Part_bad_s47.calls (k : Nat) (A0 : Option Addr) (c0 : Nat) (l0 : List (S23))  (r : Bool) (w : World) (hr0 : Kd.C k23 w A0 l0.length l0) (hc0 : l0.length ≤ c0) (h : api_Part_bad_s47.f k l0 = some r) :
    Calls Try.prog 47 #[.slice A0 l0.length c0, .func (.func 48) #[] #[]] w fun e w' => e = .returned (.bool r) ∧ Below w.heap.size w w' := by
 have HR0 := za hr0
 have HC0 := za hc0
 clear hr0 hc0
 have HB := za (Below.refl w.heap.size w)
 have H : ((api_Part_bad_s51.f k l0).bind fun t115 => (some (decide (t115 ≥ 0)))) = some r := h
 clear h
 replace H := Option.bind_eq_some_iff.mp H
 obtain ⟨t115, A30, H⟩ := H
 replace H : (some (decide (t115 ≥ 0))) = some r := H
 have A3 := za A30
 clear A30
 obtain rfl := Option.some.inj H
 go_enter Try.func47, Try.ntmps47
 go_wp2_with (first | (go_at_call 51; (with_reducible refine (api_Part_bad_s51.calls k _ _ l0 t115 _ ?side1 ?side2 A3.out).mono ?_); (case side1 => repeat (first | exact HR0.out | (with_reducible refine Kd.C_alloc ?_ _) | (with_reducible refine Kd.C_drewN ?_ _) | (with_reducible refine Kd.C_drew ?_))); (case side2 => exact HC0.out); rintro e w4 ⟨rfl, hb⟩; replace HB := zs HB hb; (try clear hb); (try clear hb2); (try clear hk); (try clear hi)))
 go_ret
 exact ⟨zf, zm HB⟩

/-! ### item_ValidPaper: function 39 -/
def item_ValidPaper.f (k : Nat) (a0_0 : Int) (a0_1 : Int) (l0_2 : List (S23)) : Option (Bool) := (item_in.f a0_0 0 31).bind fun t117 => (if t117 = true then ((item_in.f a0_1 0 3).bind fun t118 => (if t118 = true then ((item_in.f (l0_2.length : Int) 1 24).bind fun t119 => (if t119 = true then ((api_Part_bad_s47.f k l0_2).bind fun t120 => (if t120 = true then (some false) else ((item_sum.f k l0_2).bind fun t121 => (some (decide (t121 ≤ 200)))))) else (some false))) else (some false))) else (some false))
theorem item_ValidPaper.mono : ∀ a0 a1 a2 k, LeO (item_ValidPaper.f k a0 a1 a2) (item_ValidPaper.f (k + 1) a0 a1 a2) := by
  intro a0 a1 a2 k
  unfold item_ValidPaper.f
  repeat' first
      | (with_reducible exact api_Part_bad_s47.mono _ _)
      | (with_reducible exact item_sum.mono _ _)
      | (with_reducible exact LeO.refl _)
      | (with_reducible exact LeO.none _)
      | (with_reducible refine LeO.ite ?_ ?_)
      | (with_reducible refine LeO.bind ?_ (fun _ => ?_))
      | exact api_Part_bad_s47.mono _ _
      | exact item_sum.mono _ _
      | exact LeO.none _
      | refine LeO.ite ?_ ?_
      | refine LeO.bind ?_ (fun _ => ?_)
set_option maxHeartbeats 8000000 in
set_option maxRecDepth 100000 in
theorem item_ValidPaper.calls (k : Nat) (a0_0 : Int) (a0_1 : Int) (A0_2 : Option Addr) (c0_2 : Nat) (l0_2 : List (S23)) (r : Bool) (w : World) (hr0_2 : Kd.C k23 w A0_2 l0_2.length l0_2) (hc0_2 : l0_2.length ≤ c0_2) (h : item_ValidPaper.f k a0_0 a0_1 l0_2 = some r) :
    Calls Try.prog 39 #[.agg #[.int .i64 a0_0, .int .i64 a0_1, .slice A0_2 l0_2.length c0_2]] w fun e w' => e = .returned (.bool r) ∧ Below w.heap.size w w' := by
 have hu33 := Try.underlying33
 have HR0_2 := za hr0_2
 have HC0_2 := za hc0_2
 clear hr0_2 hc0_2
 have HB := za (Below.refl w.heap.size w)
 have H : ((item_in.f a0_0 0 31).bind fun t117 => (if t117 = true then ((item_in.f a0_1 0 3).bind fun t118 => (if t118 = true then ((item_in.f (l0_2.length : Int) 1 24).bind fun t119 => (if t119 = true then ((api_Part_bad_s47.f k l0_2).bind fun t120 => (if t120 = true then (some false) else ((item_sum.f k l0_2).bind fun t121 => (some (decide (t121 ≤ 200)))))) else (some false))) else (some false))) else (some false))) = some r := h
 clear h
 replace H := Option.bind_eq_some_iff.mp H
 obtain ⟨t117, A20, H⟩ := H
 replace H : (if t117 = true then ((item_in.f a0_1 0 3).bind fun t118 => (if t118 = true then ((item_in.f (l0_2.length : Int) 1 24).bind fun t119 => (if t119 = true then ((api_Part_bad_s47.f k l0_2).bind fun t120 => (if t120 = true then (some false) else ((item_sum.f k l0_2).bind fun t121 => (some (decide (t121 ≤ 200)))))) else (some false))) else (some false))) else (some false)) = some r := H
 have A2 := za A20
 clear A20
 by_cases c3 : t117 = true
 ·subst c3
  have H1 : ((item_in.f a0_1 0 3).bind fun t118 => (if t118 = true then ((item_in.f (l0_2.length : Int) 1 24).bind fun t119 => (if t119 = true then ((api_Part_bad_s47.f k l0_2).bind fun t120 => (if t120 = true then (some false) else ((item_sum.f k l0_2).bind fun t121 => (some (decide (t121 ≤ 200)))))) else (some false))) else (some false))) = some r := by rw [if_pos rfl] at H; exact H
  clear H
  have H := H1
  clear H1
  replace H := Option.bind_eq_some_iff.mp H
  obtain ⟨t118, A40, H⟩ := H
  replace H : (if t118 = true then ((item_in.f (l0_2.length : Int) 1 24).bind fun t119 => (if t119 = true then ((api_Part_bad_s47.f k l0_2).bind fun t120 => (if t120 = true then (some false) else ((item_sum.f k l0_2).bind fun t121 => (some (decide (t121 ≤ 200)))))) else (some false))) else (some false)) = some r := H
  have A4 := za A40
  clear A40
  by_cases c5 : t118 = true
  ·subst c5
   have H1 : ((item_in.f (l0_2.length : Int) 1 24).bind fun t119 => (if t119 = true then ((api_Part_bad_s47.f k l0_2).bind fun t120 => (if t120 = true then (some false) else ((item_sum.f k l0_2).bind fun t121 => (some (decide (t121 ≤ 200)))))) else (some false))) = some r := by rw [if_pos rfl] at H; exact H
   clear H
   have H := H1
   clear H1
   replace H := Option.bind_eq_some_iff.mp H
   obtain ⟨t119, A60, H⟩ := H
   replace H : (if t119 = true then ((api_Part_bad_s47.f k l0_2).bind fun t120 => (if t120 = true then (some false) else ((item_sum.f k l0_2).bind fun t121 => (some (decide (t121 ≤ 200)))))) else (some false)) = some r := H
   have A6 := za A60
   clear A60
   by_cases c7 : t119 = true
   ·subst c7
    have H1 : ((api_Part_bad_s47.f k l0_2).bind fun t120 => (if t120 = true then (some false) else ((item_sum.f k l0_2).bind fun t121 => (some (decide (t121 ≤ 200)))))) = some r := by rw [if_pos rfl] at H; exact H
    clear H
    have H := H1
    clear H1
    replace H := Option.bind_eq_some_iff.mp H
    obtain ⟨t120, A80, H⟩ := H
    replace H : (if t120 = true then (some false) else ((item_sum.f k l0_2).bind fun t121 => (some (decide (t121 ≤ 200))))) = some r := H
    have A8 := za A80
    clear A80
    by_cases c9 : t120 = true
    ·subst c9
     have H1 : (some false) = some r := by rw [if_pos rfl] at H; exact H
     clear H
     have H := H1
     clear H1
     obtain rfl := Option.some.inj H
     go_enter Try.func39, Try.ntmps39
     go_wp2_with (first | ((with_reducible refine gate_dst (N := 1) rfl ?_); (try (refine gate_guard (by rfl) ?_; dsimp only)); refine zE 1 #[.int .i64 a0_0, .int .i64 a0_1, .slice A0_2 l0_2.length c0_2] 33 ?_; intro gb116 hg w10 hbox hb; have BK116 := za (hbox); have GW116 := zg HB hg; have GE116 := zg HB hg; replace HB := zs HB hb; clear hb hbox hg; obtain ⟨hcz11_0, hcz11_1, hcz11_2, hfz11_0, hfz11_1, hfz11_2⟩ := z3 BK116) | ((with_reducible refine gate_callee (f := 45) rfl ?_); refine zL (some 5) Try.func45 #[.int .i64 a0_0, .int .i64 0, .int .i64 31] ?_; (with_reducible refine (item_in.calls a0_0 0 31 true _ A2.out).mono ?_); rintro e w' ⟨rfl, ⟨nd, rfl⟩⟩; refine ⟨_, rfl, ?_⟩) | (go_at_call 45; (with_reducible refine (item_in.calls a0_1 0 3 true _ A4.out).mono ?_); rintro e w' ⟨rfl, ⟨nd, rfl⟩⟩) | (go_at_call 45; (with_reducible refine (item_in.calls (l0_2.length : Int) 1 24 true _ A6.out).mono ?_); rintro e w' ⟨rfl, ⟨nd, rfl⟩⟩) | (go_at_call 47; (with_reducible refine (api_Part_bad_s47.calls k _ _ l0_2 true _ ?side1 ?side2 A8.out).mono ?_); (case side1 => repeat (first | exact (Kd.C_below HR0_2.out (zm HB)) | (with_reducible refine Kd.C_alloc ?_ _) | (with_reducible refine Kd.C_drewN ?_ _) | (with_reducible refine Kd.C_drew ?_))); (case side2 => exact HC0_2.out); rintro e w12 ⟨rfl, hb⟩; replace BK116 := zb BK116 hb; replace HB := zs HB hb; (try clear hb); (try clear hb2); (try clear hk); (try clear hi)))
     go_ret
     exact ⟨zf, zm HB⟩
    ·replace c9 := Bool.eq_false_iff.mpr c9
     subst c9
     have H1 : ((item_sum.f k l0_2).bind fun t121 => (some (decide (t121 ≤ 200)))) = some r := by rw [if_neg (show ¬ (false = true) by decide)] at H; exact H
     clear H
     have H := H1
     clear H1
     replace H := Option.bind_eq_some_iff.mp H
     obtain ⟨t121, A130, H⟩ := H
     replace H : (some (decide (t121 ≤ 200))) = some r := H
     have A13 := za A130
     clear A130
     obtain rfl := Option.some.inj H
     go_enter Try.func39, Try.ntmps39
     go_wp2_with (first | ((with_reducible refine gate_dst (N := 1) rfl ?_); (try (refine gate_guard (by rfl) ?_; dsimp only)); refine zE 1 #[.int .i64 a0_0, .int .i64 a0_1, .slice A0_2 l0_2.length c0_2] 33 ?_; intro gb116 hg w14 hbox hb; have BK116 := za (hbox); have GW116 := zg HB hg; have GE116 := zg HB hg; replace HB := zs HB hb; clear hb hbox hg; obtain ⟨hcz15_0, hcz15_1, hcz15_2, hfz15_0, hfz15_1, hfz15_2⟩ := z3 BK116) | ((with_reducible refine gate_callee (f := 45) rfl ?_); refine zL (some 5) Try.func45 #[.int .i64 a0_0, .int .i64 0, .int .i64 31] ?_; (with_reducible refine (item_in.calls a0_0 0 31 true _ A2.out).mono ?_); rintro e w' ⟨rfl, ⟨nd, rfl⟩⟩; refine ⟨_, rfl, ?_⟩) | (go_at_call 45; (with_reducible refine (item_in.calls a0_1 0 3 true _ A4.out).mono ?_); rintro e w' ⟨rfl, ⟨nd, rfl⟩⟩) | (go_at_call 45; (with_reducible refine (item_in.calls (l0_2.length : Int) 1 24 true _ A6.out).mono ?_); rintro e w' ⟨rfl, ⟨nd, rfl⟩⟩) | (go_at_call 47; (with_reducible refine (api_Part_bad_s47.calls k _ _ l0_2 false _ ?side1 ?side2 A8.out).mono ?_); (case side1 => repeat (first | exact (Kd.C_below HR0_2.out (zm HB)) | (with_reducible refine Kd.C_alloc ?_ _) | (with_reducible refine Kd.C_drewN ?_ _) | (with_reducible refine Kd.C_drew ?_))); (case side2 => exact HC0_2.out); rintro e w16 ⟨rfl, hb⟩; replace BK116 := zb BK116 hb; replace HB := zs HB hb; (try clear hb); (try clear hb2); (try clear hk); (try clear hi); obtain ⟨hcz17_0, hcz17_1, hcz17_2, hfz17_0, hfz17_1, hfz17_2⟩ := z3 BK116) | (go_at_call 49; (with_reducible refine (item_sum.calls k _ _ l0_2 t121 _ ?side1 ?side2 A13.out).mono ?_); (case side1 => exact zC HR0_2 HB); (case side2 => exact HC0_2.out); rintro e w18 ⟨rfl, hb⟩; replace BK116 := zb BK116 hb; replace HB := zs HB hb; (try clear hb); (try clear hb2); (try clear hk); (try clear hi)))
     go_ret
     exact ⟨zf, zm HB⟩
   ·replace c7 := Bool.eq_false_iff.mpr c7
    subst c7
    have H1 : (some false) = some r := by rw [if_neg (show ¬ (false = true) by decide)] at H; exact H
    clear H
    have H := H1
    clear H1
    obtain rfl := Option.some.inj H
    go_enter Try.func39, Try.ntmps39
    go_wp2_with (first | ((with_reducible refine gate_dst (N := 1) rfl ?_); (try (refine gate_guard (by rfl) ?_; dsimp only)); refine zE 1 #[.int .i64 a0_0, .int .i64 a0_1, .slice A0_2 l0_2.length c0_2] 33 ?_; intro gb116 hg w19 hbox hb; have BK116 := za (hbox); have GW116 := zg HB hg; have GE116 := zg HB hg; replace HB := zs HB hb; clear hb hbox hg; obtain ⟨hcz20_0, hcz20_1, hcz20_2, hfz20_0, hfz20_1, hfz20_2⟩ := z3 BK116) | ((with_reducible refine gate_callee (f := 45) rfl ?_); refine zL (some 5) Try.func45 #[.int .i64 a0_0, .int .i64 0, .int .i64 31] ?_; (with_reducible refine (item_in.calls a0_0 0 31 true _ A2.out).mono ?_); rintro e w' ⟨rfl, ⟨nd, rfl⟩⟩; refine ⟨_, rfl, ?_⟩) | (go_at_call 45; (with_reducible refine (item_in.calls a0_1 0 3 true _ A4.out).mono ?_); rintro e w' ⟨rfl, ⟨nd, rfl⟩⟩) | (go_at_call 45; (with_reducible refine (item_in.calls (l0_2.length : Int) 1 24 false _ A6.out).mono ?_); rintro e w' ⟨rfl, ⟨nd, rfl⟩⟩))
    go_ret
    exact ⟨zf, zm HB⟩
  ·replace c5 := Bool.eq_false_iff.mpr c5
   subst c5
   have H1 : (some false) = some r := by rw [if_neg (show ¬ (false = true) by decide)] at H; exact H
   clear H
   have H := H1
   clear H1
   obtain rfl := Option.some.inj H
   go_enter Try.func39, Try.ntmps39
   go_wp2_with (first | ((with_reducible refine gate_dst (N := 1) rfl ?_); (try (refine gate_guard (by rfl) ?_; dsimp only)); refine zE 1 #[.int .i64 a0_0, .int .i64 a0_1, .slice A0_2 l0_2.length c0_2] 33 ?_; intro gb116 hg w21 hbox hb; have BK116 := za (hbox); have GW116 := zg HB hg; have GE116 := zg HB hg; replace HB := zs HB hb; clear hb hbox hg; obtain ⟨hcz22_0, hcz22_1, hcz22_2, hfz22_0, hfz22_1, hfz22_2⟩ := z3 BK116) | ((with_reducible refine gate_callee (f := 45) rfl ?_); refine zL (some 5) Try.func45 #[.int .i64 a0_0, .int .i64 0, .int .i64 31] ?_; (with_reducible refine (item_in.calls a0_0 0 31 true _ A2.out).mono ?_); rintro e w' ⟨rfl, ⟨nd, rfl⟩⟩; refine ⟨_, rfl, ?_⟩) | (go_at_call 45; (with_reducible refine (item_in.calls a0_1 0 3 false _ A4.out).mono ?_); rintro e w' ⟨rfl, ⟨nd, rfl⟩⟩))
   go_ret
   exact ⟨zf, zm HB⟩
 ·replace c3 := Bool.eq_false_iff.mpr c3
  subst c3
  have H1 : (some false) = some r := by rw [if_neg (show ¬ (false = true) by decide)] at H; exact H
  clear H
  have H := H1
  clear H1
  obtain rfl := Option.some.inj H
  go_enter Try.func39, Try.ntmps39
  go_wp2_with (first | ((with_reducible refine gate_dst (N := 1) rfl ?_); (try (refine gate_guard (by rfl) ?_; dsimp only)); refine zE 1 #[.int .i64 a0_0, .int .i64 a0_1, .slice A0_2 l0_2.length c0_2] 33 ?_; intro gb116 hg w23 hbox hb; have BK116 := za (hbox); have GW116 := zg HB hg; have GE116 := zg HB hg; replace HB := zs HB hb; clear hb hbox hg; obtain ⟨hcz24_0, hcz24_1, hcz24_2, hfz24_0, hfz24_1, hfz24_2⟩ := z3 BK116) | ((with_reducible refine gate_callee (f := 45) rfl ?_); refine zL (some 5) Try.func45 #[.int .i64 a0_0, .int .i64 0, .int .i64 31] ?_; (with_reducible refine (item_in.calls a0_0 0 31 false _ A2.out).mono ?_); rintro e w' ⟨rfl, ⟨nd, rfl⟩⟩; refine ⟨_, rfl, ?_⟩))
  go_ret
  exact ⟨zf, zm HB⟩

/-! ### booklet_Make: function 18 -/
mutual
def booklet_Make.l0 : Nat → List (List Int) → Int → Int → Int → List (S23) → Option ((List (List Int)) × Int)
  | 0, _, _, _, _, _ => none
  | k + 1, x4, x5, x123000, x123001, x123002 => if x5 < (x123002.length : Int) then (booklet_Make.l1 k x4 x5 ([] : List Int) 30 x123000 x123001 x123002) else (booklet_Make.l2 k x4)
def booklet_Make.l1 : Nat → List (List Int) → Int → List Int → Int → Int → Int → List (S23) → Option ((List (List Int)) × Int)
  | 0, _, _, _, _, _, _, _ => none
  | k + 1, x4, x5, x6, x7, x123000, x123001, x123002 => if x5 < (x123002.length : Int) then (if 0 ≤ x5 then ((booklet_Need.f k ((rd_T23 x123002 x5).f0) ((rd_T23 x123002 x5).f1) ((rd_T23 x123002 x5).f2) ((rd_T23 x123002 x5).f3) ((rd_T23 x123002 x5).f4) ((rd_T23 x123002 x5).f5)).bind fun t129 => (if (wrap64 (x7 - t129)) < 0 then (if x4.length < 5864062014805 then (booklet_Make.l0 k (x4 ++ [x6]) x5 x123000 x123001 x123002) else (none)) else (if x6.length < 17592186044416 then (booklet_Make.l1 k x4 (wrap64 (x5 + 1)) (x6 ++ [x5]) (wrap64 (x7 - t129)) x123000 x123001 x123002) else (none)))) else (none)) else (if x4.length < 5864062014805 then (booklet_Make.l0 k (x4 ++ [x6]) x5 x123000 x123001 x123002) else (none))
def booklet_Make.l2 : Nat → List (List Int) → Option ((List (List Int)) × Int)
  | 0, _ => none
  | k + 1, x4 => if ((x4.length : Int) % 4) = 0 then (if (x4.length : Int) > 12 then (some (([] : List (List Int)), 3)) else (some (x4, 0))) else (if x4.length < 5864062014805 then (booklet_Make.l2 k (x4 ++ [[]])) else (none))
end
def booklet_Make.f (k : Nat) (a0_0 : Int) (a0_1 : Int) (l0_2 : List (S23)) : Option ((List (List Int)) × Int) := (item_ValidPaper.f k a0_0 a0_1 l0_2).bind fun t124 => (if t124 = true then (booklet_Make.l0 k (([[]] : List (List Int))) 0 a0_0 a0_1 l0_2) else (some (([] : List (List Int)), 1)))
theorem booklet_Make.mono_l : ∀ k, (∀ y0 y1 y2 y3 y4, LeO (booklet_Make.l0 k y0 y1 y2 y3 y4) (booklet_Make.l0 (k + 1) y0 y1 y2 y3 y4)) ∧ (∀ y0 y1 y2 y3 y4 y5 y6, LeO (booklet_Make.l1 k y0 y1 y2 y3 y4 y5 y6) (booklet_Make.l1 (k + 1) y0 y1 y2 y3 y4 y5 y6)) ∧ (∀ y0, LeO (booklet_Make.l2 k y0) (booklet_Make.l2 (k + 1) y0))
  | 0 => ⟨fun _ _ _ _ _ r h => by simp [booklet_Make.l0] at h, fun _ _ _ _ _ _ _ r h => by simp [booklet_Make.l1] at h, fun _ r h => by simp [booklet_Make.l2] at h⟩
  | k + 1 => by
    obtain ⟨ih0, ih1, ih2⟩ := booklet_Make.mono_l k
    refine ⟨?_, ?_, ?_⟩
    · intro y0 y1 y2 y3 y4
      unfold booklet_Make.l0
      repeat' first
      | (with_reducible exact ih0 _ _ _ _ _)
      | (with_reducible exact ih1 _ _ _ _ _ _ _)
      | (with_reducible exact ih2 _)
      | (with_reducible exact booklet_Need.mono _ _ _ _ _ _ _)
      | (with_reducible exact item_ValidPaper.mono _ _ _ _)
      | (with_reducible exact LeO.refl _)
      | (with_reducible exact LeO.none _)
      | (with_reducible refine LeO.ite ?_ ?_)
      | (with_reducible refine LeO.bind ?_ (fun _ => ?_))
      | exact ih0 _ _ _ _ _
      | exact ih1 _ _ _ _ _ _ _
      | exact ih2 _
      | exact booklet_Need.mono _ _ _ _ _ _ _
      | exact item_ValidPaper.mono _ _ _ _
      | exact LeO.none _
      | refine LeO.ite ?_ ?_
      | refine LeO.bind ?_ (fun _ => ?_)
    · intro y0 y1 y2 y3 y4 y5 y6
      unfold booklet_Make.l1
      repeat' first
      | (with_reducible exact ih0 _ _ _ _ _)
      | (with_reducible exact ih1 _ _ _ _ _ _ _)
      | (with_reducible exact ih2 _)
      | (with_reducible exact booklet_Need.mono _ _ _ _ _ _ _)
      | (with_reducible exact item_ValidPaper.mono _ _ _ _)
      | (with_reducible exact LeO.refl _)
      | (with_reducible exact LeO.none _)
      | (with_reducible refine LeO.ite ?_ ?_)
      | (with_reducible refine LeO.bind ?_ (fun _ => ?_))
      | exact ih0 _ _ _ _ _
      | exact ih1 _ _ _ _ _ _ _
      | exact ih2 _
      | exact booklet_Need.mono _ _ _ _ _ _ _
      | exact item_ValidPaper.mono _ _ _ _
      | exact LeO.none _
      | refine LeO.ite ?_ ?_
      | refine LeO.bind ?_ (fun _ => ?_)
    · intro y0
      unfold booklet_Make.l2
      repeat' first
      | (with_reducible exact ih0 _ _ _ _ _)
      | (with_reducible exact ih1 _ _ _ _ _ _ _)
      | (with_reducible exact ih2 _)
      | (with_reducible exact booklet_Need.mono _ _ _ _ _ _ _)
      | (with_reducible exact item_ValidPaper.mono _ _ _ _)
      | (with_reducible exact LeO.refl _)
      | (with_reducible exact LeO.none _)
      | (with_reducible refine LeO.ite ?_ ?_)
      | (with_reducible refine LeO.bind ?_ (fun _ => ?_))
      | exact ih0 _ _ _ _ _
      | exact ih1 _ _ _ _ _ _ _
      | exact ih2 _
      | exact booklet_Need.mono _ _ _ _ _ _ _
      | exact item_ValidPaper.mono _ _ _ _
      | exact LeO.none _
      | refine LeO.ite ?_ ?_
      | refine LeO.bind ?_ (fun _ => ?_)
theorem booklet_Make.mono : ∀ a0 a1 a2 k, LeO (booklet_Make.f k a0 a1 a2) (booklet_Make.f (k + 1) a0 a1 a2) := by
  intro a0 a1 a2 k
  obtain ⟨ih0, ih1, ih2⟩ := booklet_Make.mono_l k
  unfold booklet_Make.f
  repeat' first
      | (with_reducible exact ih0 _ _ _ _ _)
      | (with_reducible exact ih1 _ _ _ _ _ _ _)
      | (with_reducible exact ih2 _)
      | (with_reducible exact booklet_Need.mono _ _ _ _ _ _ _)
      | (with_reducible exact item_ValidPaper.mono _ _ _ _)
      | (with_reducible exact LeO.refl _)
      | (with_reducible exact LeO.none _)
      | (with_reducible refine LeO.ite ?_ ?_)
      | (with_reducible refine LeO.bind ?_ (fun _ => ?_))
      | exact ih0 _ _ _ _ _
      | exact ih1 _ _ _ _ _ _ _
      | exact ih2 _
      | exact booklet_Need.mono _ _ _ _ _ _ _
      | exact item_ValidPaper.mono _ _ _ _
      | exact LeO.none _
      | refine LeO.ite ?_ ?_
      | refine LeO.bind ?_ (fun _ => ?_)
set_option maxHeartbeats 8000000 in
set_option maxRecDepth 100000 in
theorem booklet_Make.calls (k : Nat) (a0_0 : Int) (a0_1 : Int) (A0_2 : Option Addr) (c0_2 : Nat) (l0_2 : List (S23)) (r1 : List (List Int)) (r2 : Int) (w : World) (hr0_2 : Kd.C k23 w A0_2 l0_2.length l0_2) (hc0_2 : l0_2.length ≤ c0_2) (h : booklet_Make.f k a0_0 a0_1 l0_2 = some (r1, r2)) :
    Calls Try.prog 18 #[.agg #[.int .i64 a0_0, .int .i64 a0_1, .slice A0_2 l0_2.length c0_2]] w fun e w' => ∃ v0_ : Value, e = .returned (.tuple #[.agg #[v0_], .int .i64 r2]) ∧ Kd.S (Kd.slice 3 (Kd.int .i64)) 28 w' w.heap.size (fun _ => True) v0_ r1 ∧ Below w.heap.size w w' := by
 have hu33 := Try.underlying33
 have hu38 := Try.underlying38
 have hu23 := Try.underlying23
 have HR0_2 := za hr0_2
 have HC0_2 := za hc0_2
 clear hr0_2 hc0_2
 have HB := za (Below.refl w.heap.size w)
 have H : ((item_ValidPaper.f k a0_0 a0_1 l0_2).bind fun t124 => (if t124 = true then (booklet_Make.l0 k (([[]] : List (List Int))) 0 a0_0 a0_1 l0_2) else (some (([] : List (List Int)), 1)))) = some (r1, r2) := h
 clear h
 replace H := Option.bind_eq_some_iff.mp H
 obtain ⟨t124, A20, H⟩ := H
 replace H : (if t124 = true then (booklet_Make.l0 k (([[]] : List (List Int))) 0 a0_0 a0_1 l0_2) else (some (([] : List (List Int)), 1))) = some (r1, r2) := H
 have A2 := za A20
 clear A20
 by_cases c3 : t124 = true
 ·subst c3
  have H1 : (booklet_Make.l0 k (([[]] : List (List Int))) 0 a0_0 a0_1 l0_2) = some (r1, r2) := by rw [if_pos rfl] at H; exact H
  clear H
  have H := H1
  clear H1
  obtain ⟨y125, hy125⟩ : ∃ y_ : List (List Int), y_ = (([[]] : List (List Int))) := ⟨_, rfl⟩
  replace H : (booklet_Make.l0 k y125 0 a0_0 a0_1 l0_2) = some (r1, r2) := by first | (rw [hy125]; with_reducible exact H) | (have H2_ := (Option.bind_some _ _).symm.trans H; rw [hy125]; with_reducible exact H2_) | (have H2_ := (Option.bind_some _ _).symm.trans H; with_reducible exact H2_) | with_reducible exact H | (rw [hy125]; exact H) | exact H
  have Ny125 := za hy125
  clear hy125
  have H' := za H
  clear H
  go_enter Try.func18, Try.ntmps18
  go_wp2_with (first | ((with_reducible refine gate_dst (N := 1) rfl ?_); refine zE 1 #[.int .i64 a0_0, .int .i64 a0_1, .slice A0_2 l0_2.length c0_2] 33 ?_; intro gb122 hg w4 hbox hb; have BK122 := za (hbox); have GW122 := zg HB hg; have GE122 := zg HB hg; replace HB := zs HB hb; clear hb hbox hg) | ((with_reducible refine gate_dst (N := 2) rfl ?_); refine zE 2 #[.slice none 0 0] 38 ?_; intro gb123 hg w5 hbox hb; have BK123 := za (hbox); have GW123 := zg HB hg; have GE123 := zg HB hg; have NB122_123 := zl BK122 hg; have NB123_122 := zr BK122 hg; replace BK122 := zb BK122 hb; replace HB := zs HB hb; clear hb hbox hg; have hnb6 := NB122_123.out; have hnc6 := NB123_122.out; obtain ⟨hcz7_0, hcz7_1, hcz7_2, hfz7_0, hfz7_1, hfz7_2⟩ := z3 BK122) | ((with_reducible refine gate_callee (f := 39) rfl ?_); refine zL (some 9) Try.func39 #[.agg #[.int .i64 a0_0, .int .i64 a0_1, .slice A0_2 l0_2.length c0_2]] ?_; (with_reducible refine (item_ValidPaper.calls k a0_0 a0_1 _ _ l0_2 true _ ?side1 ?side2 A2.out).mono ?_); (case side1 => exact zC HR0_2 HB); (case side2 => exact HC0_2.out); rintro e w8 ⟨rfl, hb⟩; refine ⟨_, rfl, ?_⟩; replace BK122 := zb BK122 hb; replace BK123 := zb BK123 hb; replace HB := zs HB hb; (try clear hb); (try clear hb2); (try clear hk); (try clear hi)) | ((with_reducible refine gate_dst (N := 12) rfl ?_); refine Kd.S_lit (Kd.slice 3 (Kd.int .i64)) _ 28 ?hg (N := 12) ?hd (xs := ([[]] : List (List Int))) (inner := [.slice none 0 0]) (ok := fun _ => True) (okp := fun _ => True) ?hr ?hp (fun _ hk => hk) trivial (Below.refl _ _) (Nat.le_refl _) (by simp) ?_; (case hd => rfl); (case hg => rfl); (case hr => first | (go_simp; done) | (go_simp; rfl)); (case hp => exact (Reps.one (show Kd.M (Kd.slice 3 (Kd.int .i64)) _ _ _ [] [.slice none 0 0] from ⟨_, rfl, Kd.R_nil _ _ _ _ _⟩) (Reps.none _ _))); intro v126 w9 ho10 hb hg_ hnew_; clear hg_ hnew_; (first | rw [← Ny125.out] at ho10 | (simp only [Int.reduceToNat] at ho10; rw [← Ny125.out] at ho10)); have HO127 := za (Kd.S_lower ho10 (below_size (zm HB))); replace BK122 := zb BK122 hb; replace BK123 := zb BK123 hb; replace HB := zs HB hb; clear hb ho10))
  refine wp_scope_body ?_
  go_wp2_with (first | ((with_reducible refine gate_dst (N := 1) rfl ?_); refine zE 1 #[.int .i64 a0_0, .int .i64 a0_1, .slice A0_2 l0_2.length c0_2] 33 ?_; intro gb122 hg w4 hbox hb; have BK122 := za (hbox); have GW122 := zg HB hg; have GE122 := zg HB hg; replace HB := zs HB hb; clear hb hbox hg) | ((with_reducible refine gate_dst (N := 2) rfl ?_); refine zE 2 #[.slice none 0 0] 38 ?_; intro gb123 hg w5 hbox hb; have BK123 := za (hbox); have GW123 := zg HB hg; have GE123 := zg HB hg; have NB122_123 := zl BK122 hg; have NB123_122 := zr BK122 hg; replace BK122 := zb BK122 hb; replace HB := zs HB hb; clear hb hbox hg; have hnb6 := NB122_123.out; have hnc6 := NB123_122.out; obtain ⟨hcz7_0, hcz7_1, hcz7_2, hfz7_0, hfz7_1, hfz7_2⟩ := z3 BK122) | ((with_reducible refine gate_callee (f := 39) rfl ?_); refine zL (some 9) Try.func39 #[.agg #[.int .i64 a0_0, .int .i64 a0_1, .slice A0_2 l0_2.length c0_2]] ?_; (with_reducible refine (item_ValidPaper.calls k a0_0 a0_1 _ _ l0_2 true _ ?side1 ?side2 A2.out).mono ?_); (case side1 => exact zC HR0_2 HB); (case side2 => exact HC0_2.out); rintro e w8 ⟨rfl, hb⟩; refine ⟨_, rfl, ?_⟩; replace BK122 := zb BK122 hb; replace BK123 := zb BK123 hb; replace HB := zs HB hb; (try clear hb); (try clear hb2); (try clear hk); (try clear hi)) | ((with_reducible refine gate_dst (N := 12) rfl ?_); refine Kd.S_lit (Kd.slice 3 (Kd.int .i64)) _ 28 ?hg (N := 12) ?hd (xs := ([[]] : List (List Int))) (inner := [.slice none 0 0]) (ok := fun _ => True) (okp := fun _ => True) ?hr ?hp (fun _ hk => hk) trivial (Below.refl _ _) (Nat.le_refl _) (by simp) ?_; (case hd => rfl); (case hg => rfl); (case hr => first | (go_simp; done) | (go_simp; rfl)); (case hp => exact (Reps.one (show Kd.M (Kd.slice 3 (Kd.int .i64)) _ _ _ [] [.slice none 0 0] from ⟨_, rfl, Kd.R_nil _ _ _ _ _⟩) (Reps.none _ _))); intro v126 w9 ho10 hb hg_ hnew_; clear hg_ hnew_; (first | rw [← Ny125.out] at ho10 | (simp only [Int.reduceToNat] at ho10; rw [← Ny125.out] at ho10)); have HO127 := za (Kd.S_lower ho10 (below_size (zm HB))); replace BK122 := zb BK122 hb; replace BK123 := zb BK123 hb; replace HB := zs HB hb; clear hb ho10))
  refine wp_label ?_
  go_wp2
  go_loopg [4, 5] k (fun kq v4 v5 w' => ∃ (x4_1 : List (List Int)) (x5_1 : Int), v5 = .int .i64 x5_1 ∧ Aside0 (booklet_Make.l0 kq x4_1 x5_1 a0_0 a0_1 l0_2 = some (r1, r2)) ∧ Aside0 (kq ≤ k) ∧ Aside0 (Kd.S (Kd.slice 3 (Kd.int .i64)) 28 w' w.heap.size (fun _ => True) v4 x4_1) ∧ Aside0 (w'.heap[gb122]? = some (.cells #[.int .i64 a0_0, .int .i64 a0_1, (.slice A0_2 l0_2.length c0_2)] 33 (0, 0))) ∧ Aside0 (w'.heap[gb123]? = some (.cells #[(.slice none 0 0)] 38 (0, 0))) ∧ Aside0 (Below w.heap.size w w'))
  case atStart => exact ⟨(y125), (0), (by first | rfl | (simp; done) | (simp [*]; done)), H', ⟨Nat.le_refl _⟩, ⟨by (with_reducible repeat (first | apply Kd.S_alloc | apply Kd.S_drewN | apply Kd.S_drew)); exact HO127.out⟩, ⟨by (with_reducible repeat (first | refine blk_drewN ?_ _ | refine blk_drew ?_ | refine blk_alloc ?_ _)); exact BK122.out⟩, ⟨by (with_reducible repeat (first | refine blk_drewN ?_ _ | refine blk_drew ?_ | refine blk_alloc ?_ _)); exact BK123.out⟩, ⟨zm HB⟩⟩
  case round =>
   clear H'
   try clear c1
   try clear p2
   try clear c3
   try clear c6
   try clear hcz7_0
   try clear hcz7_1
   try clear hcz7_2
   try clear hfz7_0
   try clear hfz7_1
   try clear hfz7_2
   obtain ⟨x4_1, x5_1, rfl, HA, HK1, HO_4, BK122, BK123, HB⟩ := hrel
   cases gk with
   | zero => exact absurd HA.out (by simp [booklet_Make.l0])
   | succ k1 =>
    have H := HA.out
    clear HA
    simp only [booklet_Make.l0] at H
    by_cases c11 : x5_1 < (l0_2.length : Int)
    ·rw [if_pos c11] at H
     have c11b0 : decide (x5_1 < (l0_2.length : Int)) = true := decide_eq_true c11
     clear c11
     have H' := za H
     clear H
     have hnb12 := NB122_123.out
     have hnc12 := NB123_122.out
     obtain ⟨hcz13_0, hcz13_1, hcz13_2, hfz13_0, hfz13_1, hfz13_2⟩ := z3 BK122
     go_wp2
     go_loopg [4, 5, 6, 7] k1 (fun kq v4 v5 v6 v7 w' => ∃ (x4_2 : List (List Int)) (x5_2 : Int) (x6_2 : List Int) (x7_2 : Int), v5 = .int .i64 x5_2 ∧ v7 = .int .i64 x7_2 ∧ Aside0 (booklet_Make.l1 kq x4_2 x5_2 x6_2 x7_2 a0_0 a0_1 l0_2 = some (r1, r2)) ∧ Aside0 (kq ≤ k1) ∧ Aside0 (Kd.S (Kd.slice 3 (Kd.int .i64)) 28 w' w.heap.size (fun k_ => some k_ ≠ (v6 : Value).ownBlock) v4 x4_2) ∧ Aside0 (Kd.R (Kd.int .i64) 3 w' w.heap.size (fun _ => True) v6 x6_2) ∧ Aside0 (w'.heap[gb122]? = some (.cells #[.int .i64 a0_0, .int .i64 a0_1, (.slice A0_2 l0_2.length c0_2)] 33 (0, 0))) ∧ Aside0 (w'.heap[gb123]? = some (.cells #[(.slice none 0 0)] 38 (0, 0))) ∧ Aside0 (Below w.heap.size w w'))
     case atStart => exact ⟨(x4_1), (x5_1), (([] : List Int)), (30), (by first | rfl | (simp; done) | (simp [*]; done)), (by first | rfl | (simp; done) | (simp [*]; done)), H', ⟨Nat.le_refl _⟩, ⟨by (with_reducible repeat (first | apply Kd.S_alloc | apply Kd.S_drewN | apply Kd.S_drew)); exact Kd.S_mono HO_4.out (fun _ hk => (by simp [Value.ownBlock]))⟩, ⟨by first | exact Kd.R_nil _ _ _ _ _ | exact Kd.N_nil _ _ _ _ _ | exact Kd.V_nil _ _ _ _ _ | exact Kd.Q_nil _ _ _ _ _ | exact Kd.S_nil _ _ _ _ _⟩, ⟨by (with_reducible repeat (first | refine blk_drewN ?_ _ | refine blk_drew ?_ | refine blk_alloc ?_ _)); exact BK122.out⟩, ⟨by (with_reducible repeat (first | refine blk_drewN ?_ _ | refine blk_drew ?_ | refine blk_alloc ?_ _)); exact BK123.out⟩, ⟨zm HB⟩⟩
     case round =>
      clear H'
      try clear c1
      try clear p2
      try clear c3
      try clear c6
      try clear c11
      try clear c11b0
      try clear c12
      try clear hcz13_0
      try clear hcz13_1
      try clear hcz13_2
      try clear hcz7_0
      try clear hcz7_1
      try clear hcz7_2
      try clear hfz13_0
      try clear hfz13_1
      try clear hfz13_2
      try clear hfz7_0
      try clear hfz7_1
      try clear hfz7_2
      try clear p2
      obtain ⟨x4_2, x5_2, x6_2, x7_2, rfl, rfl, HA, HK2, HO_4, HO_6, BK122, BK123, HB⟩ := hrel
      cases gk with
      | zero => exact absurd HA.out (by simp [booklet_Make.l1])
      | succ k2 =>
       have H := HA.out
       clear HA
       simp only [booklet_Make.l1] at H
       by_cases c14 : x5_2 < (l0_2.length : Int)
       ·rw [if_pos c14] at H
        have c14b0 : decide (x5_2 < (l0_2.length : Int)) = true := decide_eq_true c14
        clear c14
        by_cases c15 : 0 ≤ x5_2
        ·rw [if_pos c15] at H
         have c15b0 : decide (0 ≤ x5_2) = true := decide_eq_true c15
         clear c15
         replace H := Option.bind_eq_some_iff.mp H
         obtain ⟨t129, A160, H⟩ := H
         replace H : (if (wrap64 (x7_2 - t129)) < 0 then (if x4_2.length < 5864062014805 then (booklet_Make.l0 k2 (x4_2 ++ [x6_2]) x5_2 a0_0 a0_1 l0_2) else (none)) else (if x6_2.length < 17592186044416 then (booklet_Make.l1 k2 x4_2 (wrap64 (x5_2 + 1)) (x6_2 ++ [x5_2]) (wrap64 (x7_2 - t129)) a0_0 a0_1 l0_2) else (none))) = some (r1, r2) := H
         have A16 := za A160
         clear A160
         by_cases c17 : (wrap64 (x7_2 - t129)) < 0
         ·rw [if_pos c17] at H
          have c17b0 : decide ((wrap64 (x7_2 - t129)) < 0) = true := decide_eq_true c17
          clear c17
          by_cases c18 : x4_2.length < 5864062014805
          ·rw [if_pos c18] at H
           have LMc18 := za c18
           clear c18
           obtain ⟨y130, hy130⟩ : ∃ y_ : List (List Int), y_ = (x4_2 ++ [x6_2]) := ⟨_, rfl⟩
           replace H : (booklet_Make.l0 k2 y130 x5_2 a0_0 a0_1 l0_2) = some (r1, r2) := by first | (rw [hy130]; with_reducible exact H) | (have H2_ := (Option.bind_some _ _).symm.trans H; rw [hy130]; with_reducible exact H2_) | (have H2_ := (Option.bind_some _ _).symm.trans H; with_reducible exact H2_) | with_reducible exact H | (rw [hy130]; exact H) | exact H
           have Ny130 := za hy130
           clear hy130
           have H' := za H
           clear H
           have hnb19 := NB122_123.out
           have hnc19 := NB123_122.out
           obtain ⟨hcz20_0, hcz20_1, hcz20_2, hfz20_0, hfz20_1, hfz20_2⟩ := z3 BK122
           have p128 : 0 ≤ (x5_2 : Int) := of_decide_eq_true (by first | (with_reducible assumption) | assumption)
           have q128 : x5_2 < (l0_2.length : Int) := of_decide_eq_true (by first | (with_reducible assumption) | assumption)
           obtain ⟨ad128, e128, hx128_0, hx128_1, hx128_2, hx128_3, hx128_4, hx128_5⟩ := at_T23 HR0_2.out x5_2 p128 q128
           cases e128
           replace hx128_0 := zx HB hx128_0
           replace hx128_1 := zx HB hx128_1
           replace hx128_2 := zx HB hx128_2
           replace hx128_3 := zx HB hx128_3
           replace hx128_4 := zx HB hx128_4
           replace hx128_5 := zx HB hx128_5
           replace p128 := eq_true p128
           replace q128 := eq_true q128
           go_wp2_with (first | ((with_reducible refine gate_callee (f := 12) rfl ?_); refine zL (some 31) Try.func12 #[.agg #[.int .i64 ((rd_T23 l0_2 x5_2).f0), .int .i64 ((rd_T23 l0_2 x5_2).f1), .int .i64 ((rd_T23 l0_2 x5_2).f2), .int .i64 ((rd_T23 l0_2 x5_2).f3), .int .i64 ((rd_T23 l0_2 x5_2).f4), .int .i64 ((rd_T23 l0_2 x5_2).f5)]] ?_; (with_reducible refine (booklet_Need.calls k2 ((rd_T23 l0_2 x5_2).f0) ((rd_T23 l0_2 x5_2).f1) ((rd_T23 l0_2 x5_2).f2) ((rd_T23 l0_2 x5_2).f3) ((rd_T23 l0_2 x5_2).f4) ((rd_T23 l0_2 x5_2).f5) t129 _ A16.out).mono ?_); rintro e w21 ⟨rfl, hb⟩; refine ⟨_, rfl, ?_⟩; replace HO_4 := zS HO_4 hb; replace HO_6 := zR HO_6 hb; replace BK122 := zb BK122 hb; replace BK123 := zb BK123 hb; replace HB := zs HB hb; (try clear hb); (try clear hb2); (try clear hk); (try clear hi); obtain ⟨Ao23, co23, eo23⟩ := Kd.R_slice HO_6.out; subst eo23) | ((with_reducible refine gate_builtin (b := .append) (xs := #[.tmp 35, .tmp 37]) rfl ?_); at_builtin; refine Kd.S_append (Kd.slice 3 (Kd.int .i64)) (w0 := w) w.heap.size rfl (.tmp 35) (.tmp 37) 36 28 (.slice none 0 0) 24 rfl Try.underlying36 info28 rfl (by decide) (by omega) u4 x4_2 x6_2 [.slice Ao23 x6_2.length co23] (fun _ => True) (fun k_ => some k_ = (.slice Ao23 x6_2.length co23 : Value).ownBlock) rfl rfl ?aP (fun k_ hk_ => ((Kd.R_mono (ok' := fun k_ => ((fun _ => True)) k_ ∧ some k_ ≠ (u4 : Value).ownBlock) (Kd.R_apart' (HO_6.out) (Kd.S_typed HO_4.out) (by decide)) (fun k_ hk => ⟨trivial, hk.2⟩))).1 k_ hk_.symm) ?aF ?aO ?aB ?aS ?aL ?_; (case aP => exact Kd.M_row (Kd.R_mono (Kd.R_tight rfl (Kd.R_mono (ok' := fun k_ => ((fun _ => True)) k_ ∧ some k_ ≠ (u4 : Value).ownBlock) (Kd.R_apart' (HO_6.out) (Kd.S_typed HO_4.out) (by decide)) (fun k_ hk => ⟨trivial, hk.2⟩))) (fun _ h_ => h_))); (case aB => exact (zm HB)); (case aF => exact (fun _ _ => trivial)); (case aO => exact (by (with_reducible repeat (first | apply Kd.S_alloc | apply Kd.S_drewN | apply Kd.S_drew)); exact Kd.S_mono HO_4.out (fun k_ hk => ⟨trivial, fun e_ => hk e_⟩))); (case aS => exact (below_size (zm HB))); (case aL => have := LMc18.out; omega); intro v131 w22 ho hb hg hat; rw [← Ny130.out] at ho; have HO132 := za (ho); replace BK122 := (zw BK122 hg (Kd.S_ne HO_4.out BK122.out (by decide))); replace BK123 := (zw BK123 hg (Kd.S_ne HO_4.out BK123.out (by decide))); replace HB := za (hb); clear HO_4 HO_6 ho hb hg hat))
           go_roundg k2
           case measure => have := HK1.out; have := HK2.out; omega
           case rel => exact ⟨(y130), (x5_2), (by first | rfl | (simp; done) | (simp [*]; done)), H', ⟨by have := HK1.out; have := HK2.out; omega⟩, ⟨by (with_reducible repeat (first | apply Kd.S_alloc | apply Kd.S_drewN | apply Kd.S_drew)); exact HO132.out⟩, ⟨by (with_reducible repeat (first | refine blk_drewN ?_ _ | refine blk_drew ?_ | refine blk_alloc ?_ _)); exact BK122.out⟩, ⟨by (with_reducible repeat (first | refine blk_drewN ?_ _ | refine blk_drew ?_ | refine blk_alloc ?_ _)); exact BK123.out⟩, ⟨zm HB⟩⟩
          ·rw [if_neg c18] at H
           exact absurd H (by simp)
         ·rw [if_neg c17] at H
          have c17b0 : decide ((wrap64 (x7_2 - t129)) < 0) = false := decide_eq_false c17
          clear c17
          by_cases c24 : x6_2.length < 17592186044416
          ·rw [if_pos c24] at H
           have LMc24 := za c24
           clear c24
           obtain ⟨y133, hy133⟩ : ∃ y_ : List Int, y_ = (x6_2 ++ [x5_2]) := ⟨_, rfl⟩
           replace H : (booklet_Make.l1 k2 x4_2 (wrap64 (x5_2 + 1)) y133 (wrap64 (x7_2 - t129)) a0_0 a0_1 l0_2) = some (r1, r2) := by first | (rw [hy133]; with_reducible exact H) | (have H2_ := (Option.bind_some _ _).symm.trans H; rw [hy133]; with_reducible exact H2_) | (have H2_ := (Option.bind_some _ _).symm.trans H; with_reducible exact H2_) | with_reducible exact H | (rw [hy133]; exact H) | exact H
           have Ny133 := za hy133
           clear hy133
           have H' := za H
           clear H
           have hnb25 := NB122_123.out
           have hnc25 := NB123_122.out
           obtain ⟨hcz26_0, hcz26_1, hcz26_2, hfz26_0, hfz26_1, hfz26_2⟩ := z3 BK122
           have p128 : 0 ≤ (x5_2 : Int) := of_decide_eq_true (by first | (with_reducible assumption) | assumption)
           have q128 : x5_2 < (l0_2.length : Int) := of_decide_eq_true (by first | (with_reducible assumption) | assumption)
           obtain ⟨ad128, e128, hx128_0, hx128_1, hx128_2, hx128_3, hx128_4, hx128_5⟩ := at_T23 HR0_2.out x5_2 p128 q128
           cases e128
           replace hx128_0 := zx HB hx128_0
           replace hx128_1 := zx HB hx128_1
           replace hx128_2 := zx HB hx128_2
           replace hx128_3 := zx HB hx128_3
           replace hx128_4 := zx HB hx128_4
           replace hx128_5 := zx HB hx128_5
           replace p128 := eq_true p128
           replace q128 := eq_true q128
           go_wp2_with (first | ((with_reducible refine gate_callee (f := 12) rfl ?_); refine zL (some 31) Try.func12 #[.agg #[.int .i64 ((rd_T23 l0_2 x5_2).f0), .int .i64 ((rd_T23 l0_2 x5_2).f1), .int .i64 ((rd_T23 l0_2 x5_2).f2), .int .i64 ((rd_T23 l0_2 x5_2).f3), .int .i64 ((rd_T23 l0_2 x5_2).f4), .int .i64 ((rd_T23 l0_2 x5_2).f5)]] ?_; (with_reducible refine (booklet_Need.calls k2 ((rd_T23 l0_2 x5_2).f0) ((rd_T23 l0_2 x5_2).f1) ((rd_T23 l0_2 x5_2).f2) ((rd_T23 l0_2 x5_2).f3) ((rd_T23 l0_2 x5_2).f4) ((rd_T23 l0_2 x5_2).f5) t129 _ A16.out).mono ?_); rintro e w27 ⟨rfl, hb⟩; refine ⟨_, rfl, ?_⟩; replace HO_4 := zS HO_4 hb; replace HO_6 := zR HO_6 hb; replace BK122 := zb BK122 hb; replace BK123 := zb BK123 hb; replace HB := zs HB hb; (try clear hb); (try clear hb2); (try clear hk); (try clear hi)) | ((with_reducible refine gate_builtin (b := .append) (xs := #[.tmp 39, .tmp 41]) rfl ?_); at_builtin; refine Kd.R_append (Kd.int .i64) (w0 := w) w.heap.size rfl (.tmp 39) (.tmp 41) 28 3 (.int .i64 0) 8 rfl Try.underlying28 info3 rfl (by decide) (by omega) u6 x6_2 x5_2 [.int .i64 x5_2] (fun _ => True) (fun _ => False) rfl rfl ?aP (fun _ hk => hk.elim) ?aF ?aO ?aB ?aS ?aL ?_; (case aP => exact rfl); (case aB => exact (zm HB)); (case aF => exact (fun _ _ => trivial)); (case aO => exact (by (with_reducible repeat (first | apply Kd.R_alloc | apply Kd.R_drewN | apply Kd.R_drew)); exact HO_6.out)); (case aS => exact (below_size (zm HB))); (case aL => have := LMc24.out; omega); intro v134 w28 ho hb hg hat; rw [← Ny133.out] at ho; have HO135 := za (ho); replace HO_4 := za (Kd.S_after (ok := (fun _ => True)) (by (with_reducible repeat (first | apply Kd.S_alloc | apply Kd.S_drewN | apply Kd.S_drew)); exact Kd.S_mono HO_4.out (fun _ hk => ⟨trivial, hk⟩)) hg hat); replace BK122 := (zw BK122 hg (Kd.R_ne HO_6.out BK122.out (by decide))); replace BK123 := (zw BK123 hg (Kd.R_ne HO_6.out BK123.out (by decide))); replace HB := za (hb); clear HO_6 ho hb hg hat))
           go_roundg k2
           case measure => have := HK1.out; have := HK2.out; omega
           case rel => exact ⟨(x4_2), (wrap64 (x5_2 + 1)), (y133), (wrap64 (x7_2 - t129)), (by first | rfl | (simp; done) | (simp [*]; done)), (by first | rfl | (simp; done) | (simp [*]; done)), H', ⟨by have := HK1.out; have := HK2.out; omega⟩, ⟨by (with_reducible repeat (first | apply Kd.S_alloc | apply Kd.S_drewN | apply Kd.S_drew)); exact Kd.S_mono HO_4.out (fun _ hk => hk.2)⟩, ⟨by (with_reducible repeat (first | apply Kd.R_alloc | apply Kd.R_drewN | apply Kd.R_drew)); exact HO135.out⟩, ⟨by (with_reducible repeat (first | refine blk_drewN ?_ _ | refine blk_drew ?_ | refine blk_alloc ?_ _)); exact BK122.out⟩, ⟨by (with_reducible repeat (first | refine blk_drewN ?_ _ | refine blk_drew ?_ | refine blk_alloc ?_ _)); exact BK123.out⟩, ⟨zm HB⟩⟩
          ·rw [if_neg c24] at H
           exact absurd H (by simp)
        ·rw [if_neg c15] at H
         exact absurd H (by simp)
       ·rw [if_neg c14] at H
        have c14b0 : decide (x5_2 < (l0_2.length : Int)) = false := decide_eq_false c14
        clear c14
        by_cases c29 : x4_2.length < 5864062014805
        ·rw [if_pos c29] at H
         have LMc29 := za c29
         clear c29
         obtain ⟨y136, hy136⟩ : ∃ y_ : List (List Int), y_ = (x4_2 ++ [x6_2]) := ⟨_, rfl⟩
         replace H : (booklet_Make.l0 k2 y136 x5_2 a0_0 a0_1 l0_2) = some (r1, r2) := by first | (rw [hy136]; with_reducible exact H) | (have H2_ := (Option.bind_some _ _).symm.trans H; rw [hy136]; with_reducible exact H2_) | (have H2_ := (Option.bind_some _ _).symm.trans H; with_reducible exact H2_) | with_reducible exact H | (rw [hy136]; exact H) | exact H
         have Ny136 := za hy136
         clear hy136
         have H' := za H
         clear H
         have hnb30 := NB122_123.out
         have hnc30 := NB123_122.out
         obtain ⟨hcz31_0, hcz31_1, hcz31_2, hfz31_0, hfz31_1, hfz31_2⟩ := z3 BK122
         obtain ⟨Ao33, co33, eo33⟩ := Kd.R_slice HO_6.out
         subst eo33
         go_wp2_with (first | ((with_reducible refine gate_builtin (b := .append) (xs := #[.tmp 43, .tmp 45]) rfl ?_); at_builtin; refine Kd.S_append (Kd.slice 3 (Kd.int .i64)) (w0 := w) w.heap.size rfl (.tmp 43) (.tmp 45) 36 28 (.slice none 0 0) 24 rfl Try.underlying36 info28 rfl (by decide) (by omega) u4 x4_2 x6_2 [.slice Ao33 x6_2.length co33] (fun _ => True) (fun k_ => some k_ = (.slice Ao33 x6_2.length co33 : Value).ownBlock) rfl rfl ?aP (fun k_ hk_ => ((Kd.R_mono (ok' := fun k_ => ((fun _ => True)) k_ ∧ some k_ ≠ (u4 : Value).ownBlock) (Kd.R_apart' (HO_6.out) (Kd.S_typed HO_4.out) (by decide)) (fun k_ hk => ⟨trivial, hk.2⟩))).1 k_ hk_.symm) ?aF ?aO ?aB ?aS ?aL ?_; (case aP => exact Kd.M_row (Kd.R_mono (Kd.R_tight rfl (Kd.R_mono (ok' := fun k_ => ((fun _ => True)) k_ ∧ some k_ ≠ (u4 : Value).ownBlock) (Kd.R_apart' (HO_6.out) (Kd.S_typed HO_4.out) (by decide)) (fun k_ hk => ⟨trivial, hk.2⟩))) (fun _ h_ => h_))); (case aB => exact (zm HB)); (case aF => exact (fun _ _ => trivial)); (case aO => exact (by (with_reducible repeat (first | apply Kd.S_alloc | apply Kd.S_drewN | apply Kd.S_drew)); exact Kd.S_mono HO_4.out (fun k_ hk => ⟨trivial, fun e_ => hk e_⟩))); (case aS => exact (below_size (zm HB))); (case aL => have := LMc29.out; omega); intro v137 w32 ho hb hg hat; rw [← Ny136.out] at ho; have HO138 := za (ho); replace BK122 := (zw BK122 hg (Kd.S_ne HO_4.out BK122.out (by decide))); replace BK123 := (zw BK123 hg (Kd.S_ne HO_4.out BK123.out (by decide))); replace HB := za (hb); clear HO_4 HO_6 ho hb hg hat))
         go_roundg k2
         case measure => have := HK1.out; have := HK2.out; omega
         case rel => exact ⟨(y136), (x5_2), (by first | rfl | (simp; done) | (simp [*]; done)), H', ⟨by have := HK1.out; have := HK2.out; omega⟩, ⟨by (with_reducible repeat (first | apply Kd.S_alloc | apply Kd.S_drewN | apply Kd.S_drew)); exact HO138.out⟩, ⟨by (with_reducible repeat (first | refine blk_drewN ?_ _ | refine blk_drew ?_ | refine blk_alloc ?_ _)); exact BK122.out⟩, ⟨by (with_reducible repeat (first | refine blk_drewN ?_ _ | refine blk_drew ?_ | refine blk_alloc ?_ _)); exact BK123.out⟩, ⟨zm HB⟩⟩
        ·rw [if_neg c29] at H
         exact absurd H (by simp)
    ·rw [if_neg c11] at H
     have c11b0 : decide (x5_1 < (l0_2.length : Int)) = false := decide_eq_false c11
     clear c11
     have H' := za H
     clear H
     have hnb34 := NB122_123.out
     have hnc34 := NB123_122.out
     obtain ⟨hcz35_0, hcz35_1, hcz35_2, hfz35_0, hfz35_1, hfz35_2⟩ := z3 BK122
     go_wp2
     go_loopg [4] k1 (fun kq v4 w' => ∃ (x4_2 : List (List Int)), Aside0 (booklet_Make.l2 kq x4_2 = some (r1, r2)) ∧ Aside0 (kq ≤ k1) ∧ Aside0 (Kd.S (Kd.slice 3 (Kd.int .i64)) 28 w' w.heap.size (fun _ => True) v4 x4_2) ∧ Aside0 (w'.heap[gb122]? = some (.cells #[.int .i64 a0_0, .int .i64 a0_1, (.slice A0_2 l0_2.length c0_2)] 33 (0, 0))) ∧ Aside0 (w'.heap[gb123]? = some (.cells #[(.slice none 0 0)] 38 (0, 0))) ∧ Aside0 (Below w.heap.size w w'))
     case atStart => exact ⟨(x4_1), H', ⟨Nat.le_refl _⟩, ⟨by (with_reducible repeat (first | apply Kd.S_alloc | apply Kd.S_drewN | apply Kd.S_drew)); exact HO_4.out⟩, ⟨by (with_reducible repeat (first | refine blk_drewN ?_ _ | refine blk_drew ?_ | refine blk_alloc ?_ _)); exact BK122.out⟩, ⟨by (with_reducible repeat (first | refine blk_drewN ?_ _ | refine blk_drew ?_ | refine blk_alloc ?_ _)); exact BK123.out⟩, ⟨zm HB⟩⟩
     case round =>
      clear H'
      try clear c1
      try clear p1
      try clear q1
      try clear hx1
      try clear c2
      try clear p2
      try clear c3
      try clear c6
      try clear p6
      try clear c11
      try clear c11b0
      try clear c12
      try clear p12
      try clear q12
      try clear hx12
      try clear c14
      try clear c14b0
      try clear c15
      try clear c15b0
      try clear c17
      try clear c17b0
      try clear c18
      try clear c19
      try clear c24
      try clear c25
      try clear c29
      try clear c30
      try clear c34
      try clear hcz13_0
      try clear hcz13_1
      try clear hcz13_2
      try clear hcz20_0
      try clear hcz20_1
      try clear hcz20_2
      try clear hcz26_0
      try clear hcz26_1
      try clear hcz26_2
      try clear hcz31_0
      try clear hcz31_1
      try clear hcz31_2
      try clear hcz35_0
      try clear hcz35_1
      try clear hcz35_2
      try clear hcz7_0
      try clear hcz7_1
      try clear hcz7_2
      try clear hfz13_0
      try clear hfz13_1
      try clear hfz13_2
      try clear hfz20_0
      try clear hfz20_1
      try clear hfz20_2
      try clear hfz26_0
      try clear hfz26_1
      try clear hfz26_2
      try clear hfz31_0
      try clear hfz31_1
      try clear hfz31_2
      try clear hfz35_0
      try clear hfz35_1
      try clear hfz35_2
      try clear hfz7_0
      try clear hfz7_1
      try clear hfz7_2
      try clear hx128_0
      try clear hx128_1
      try clear hx128_2
      try clear hx128_3
      try clear hx128_4
      try clear hx128_5
      try clear p128
      try clear p2
      try clear q128
      obtain ⟨x4_2, HA, HK2, HO_4, BK122, BK123, HB⟩ := hrel
      cases gk with
      | zero => exact absurd HA.out (by simp [booklet_Make.l2])
      | succ k2 =>
       have H := HA.out
       clear HA
       simp only [booklet_Make.l2] at H
       by_cases c36 : ((x4_2.length : Int) % 4) = 0
       ·rw [if_pos c36] at H
        have c36b0 : (((x4_2.length : Int) % 4) == 0) = true := beq_iff_eq.mpr c36
        have c36b1 : (((x4_2.length : Int) % 4) != 0) = false := bne_eq_false_iff_eq.mpr c36
        clear c36
        by_cases c37 : (x4_2.length : Int) > 12
        ·rw [if_pos c37] at H
         have c37b0 : decide (12 < (x4_2.length : Int)) = true := decide_eq_true c37
         have c37b1 : decide (12 < x4_2.length) = true := decide_eq_true (by omega)
         clear c37
         simp only [Option.some.injEq, Prod.mk.injEq] at H
         obtain ⟨rfl, rfl⟩ := H
         obtain ⟨Ao38, co38, eo38⟩ := Kd.S_slice HO_4.out
         subst eo38
         have hnb39 := NB123_122.out
         have hnc39 := NB122_123.out
         obtain ⟨hcz40_0, hfz40_0⟩ := z1 BK123
         go_wp2
         refine bodyPost_ret (results_ct rfl _ _ gb123 38 #[.slice none 0 0] (0, 0) _ rfl (by (with_reducible repeat (first | refine blk_drewN ?_ _ | refine blk_drew ?_ | refine blk_alloc ?_ _)); refine blk_put (cs := #[.slice none 0 0]) ?_ 0 _ rfl; (with_reducible repeat (first | refine blk_drewN ?_ _ | refine blk_drew ?_ | refine blk_alloc ?_ _)); exact BK123.out) Try.underlying38 rfl (by kernel_rfl)) rfl ?_
         exact ⟨_, zf, by first | exact Kd.S_nil _ _ _ _ _ | exact Kd.N_nil _ _ _ _ _ | exact Kd.V_nil _ _ _ _ _ | exact Kd.Q_nil _ _ _ _ _ | exact Kd.R_nil _ _ _ _ _, zm HB⟩
        ·rw [if_neg c37] at H
         have c37b0 : decide (12 < (x4_2.length : Int)) = false := decide_eq_false c37
         have c37b1 : decide (12 < x4_2.length) = false := decide_eq_false (by omega)
         clear c37
         simp only [Option.some.injEq, Prod.mk.injEq] at H
         obtain ⟨rfl, rfl⟩ := H
         obtain ⟨Ao41, co41, eo41⟩ := Kd.S_slice HO_4.out
         subst eo41
         have hnb42 := NB123_122.out
         have hnc42 := NB122_123.out
         obtain ⟨hcz43_0, hfz43_0⟩ := z1 BK123
         go_wp2
         refine bodyPost_ret (results_ct rfl _ _ gb123 38 #[.slice Ao41 x4_2.length co41] (0, 0) _ rfl (by (with_reducible repeat (first | refine blk_drewN ?_ _ | refine blk_drew ?_ | refine blk_alloc ?_ _)); refine blk_put (cs := #[.slice none 0 0]) ?_ 0 _ rfl; (with_reducible repeat (first | refine blk_drewN ?_ _ | refine blk_drew ?_ | refine blk_alloc ?_ _)); exact BK123.out) Try.underlying38 rfl (by kernel_rfl)) rfl ?_
         exact ⟨_, zf, by (with_reducible repeat (first | apply Kd.S_alloc | apply Kd.S_drewN | apply Kd.S_drew)); exact Kd.S_mono (Kd.S_far (p := ⟨gb123, 0, none⟩) (Kd.S_types HO_4.out BK123.out (by decide)) (fun _ hk => hk.2) (.slice Ao41 x4_2.length co41)) (fun _ hk => trivial), zm HB⟩
       ·rw [if_neg c36] at H
        have c36b0 : (((x4_2.length : Int) % 4) == 0) = false := beq_eq_false_iff_ne.mpr c36
        have c36b1 : (((x4_2.length : Int) % 4) != 0) = true := bne_iff_ne.mpr c36
        by_cases c44 : x4_2.length < 5864062014805
        ·rw [if_pos c44] at H
         have LMc44 := za c44
         clear c44
         obtain ⟨y139, hy139⟩ : ∃ y_ : List (List Int), y_ = (x4_2 ++ [[]]) := ⟨_, rfl⟩
         replace H : (booklet_Make.l2 k2 y139) = some (r1, r2) := by first | (rw [hy139]; with_reducible exact H) | (have H2_ := (Option.bind_some _ _).symm.trans H; rw [hy139]; with_reducible exact H2_) | (have H2_ := (Option.bind_some _ _).symm.trans H; with_reducible exact H2_) | with_reducible exact H | (rw [hy139]; exact H) | exact H
         have Ny139 := za hy139
         clear hy139
         have H' := za H
         clear H
         obtain ⟨Ao45, co45, eo45⟩ := Kd.S_slice HO_4.out
         subst eo45
         go_wp2_with (first | ((with_reducible refine gate_builtin (b := .append) (xs := #[.tmp 51, .tmp 52]) rfl ?_); at_builtin; refine Kd.S_append (Kd.slice 3 (Kd.int .i64)) (w0 := w) w.heap.size rfl (.tmp 51) (.tmp 52) 36 28 (.slice none 0 0) 24 rfl Try.underlying36 info28 rfl (by decide) (by omega) (.slice Ao45 x4_2.length co45) x4_2 ([] : List Int) [.slice none 0 0] (fun _ => True) (fun _ => False) rfl rfl ?aP (fun k_ hk_ => hk_.elim) ?aF ?aO ?aB ?aS ?aL ?_; (case aP => exact Kd.M_row (Kd.R_nil _ _ _ _ _)); (case aB => exact (zm HB)); (case aF => exact (fun _ _ => trivial)); (case aO => exact (by (with_reducible repeat (first | apply Kd.S_alloc | apply Kd.S_drewN | apply Kd.S_drew)); exact Kd.S_mono HO_4.out (fun k_ hk => ⟨trivial, fun e_ => e_⟩))); (case aS => exact (below_size (zm HB))); (case aL => have := LMc44.out; omega); intro v140 w46 ho hb hg hat; rw [← Ny139.out] at ho; have HO141 := za (ho); replace BK122 := (zw BK122 hg (Kd.S_ne HO_4.out BK122.out (by decide))); replace BK123 := (zw BK123 hg (Kd.S_ne HO_4.out BK123.out (by decide))); replace HB := za (hb); clear HO_4 ho hb hg hat))
         go_roundg k2
         case measure => have := HK1.out; have := HK2.out; omega
         case rel => exact ⟨(y139), H', ⟨by have := HK1.out; have := HK2.out; omega⟩, ⟨by (with_reducible repeat (first | apply Kd.S_alloc | apply Kd.S_drewN | apply Kd.S_drew)); exact HO141.out⟩, ⟨by (with_reducible repeat (first | refine blk_drewN ?_ _ | refine blk_drew ?_ | refine blk_alloc ?_ _)); exact BK122.out⟩, ⟨by (with_reducible repeat (first | refine blk_drewN ?_ _ | refine blk_drew ?_ | refine blk_alloc ?_ _)); exact BK123.out⟩, ⟨zm HB⟩⟩
        ·rw [if_neg c44] at H
         exact absurd H (by simp)
 ·replace c3 := Bool.eq_false_iff.mpr c3
  subst c3
  have H1 : (some (([] : List (List Int)), 1)) = some (r1, r2) := by rw [if_neg (show ¬ (false = true) by decide)] at H; exact H
  clear H
  have H := H1
  clear H1
  simp only [Option.some.injEq, Prod.mk.injEq] at H
  obtain ⟨rfl, rfl⟩ := H
  go_enter Try.func18, Try.ntmps18
  go_wp2_with (first | ((with_reducible refine gate_dst (N := 1) rfl ?_); refine zE 1 #[.int .i64 a0_0, .int .i64 a0_1, .slice A0_2 l0_2.length c0_2] 33 ?_; intro gb122 hg w47 hbox hb; have BK122 := za (hbox); have GW122 := zg HB hg; have GE122 := zg HB hg; replace HB := zs HB hb; clear hb hbox hg) | ((with_reducible refine gate_dst (N := 2) rfl ?_); refine zE 2 #[.slice none 0 0] 38 ?_; intro gb123 hg w48 hbox hb; have BK123 := za (hbox); have GW123 := zg HB hg; have GE123 := zg HB hg; have NB122_123 := zl BK122 hg; have NB123_122 := zr BK122 hg; replace BK122 := zb BK122 hb; replace HB := zs HB hb; clear hb hbox hg; have hnb49 := NB122_123.out; have hnc49 := NB123_122.out; obtain ⟨hcz50_0, hcz50_1, hcz50_2, hfz50_0, hfz50_1, hfz50_2⟩ := z3 BK122) | ((with_reducible refine gate_callee (f := 39) rfl ?_); refine zL (some 9) Try.func39 #[.agg #[.int .i64 a0_0, .int .i64 a0_1, .slice A0_2 l0_2.length c0_2]] ?_; (with_reducible refine (item_ValidPaper.calls k a0_0 a0_1 _ _ l0_2 false _ ?side1 ?side2 A2.out).mono ?_); (case side1 => exact zC HR0_2 HB); (case side2 => exact HC0_2.out); rintro e w51 ⟨rfl, hb⟩; refine ⟨_, rfl, ?_⟩; replace BK122 := zb BK122 hb; replace BK123 := zb BK123 hb; replace HB := zs HB hb; (try clear hb); (try clear hb2); (try clear hk); (try clear hi); obtain ⟨hcz52_0, hfz52_0⟩ := z1 BK123))
  refine wp_scope_body ?_
  go_wp2_with (first | ((with_reducible refine gate_dst (N := 1) rfl ?_); refine zE 1 #[.int .i64 a0_0, .int .i64 a0_1, .slice A0_2 l0_2.length c0_2] 33 ?_; intro gb122 hg w47 hbox hb; have BK122 := za (hbox); have GW122 := zg HB hg; have GE122 := zg HB hg; replace HB := zs HB hb; clear hb hbox hg) | ((with_reducible refine gate_dst (N := 2) rfl ?_); refine zE 2 #[.slice none 0 0] 38 ?_; intro gb123 hg w48 hbox hb; have BK123 := za (hbox); have GW123 := zg HB hg; have GE123 := zg HB hg; have NB122_123 := zl BK122 hg; have NB123_122 := zr BK122 hg; replace BK122 := zb BK122 hb; replace HB := zs HB hb; clear hb hbox hg; have hnb49 := NB122_123.out; have hnc49 := NB123_122.out; obtain ⟨hcz50_0, hcz50_1, hcz50_2, hfz50_0, hfz50_1, hfz50_2⟩ := z3 BK122) | ((with_reducible refine gate_callee (f := 39) rfl ?_); refine zL (some 9) Try.func39 #[.agg #[.int .i64 a0_0, .int .i64 a0_1, .slice A0_2 l0_2.length c0_2]] ?_; (with_reducible refine (item_ValidPaper.calls k a0_0 a0_1 _ _ l0_2 false _ ?side1 ?side2 A2.out).mono ?_); (case side1 => exact zC HR0_2 HB); (case side2 => exact HC0_2.out); rintro e w51 ⟨rfl, hb⟩; refine ⟨_, rfl, ?_⟩; replace BK122 := zb BK122 hb; replace BK123 := zb BK123 hb; replace HB := zs HB hb; (try clear hb); (try clear hb2); (try clear hk); (try clear hi); obtain ⟨hcz52_0, hfz52_0⟩ := z1 BK123))
  refine bodyPost_ret (results_ct rfl _ _ gb123 38 #[.slice none 0 0] (0, 0) _ rfl (by (with_reducible repeat (first | refine blk_drewN ?_ _ | refine blk_drew ?_ | refine blk_alloc ?_ _)); refine blk_put (cs := #[.slice none 0 0]) ?_ 0 _ rfl; (with_reducible repeat (first | refine blk_drewN ?_ _ | refine blk_drew ?_ | refine blk_alloc ?_ _)); exact BK123.out) Try.underlying38 rfl (by kernel_rfl)) rfl ?_
  exact ⟨_, zf, by first | exact Kd.S_nil _ _ _ _ _ | exact Kd.N_nil _ _ _ _ _ | exact Kd.V_nil _ _ _ _ _ | exact Kd.Q_nil _ _ _ _ _ | exact Kd.R_nil _ _ _ _ _, zm HB⟩

/-! ### booklet_Valid: function 23 -/
mutual
def booklet_Valid.j0 : Nat → Bool → Int → Int → List (S23) → List (List Int) → Option (Bool)
  | 0, _, _, _, _, _ => none
  | k + 1, x38, x143000, x143001, x143002, x144000 => if x38 = true then (some false) else (booklet_Valid.l0 k 0 x144000 (x144000.length : Int) 0 x143000 x143001 x143002)
def booklet_Valid.l0 : Nat → Int → List (List Int) → Int → Int → Int → Int → List (S23) → Option (Bool)
  | 0, _, _, _, _, _, _, _ => none
  | k + 1, x6, x40, x41, x42, x143000, x143001, x143002 => if x42 < x41 then (if 0 ≤ x42 then (if x42 < (x40.length : Int) then (booklet_Valid.l1 k x6 30 x40 x41 x42 (rd_L2 x40 x42) ((rd_L2 x40 x42).length : Int) 0 x143000 x143001 x143002) else (none)) else (none)) else (some (x6 == (x143002.length : Int)))
def booklet_Valid.l1 : Nat → Int → Int → List (List Int) → Int → Int → List Int → Int → Int → Int → Int → List (S23) → Option (Bool)
  | 0, _, _, _, _, _, _, _, _, _, _, _ => none
  | k + 1, x6, x9, x40, x41, x42, x46, x47, x48, x143000, x143001, x143002 => if x48 < x47 then (if 0 ≤ x48 then (if x48 < (x46.length : Int) then (if (rd x46 x48) = x6 then (if (rd x46 x48) ≥ (x143002.length : Int) then (some false) else (if 0 ≤ (rd x46 x48) then (if (rd x46 x48) < (x143002.length : Int) then ((booklet_Need.f k ((rd_T23 x143002 (rd x46 x48)).f0) ((rd_T23 x143002 (rd x46 x48)).f1) ((rd_T23 x143002 (rd x46 x48)).f2) ((rd_T23 x143002 (rd x46 x48)).f3) ((rd_T23 x143002 (rd x46 x48)).f4) ((rd_T23 x143002 (rd x46 x48)).f5)).bind fun t149 => (booklet_Valid.l1 k (wrap64 (x6 + 1)) (wrap64 (x9 - t149)) x40 x41 x42 x46 x47 (wrap64 (x48 + 1)) x143000 x143001 x143002)) else (none)) else (none))) else (some false)) else (none)) else (none)) else (if x9 < 0 then (some false) else (booklet_Valid.l0 k x6 x40 x41 (wrap64 (x42 + 1)) x143000 x143001 x143002))
end
def booklet_Valid.f (k : Nat) (a0_0 : Int) (a0_1 : Int) (l0_2 : List (S23)) (l1_0 : List (List Int)) : Option (Bool) := (item_ValidPaper.f k a0_0 a0_1 l0_2).bind fun t144 => (if t144 = true then (if (l1_0.length : Int) = 0 then (booklet_Valid.j0 k true a0_0 a0_1 l0_2 l1_0) else (if (l1_0.length : Int) > 12 then (booklet_Valid.j0 k true a0_0 a0_1 l0_2 l1_0) else (if ((l1_0.length : Int) % 4) = 0 then (if 0 < (l1_0.length : Int) then (booklet_Valid.j0 k (decide (((rd_L2 l1_0 0).length : Int) > 0)) a0_0 a0_1 l0_2 l1_0) else (none)) else (booklet_Valid.j0 k true a0_0 a0_1 l0_2 l1_0)))) else (booklet_Valid.j0 k true a0_0 a0_1 l0_2 l1_0))
theorem booklet_Valid.mono_l : ∀ k, (∀ y0 y1 y2 y3 y4, LeO (booklet_Valid.j0 k y0 y1 y2 y3 y4) (booklet_Valid.j0 (k + 1) y0 y1 y2 y3 y4)) ∧ (∀ y0 y1 y2 y3 y4 y5 y6, LeO (booklet_Valid.l0 k y0 y1 y2 y3 y4 y5 y6) (booklet_Valid.l0 (k + 1) y0 y1 y2 y3 y4 y5 y6)) ∧ (∀ y0 y1 y2 y3 y4 y5 y6 y7 y8 y9 y10, LeO (booklet_Valid.l1 k y0 y1 y2 y3 y4 y5 y6 y7 y8 y9 y10) (booklet_Valid.l1 (k + 1) y0 y1 y2 y3 y4 y5 y6 y7 y8 y9 y10))
  | 0 => ⟨fun _ _ _ _ _ r h => by simp [booklet_Valid.j0] at h, fun _ _ _ _ _ _ _ r h => by simp [booklet_Valid.l0] at h, fun _ _ _ _ _ _ _ _ _ _ _ r h => by simp [booklet_Valid.l1] at h⟩
  | k + 1 => by
    obtain ⟨ih0, ih1, ih2⟩ := booklet_Valid.mono_l k
    refine ⟨?_, ?_, ?_⟩
    · intro y0 y1 y2 y3 y4
      unfold booklet_Valid.j0
      repeat' first
      | (with_reducible exact ih0 _ _ _ _ _)
      | (with_reducible exact ih1 _ _ _ _ _ _ _)
      | (with_reducible exact ih2 _ _ _ _ _ _ _ _ _ _ _)
      | (with_reducible exact booklet_Need.mono _ _ _ _ _ _ _)
      | (with_reducible exact item_ValidPaper.mono _ _ _ _)
      | (with_reducible exact LeO.refl _)
      | (with_reducible exact LeO.none _)
      | (with_reducible refine LeO.ite ?_ ?_)
      | (with_reducible refine LeO.bind ?_ (fun _ => ?_))
      | exact ih0 _ _ _ _ _
      | exact ih1 _ _ _ _ _ _ _
      | exact ih2 _ _ _ _ _ _ _ _ _ _ _
      | exact booklet_Need.mono _ _ _ _ _ _ _
      | exact item_ValidPaper.mono _ _ _ _
      | exact LeO.none _
      | refine LeO.ite ?_ ?_
      | refine LeO.bind ?_ (fun _ => ?_)
    · intro y0 y1 y2 y3 y4 y5 y6
      unfold booklet_Valid.l0
      repeat' first
      | (with_reducible exact ih0 _ _ _ _ _)
      | (with_reducible exact ih1 _ _ _ _ _ _ _)
      | (with_reducible exact ih2 _ _ _ _ _ _ _ _ _ _ _)
      | (with_reducible exact booklet_Need.mono _ _ _ _ _ _ _)
      | (with_reducible exact item_ValidPaper.mono _ _ _ _)
      | (with_reducible exact LeO.refl _)
      | (with_reducible exact LeO.none _)
      | (with_reducible refine LeO.ite ?_ ?_)
      | (with_reducible refine LeO.bind ?_ (fun _ => ?_))
      | exact ih0 _ _ _ _ _
      | exact ih1 _ _ _ _ _ _ _
      | exact ih2 _ _ _ _ _ _ _ _ _ _ _
      | exact booklet_Need.mono _ _ _ _ _ _ _
      | exact item_ValidPaper.mono _ _ _ _
      | exact LeO.none _
      | refine LeO.ite ?_ ?_
      | refine LeO.bind ?_ (fun _ => ?_)
    · intro y0 y1 y2 y3 y4 y5 y6 y7 y8 y9 y10
      unfold booklet_Valid.l1
      repeat' first
      | (with_reducible exact ih0 _ _ _ _ _)
      | (with_reducible exact ih1 _ _ _ _ _ _ _)
      | (with_reducible exact ih2 _ _ _ _ _ _ _ _ _ _ _)
      | (with_reducible exact booklet_Need.mono _ _ _ _ _ _ _)
      | (with_reducible exact item_ValidPaper.mono _ _ _ _)
      | (with_reducible exact LeO.refl _)
      | (with_reducible exact LeO.none _)
      | (with_reducible refine LeO.ite ?_ ?_)
      | (with_reducible refine LeO.bind ?_ (fun _ => ?_))
      | exact ih0 _ _ _ _ _
      | exact ih1 _ _ _ _ _ _ _
      | exact ih2 _ _ _ _ _ _ _ _ _ _ _
      | exact booklet_Need.mono _ _ _ _ _ _ _
      | exact item_ValidPaper.mono _ _ _ _
      | exact LeO.none _
      | refine LeO.ite ?_ ?_
      | refine LeO.bind ?_ (fun _ => ?_)
theorem booklet_Valid.mono : ∀ a0 a1 a2 a3 k, LeO (booklet_Valid.f k a0 a1 a2 a3) (booklet_Valid.f (k + 1) a0 a1 a2 a3) := by
  intro a0 a1 a2 a3 k
  obtain ⟨ih0, ih1, ih2⟩ := booklet_Valid.mono_l k
  unfold booklet_Valid.f
  repeat' first
      | (with_reducible exact ih0 _ _ _ _ _)
      | (with_reducible exact ih1 _ _ _ _ _ _ _)
      | (with_reducible exact ih2 _ _ _ _ _ _ _ _ _ _ _)
      | (with_reducible exact booklet_Need.mono _ _ _ _ _ _ _)
      | (with_reducible exact item_ValidPaper.mono _ _ _ _)
      | (with_reducible exact LeO.refl _)
      | (with_reducible exact LeO.none _)
      | (with_reducible refine LeO.ite ?_ ?_)
      | (with_reducible refine LeO.bind ?_ (fun _ => ?_))
      | exact ih0 _ _ _ _ _
      | exact ih1 _ _ _ _ _ _ _
      | exact ih2 _ _ _ _ _ _ _ _ _ _ _
      | exact booklet_Need.mono _ _ _ _ _ _ _
      | exact item_ValidPaper.mono _ _ _ _
      | exact LeO.none _
      | refine LeO.ite ?_ ?_
      | refine LeO.bind ?_ (fun _ => ?_)
set_option maxHeartbeats 8000000 in
set_option maxRecDepth 100000 in
theorem booklet_Valid.calls (k : Nat) (a0_0 : Int) (a0_1 : Int) (A0_2 : Option Addr) (c0_2 : Nat) (l0_2 : List (S23)) (A1_0 : Option Addr) (c1_0 : Nat) (l1_0 : List (List Int)) (r : Bool) (w : World) (hr0_2 : Kd.C k23 w A0_2 l0_2.length l0_2) (hc0_2 : l0_2.length ≤ c0_2) (hr1_0 : Kd.C (Kd.slice 3 (Kd.int .i64)) w A1_0 l1_0.length l1_0) (hc1_0 : l1_0.length ≤ c1_0) (h : booklet_Valid.f k a0_0 a0_1 l0_2 l1_0 = some r) :
    Calls Try.prog 23 #[.agg #[.int .i64 a0_0, .int .i64 a0_1, .slice A0_2 l0_2.length c0_2], .agg #[.slice A1_0 l1_0.length c1_0]] w fun e w' => e = .returned (.bool r) ∧ Below w.heap.size w w' := by
 have hu33 := Try.underlying33
 have hu38 := Try.underlying38
 have hu23 := Try.underlying23
 have HR0_2 := za hr0_2
 have HC0_2 := za hc0_2
 clear hr0_2 hc0_2
 have HR1_0 := za hr1_0
 have HC1_0 := za hc1_0
 clear hr1_0 hc1_0
 have HB := za (Below.refl w.heap.size w)
 have H : ((item_ValidPaper.f k a0_0 a0_1 l0_2).bind fun t144 => (if t144 = true then (if (l1_0.length : Int) = 0 then (booklet_Valid.j0 k true a0_0 a0_1 l0_2 l1_0) else (if (l1_0.length : Int) > 12 then (booklet_Valid.j0 k true a0_0 a0_1 l0_2 l1_0) else (if ((l1_0.length : Int) % 4) = 0 then (if 0 < (l1_0.length : Int) then (booklet_Valid.j0 k (decide (((rd_L2 l1_0 0).length : Int) > 0)) a0_0 a0_1 l0_2 l1_0) else (none)) else (booklet_Valid.j0 k true a0_0 a0_1 l0_2 l1_0)))) else (booklet_Valid.j0 k true a0_0 a0_1 l0_2 l1_0))) = some r := h
 clear h
 have HC3 := za H
 clear H
 go_enter Try.func23, Try.ntmps23
 go_upto_region 2 with (first | ((with_reducible refine gate_dst (N := 2) rfl ?_); (try (refine gate_guard (by rfl) ?_; dsimp only)); refine zE 2 #[.int .i64 a0_0, .int .i64 a0_1, .slice A0_2 l0_2.length c0_2] 33 ?_; intro gb142 hg w4 hbox hb; have BK142 := za (hbox); have GW142 := zg HB hg; have GE142 := zg HB hg; replace HB := zs HB hb; clear hb hbox hg) | ((with_reducible refine gate_dst (N := 3) rfl ?_); (try (refine gate_guard (by rfl) ?_; dsimp only)); refine zE 3 #[.slice A1_0 l1_0.length c1_0] 38 ?_; intro gb143 hg w5 hbox hb; have BK143 := za (hbox); have GW143 := zg HB hg; have GE143 := zg HB hg; have NB142_143 := zl BK142 hg; have NB143_142 := zr BK142 hg; replace BK142 := zb BK142 hb; replace HB := zs HB hb; clear hb hbox hg; have hnb6 := NB143_142.out; have hnc6 := NB142_143.out; obtain ⟨hcz7_0, hfz7_0⟩ := z1 BK143))
 (try simp only [Act.put, List.setIfInBounds_toArray, List.set_cons_zero, List.set_cons_succ])
 go_cut [38] (fun v38 wc => ∃ (kq : Nat) (x38_2 : Bool), v38 = .bool x38_2 ∧ Aside0 (booklet_Valid.j0 kq x38_2 a0_0 a0_1 l0_2 l1_0 = some r) ∧ Aside0 (kq ≤ k) ∧ Aside0 (wc.heap[gb142]? = some (.cells #[.int .i64 a0_0, .int .i64 a0_1, (.slice A0_2 l0_2.length c0_2)] 33 (0, 0))) ∧ Aside0 (wc.heap[gb143]? = some (.cells #[(.slice A1_0 l1_0.length c1_0)] 38 (0, 0))) ∧ Aside0 (Below w.heap.size w wc))
 case first =>
  have H := HC3.out
  clear HC3
  replace H := Option.bind_eq_some_iff.mp H
  obtain ⟨t144, A80, H⟩ := H
  replace H : (if t144 = true then (if (l1_0.length : Int) = 0 then (booklet_Valid.j0 k true a0_0 a0_1 l0_2 l1_0) else (if (l1_0.length : Int) > 12 then (booklet_Valid.j0 k true a0_0 a0_1 l0_2 l1_0) else (if ((l1_0.length : Int) % 4) = 0 then (if 0 < (l1_0.length : Int) then (booklet_Valid.j0 k (decide (((rd_L2 l1_0 0).length : Int) > 0)) a0_0 a0_1 l0_2 l1_0) else (none)) else (booklet_Valid.j0 k true a0_0 a0_1 l0_2 l1_0)))) else (booklet_Valid.j0 k true a0_0 a0_1 l0_2 l1_0)) = some r := H
  have A8 := za A80
  clear A80
  by_cases c9 : t144 = true
  ·subst c9
   have H1 : (if (l1_0.length : Int) = 0 then (booklet_Valid.j0 k true a0_0 a0_1 l0_2 l1_0) else (if (l1_0.length : Int) > 12 then (booklet_Valid.j0 k true a0_0 a0_1 l0_2 l1_0) else (if ((l1_0.length : Int) % 4) = 0 then (if 0 < (l1_0.length : Int) then (booklet_Valid.j0 k (decide (((rd_L2 l1_0 0).length : Int) > 0)) a0_0 a0_1 l0_2 l1_0) else (none)) else (booklet_Valid.j0 k true a0_0 a0_1 l0_2 l1_0)))) = some r := by rw [if_pos rfl] at H; exact H
   clear H
   have H := H1
   clear H1
   by_cases c10 : (l1_0.length : Int) = 0
   ·rw [if_pos c10] at H
    have c10b0 : ((l1_0.length : Int) == 0) = true := beq_iff_eq.mpr c10
    have c10b1 : ((l1_0.length : Int) != 0) = false := bne_eq_false_iff_eq.mpr c10
    clear c10
    (first | rw [c10b0] | (simp only [i64_w, i32_w]; rw [c10b0]) | skip)
    have H' := za H
    clear H
    have hnb11 := NB142_143.out
    have hnc11 := NB143_142.out
    obtain ⟨hcz12_0, hcz12_1, hcz12_2, hfz12_0, hfz12_1, hfz12_2⟩ := z3 BK142
    go_wp2_with (first | ((with_reducible refine gate_callee (f := 39) rfl ?_); refine zL (some 16) Try.func39 #[.agg #[.int .i64 a0_0, .int .i64 a0_1, .slice A0_2 l0_2.length c0_2]] ?_; (with_reducible refine (item_ValidPaper.calls k a0_0 a0_1 _ _ l0_2 true _ ?side1 ?side2 A8.out).mono ?_); (case side1 => exact zC HR0_2 HB); (case side2 => exact HC0_2.out); rintro e w13 ⟨rfl, hb⟩; refine ⟨_, rfl, ?_⟩; replace BK142 := zb BK142 hb; replace BK143 := zb BK143 hb; replace HB := zs HB hb; (try clear hb); (try clear hb2); (try clear hk); (try clear hi)))
    go_meet
    case rel => exact ⟨_, (true), (by first | rfl | (simp; done) | (simp [*]; done)), H', ⟨by first | omega | exact Nat.le_refl _⟩, ⟨by (with_reducible repeat (first | refine blk_drewN ?_ _ | refine blk_drew ?_ | refine blk_alloc ?_ _)); exact BK142.out⟩, ⟨by (with_reducible repeat (first | refine blk_drewN ?_ _ | refine blk_drew ?_ | refine blk_alloc ?_ _)); exact BK143.out⟩, ⟨zm HB⟩⟩
   ·rw [if_neg c10] at H
    have c10b0 : ((l1_0.length : Int) == 0) = false := beq_eq_false_iff_ne.mpr c10
    have c10b1 : ((l1_0.length : Int) != 0) = true := bne_iff_ne.mpr c10
    have c10b2 : ¬ (l1_0 = []) := fun h_ => c10 (by rw [h_]; rfl)
    (first | rw [c10b0] | (simp only [i64_w, i32_w]; rw [c10b0]) | skip)
    by_cases c14 : (l1_0.length : Int) > 12
    ·rw [if_pos c14] at H
     have c14b0 : decide (12 < (l1_0.length : Int)) = true := decide_eq_true c14
     have c14b1 : decide (12 < l1_0.length) = true := decide_eq_true (by omega)
     clear c14
     have H' := za H
     clear H
     have hnb15 := NB142_143.out
     have hnc15 := NB143_142.out
     obtain ⟨hcz16_0, hcz16_1, hcz16_2, hfz16_0, hfz16_1, hfz16_2⟩ := z3 BK142
     go_wp2_with (first | ((with_reducible refine gate_callee (f := 39) rfl ?_); refine zL (some 16) Try.func39 #[.agg #[.int .i64 a0_0, .int .i64 a0_1, .slice A0_2 l0_2.length c0_2]] ?_; (with_reducible refine (item_ValidPaper.calls k a0_0 a0_1 _ _ l0_2 true _ ?side1 ?side2 A8.out).mono ?_); (case side1 => exact zC HR0_2 HB); (case side2 => exact HC0_2.out); rintro e w17 ⟨rfl, hb⟩; refine ⟨_, rfl, ?_⟩; replace BK142 := zb BK142 hb; replace BK143 := zb BK143 hb; replace HB := zs HB hb; (try clear hb); (try clear hb2); (try clear hk); (try clear hi)))
     go_meet
     case rel => exact ⟨_, (true), (by first | rfl | (simp; done) | (simp [*]; done)), H', ⟨by first | omega | exact Nat.le_refl _⟩, ⟨by (with_reducible repeat (first | refine blk_drewN ?_ _ | refine blk_drew ?_ | refine blk_alloc ?_ _)); exact BK142.out⟩, ⟨by (with_reducible repeat (first | refine blk_drewN ?_ _ | refine blk_drew ?_ | refine blk_alloc ?_ _)); exact BK143.out⟩, ⟨zm HB⟩⟩
    ·rw [if_neg c14] at H
     have c14b0 : decide (12 < (l1_0.length : Int)) = false := decide_eq_false c14
     have c14b1 : decide (12 < l1_0.length) = false := decide_eq_false (by omega)
     clear c14
     by_cases c18 : ((l1_0.length : Int) % 4) = 0
     ·rw [if_pos c18] at H
      have c18b0 : (((l1_0.length : Int) % 4) == 0) = true := beq_iff_eq.mpr c18
      have c18b1 : (((l1_0.length : Int) % 4) != 0) = false := bne_eq_false_iff_eq.mpr c18
      clear c18
      by_cases c19 : 0 < (l1_0.length : Int)
      ·rw [if_pos c19] at H
       have c19b0 : decide (0 < (l1_0.length : Int)) = true := decide_eq_true c19
       have c19b1 : decide (0 < l1_0.length) = true := decide_eq_true (by omega)
       clear c19
       have H' := za H
       clear H
       have hnb20 := NB142_143.out
       have hnc20 := NB143_142.out
       obtain ⟨hcz21_0, hcz21_1, hcz21_2, hfz21_0, hfz21_1, hfz21_2⟩ := z3 BK142
       go_wp2_with (first | ((with_reducible refine gate_callee (f := 39) rfl ?_); refine zL (some 16) Try.func39 #[.agg #[.int .i64 a0_0, .int .i64 a0_1, .slice A0_2 l0_2.length c0_2]] ?_; (with_reducible refine (item_ValidPaper.calls k a0_0 a0_1 _ _ l0_2 true _ ?side1 ?side2 A8.out).mono ?_); (case side1 => exact zC HR0_2 HB); (case side2 => exact HC0_2.out); rintro e w22 ⟨rfl, hb⟩; refine ⟨_, rfl, ?_⟩; replace BK142 := zb BK142 hb; replace BK143 := zb BK143 hb; replace HB := zs HB hb; (try clear hb); (try clear hb2); (try clear hk); (try clear hi); obtain ⟨hcz23_0, hfz23_0⟩ := z1 BK143; have p145 : 0 ≤ (0 : Int) := (by omega); have q145 : 0 < (l1_0.length : Int) := of_decide_eq_true (by first | (with_reducible assumption) | assumption); obtain ⟨ad145, A145_0, c145_0, e145, hx145_0, hl145_0, hi145_0⟩ := at_L2 HR1_0.out 0 p145 q145; cases e145; have qi145 : (0 < l1_0.length) = True := eq_true (by omega); (try rw [show ((0 : Int)).toNat = 0 from rfl] at hx145_0); (try rw [Addr.add_zero'] at hx145_0); replace hx145_0 := zx HB hx145_0; have HR145_0 := za hi145_0; have HC145_0 := za hl145_0; clear hi145_0 hl145_0; replace p145 := eq_true p145; replace q145 := eq_true q145))
       go_meet
       case rel => exact ⟨_, (decide (((rd_L2 l1_0 0).length : Int) > 0)), (by first | rfl | (simp; done) | (simp [*]; done)), H', ⟨by first | omega | exact Nat.le_refl _⟩, ⟨by (with_reducible repeat (first | refine blk_drewN ?_ _ | refine blk_drew ?_ | refine blk_alloc ?_ _)); exact BK142.out⟩, ⟨by (with_reducible repeat (first | refine blk_drewN ?_ _ | refine blk_drew ?_ | refine blk_alloc ?_ _)); exact BK143.out⟩, ⟨zm HB⟩⟩
      ·rw [if_neg c19] at H
       exact absurd H (by simp)
     ·rw [if_neg c18] at H
      have c18b0 : (((l1_0.length : Int) % 4) == 0) = false := beq_eq_false_iff_ne.mpr c18
      have c18b1 : (((l1_0.length : Int) % 4) != 0) = true := bne_iff_ne.mpr c18
      have H' := za H
      clear H
      have hnb24 := NB142_143.out
      have hnc24 := NB143_142.out
      obtain ⟨hcz25_0, hcz25_1, hcz25_2, hfz25_0, hfz25_1, hfz25_2⟩ := z3 BK142
      go_wp2_with (first | ((with_reducible refine gate_callee (f := 39) rfl ?_); refine zL (some 16) Try.func39 #[.agg #[.int .i64 a0_0, .int .i64 a0_1, .slice A0_2 l0_2.length c0_2]] ?_; (with_reducible refine (item_ValidPaper.calls k a0_0 a0_1 _ _ l0_2 true _ ?side1 ?side2 A8.out).mono ?_); (case side1 => exact zC HR0_2 HB); (case side2 => exact HC0_2.out); rintro e w26 ⟨rfl, hb⟩; refine ⟨_, rfl, ?_⟩; replace BK142 := zb BK142 hb; replace BK143 := zb BK143 hb; replace HB := zs HB hb; (try clear hb); (try clear hb2); (try clear hk); (try clear hi)))
      go_meet
      case rel => exact ⟨_, (true), (by first | rfl | (simp; done) | (simp [*]; done)), H', ⟨by first | omega | exact Nat.le_refl _⟩, ⟨by (with_reducible repeat (first | refine blk_drewN ?_ _ | refine blk_drew ?_ | refine blk_alloc ?_ _)); exact BK142.out⟩, ⟨by (with_reducible repeat (first | refine blk_drewN ?_ _ | refine blk_drew ?_ | refine blk_alloc ?_ _)); exact BK143.out⟩, ⟨zm HB⟩⟩
  ·replace c9 := Bool.eq_false_iff.mpr c9
   subst c9
   have H1 : (booklet_Valid.j0 k true a0_0 a0_1 l0_2 l1_0) = some r := by rw [if_neg (show ¬ (false = true) by decide)] at H; exact H
   clear H
   have H := H1
   clear H1
   have H' := za H
   clear H
   have hnb27 := NB142_143.out
   have hnc27 := NB143_142.out
   obtain ⟨hcz28_0, hcz28_1, hcz28_2, hfz28_0, hfz28_1, hfz28_2⟩ := z3 BK142
   go_wp2_with (first | ((with_reducible refine gate_callee (f := 39) rfl ?_); refine zL (some 16) Try.func39 #[.agg #[.int .i64 a0_0, .int .i64 a0_1, .slice A0_2 l0_2.length c0_2]] ?_; (with_reducible refine (item_ValidPaper.calls k a0_0 a0_1 _ _ l0_2 false _ ?side1 ?side2 A8.out).mono ?_); (case side1 => exact zC HR0_2 HB); (case side2 => exact HC0_2.out); rintro e w29 ⟨rfl, hb⟩; refine ⟨_, rfl, ?_⟩; replace BK142 := zb BK142 hb; replace BK143 := zb BK143 hb; replace HB := zs HB hb; (try clear hb); (try clear hb2); (try clear hk); (try clear hi)))
   go_meet
   case rel => exact ⟨_, (true), (by first | rfl | (simp; done) | (simp [*]; done)), H', ⟨by first | omega | exact Nat.le_refl _⟩, ⟨by (with_reducible repeat (first | refine blk_drewN ?_ _ | refine blk_drew ?_ | refine blk_alloc ?_ _)); exact BK142.out⟩, ⟨by (with_reducible repeat (first | refine blk_drewN ?_ _ | refine blk_drew ?_ | refine blk_alloc ?_ _)); exact BK143.out⟩, ⟨zm HB⟩⟩
 case rest =>
  clear HC3
  try clear c1
  try clear p1
  try clear q1
  try clear hx1
  try clear qi1
  try clear c2
  try clear p2
  try clear c3
  try clear c6
  try clear c9
  try clear c10
  try clear c10b0
  try clear c10b1
  try clear c10b2
  try clear c11
  try clear c14
  try clear c14b0
  try clear c14b1
  try clear p14
  try clear q14
  try clear hx14
  try clear qi14
  try clear c15
  try clear c18
  try clear c18b0
  try clear c18b1
  try clear c19
  try clear c19b0
  try clear c19b1
  try clear c20
  try clear c23
  try clear c24
  try clear c27
  try clear hcz12_0
  try clear hcz12_1
  try clear hcz12_2
  try clear hcz16_0
  try clear hcz16_1
  try clear hcz16_2
  try clear hcz21_0
  try clear hcz21_1
  try clear hcz21_2
  try clear hcz23_0
  try clear hcz25_0
  try clear hcz25_1
  try clear hcz25_2
  try clear hcz28_0
  try clear hcz28_1
  try clear hcz28_2
  try clear hcz7_0
  try clear hfz12_0
  try clear hfz12_1
  try clear hfz12_2
  try clear hfz16_0
  try clear hfz16_1
  try clear hfz16_2
  try clear hfz21_0
  try clear hfz21_1
  try clear hfz21_2
  try clear hfz23_0
  try clear hfz25_0
  try clear hfz25_1
  try clear hfz25_2
  try clear hfz28_0
  try clear hfz28_1
  try clear hfz28_2
  try clear hfz7_0
  try clear hx145_0
  try clear p145
  try clear q145
  obtain ⟨kq, x38_2, rfl, HA, HJ2, BK142, BK143, HB⟩ := hcut
  cases kq with
  | zero => exact absurd HA.out (by simp [booklet_Valid.j0])
  | succ kj2 =>
   have H := HA.out
   clear HA
   simp only [booklet_Valid.j0] at H
   by_cases c30 : x38_2 = true
   ·subst c30
    have H1 : (some false) = some r := by rw [if_pos rfl] at H; exact H
    clear H
    have H := H1
    clear H1
    obtain rfl := Option.some.inj H
    go_wp2
    go_ret
    exact ⟨zf, zm HB⟩
   ·replace c30 := Bool.eq_false_iff.mpr c30
    subst c30
    have H1 : (booklet_Valid.l0 kj2 0 l1_0 (l1_0.length : Int) 0 a0_0 a0_1 l0_2) = some r := by rw [if_neg (show ¬ (false = true) by decide)] at H; exact H
    clear H
    have H := H1
    clear H1
    have H' := za H
    clear H
    have hnb31 := NB143_142.out
    have hnc31 := NB142_143.out
    obtain ⟨hcz32_0, hfz32_0⟩ := z1 BK143
    go_wp2
    go_loopg [6, 42] kj2 (fun kq v6 v42 w' => ∃ (x6_2 : Int) (x42_2 : Int), v6 = .int .i64 x6_2 ∧ v42 = .int .i64 x42_2 ∧ Aside0 (booklet_Valid.l0 kq x6_2 l1_0 (l1_0.length : Int) x42_2 a0_0 a0_1 l0_2 = some r) ∧ Aside0 (kq ≤ kj2) ∧ Aside0 (w'.heap[gb142]? = some (.cells #[.int .i64 a0_0, .int .i64 a0_1, (.slice A0_2 l0_2.length c0_2)] 33 (0, 0))) ∧ Aside0 (w'.heap[gb143]? = some (.cells #[(.slice A1_0 l1_0.length c1_0)] 38 (0, 0))) ∧ Aside0 (Below w.heap.size w w'))
    case atStart => exact ⟨(0), (0), (by first | rfl | (simp; done) | (simp [*]; done)), (by first | rfl | (simp; done) | (simp [*]; done)), H', ⟨Nat.le_refl _⟩, ⟨by (with_reducible repeat (first | refine blk_drewN ?_ _ | refine blk_drew ?_ | refine blk_alloc ?_ _)); exact BK142.out⟩, ⟨by (with_reducible repeat (first | refine blk_drewN ?_ _ | refine blk_drew ?_ | refine blk_alloc ?_ _)); exact BK143.out⟩, ⟨zm HB⟩⟩
    case round =>
     clear H'
     try clear c1
     try clear p1
     try clear q1
     try clear hx1
     try clear qi1
     try clear c2
     try clear p2
     try clear c3
     try clear c6
     try clear c9
     try clear c10
     try clear c10b0
     try clear c10b1
     try clear c10b2
     try clear c11
     try clear c14
     try clear c14b0
     try clear c14b1
     try clear p14
     try clear q14
     try clear hx14
     try clear qi14
     try clear c15
     try clear c18
     try clear c18b0
     try clear c18b1
     try clear c19
     try clear c19b0
     try clear c19b1
     try clear c20
     try clear c23
     try clear c24
     try clear c27
     try clear c30
     try clear c31
     try clear hcz12_0
     try clear hcz12_1
     try clear hcz12_2
     try clear hcz16_0
     try clear hcz16_1
     try clear hcz16_2
     try clear hcz21_0
     try clear hcz21_1
     try clear hcz21_2
     try clear hcz23_0
     try clear hcz25_0
     try clear hcz25_1
     try clear hcz25_2
     try clear hcz28_0
     try clear hcz28_1
     try clear hcz28_2
     try clear hcz32_0
     try clear hcz7_0
     try clear hfz12_0
     try clear hfz12_1
     try clear hfz12_2
     try clear hfz16_0
     try clear hfz16_1
     try clear hfz16_2
     try clear hfz21_0
     try clear hfz21_1
     try clear hfz21_2
     try clear hfz23_0
     try clear hfz25_0
     try clear hfz25_1
     try clear hfz25_2
     try clear hfz28_0
     try clear hfz28_1
     try clear hfz28_2
     try clear hfz32_0
     try clear hfz7_0
     try clear hx145_0
     try clear p1
     try clear p14
     try clear p145
     try clear p2
     try clear q1
     try clear q14
     try clear q145
     obtain ⟨x6_2, x42_2, rfl, rfl, HA, HK2, BK142, BK143, HB⟩ := hrel
     cases gk with
     | zero => exact absurd HA.out (by simp [booklet_Valid.l0])
     | succ k2 =>
      have H := HA.out
      clear HA
      simp only [booklet_Valid.l0] at H
      by_cases c33 : x42_2 < (l1_0.length : Int)
      ·rw [if_pos c33] at H
       have c33b0 : decide (x42_2 < (l1_0.length : Int)) = true := decide_eq_true c33
       clear c33
       by_cases c34 : 0 ≤ x42_2
       ·rw [if_pos c34] at H
        have c34b0 : decide (0 ≤ x42_2) = true := decide_eq_true c34
        clear c34
        by_cases c35 : x42_2 < (l1_0.length : Int)
        ·rw [if_pos c35] at H
         have c35b0 : decide (x42_2 < (l1_0.length : Int)) = true := decide_eq_true c35
         clear c35
         have H' := za H
         clear H
         have p146 : 0 ≤ (x42_2 : Int) := of_decide_eq_true (by first | (with_reducible assumption) | assumption)
         have q146 : x42_2 < (l1_0.length : Int) := of_decide_eq_true (by first | (with_reducible assumption) | assumption)
         obtain ⟨ad146, A146_0, c146_0, e146, hx146_0, hl146_0, hi146_0⟩ := at_L2 HR1_0.out x42_2 p146 q146
         cases e146
         replace hx146_0 := zx HB hx146_0
         have HR146_0 := za hi146_0
         have HC146_0 := za hl146_0
         clear hi146_0 hl146_0
         replace p146 := eq_true p146
         replace q146 := eq_true q146
         go_wp2
         go_loopg [6, 9, 48] k2 (fun kq v6 v9 v48 w' => ∃ (x6_3 : Int) (x9_3 : Int) (x48_3 : Int), v6 = .int .i64 x6_3 ∧ v9 = .int .i64 x9_3 ∧ v48 = .int .i64 x48_3 ∧ Aside0 (booklet_Valid.l1 kq x6_3 x9_3 l1_0 (l1_0.length : Int) x42_2 (rd_L2 l1_0 x42_2) ((rd_L2 l1_0 x42_2).length : Int) x48_3 a0_0 a0_1 l0_2 = some r) ∧ Aside0 (kq ≤ k2) ∧ Aside0 (w'.heap[gb142]? = some (.cells #[.int .i64 a0_0, .int .i64 a0_1, (.slice A0_2 l0_2.length c0_2)] 33 (0, 0))) ∧ Aside0 (w'.heap[gb143]? = some (.cells #[(.slice (some ad146) l1_0.length c1_0)] 38 (0, 0))) ∧ Aside0 (Below w.heap.size w w'))
         case atStart => exact ⟨(x6_2), (30), (0), (by first | rfl | (simp; done) | (simp [*]; done)), (by first | rfl | (simp; done) | (simp [*]; done)), (by first | rfl | (simp; done) | (simp [*]; done)), H', ⟨Nat.le_refl _⟩, ⟨by (with_reducible repeat (first | refine blk_drewN ?_ _ | refine blk_drew ?_ | refine blk_alloc ?_ _)); exact BK142.out⟩, ⟨by (with_reducible repeat (first | refine blk_drewN ?_ _ | refine blk_drew ?_ | refine blk_alloc ?_ _)); exact BK143.out⟩, ⟨zm HB⟩⟩
         case round =>
          clear H'
          try clear c1
          try clear p1
          try clear q1
          try clear hx1
          try clear qi1
          try clear c2
          try clear p2
          try clear c3
          try clear c6
          try clear c9
          try clear c10
          try clear c10b0
          try clear c10b1
          try clear c10b2
          try clear c11
          try clear c14
          try clear c14b0
          try clear c14b1
          try clear p14
          try clear q14
          try clear hx14
          try clear qi14
          try clear c15
          try clear c18
          try clear c18b0
          try clear c18b1
          try clear c19
          try clear c19b0
          try clear c19b1
          try clear c20
          try clear c23
          try clear c24
          try clear c27
          try clear c30
          try clear c31
          try clear c33
          try clear c33b0
          try clear c34
          try clear c34b0
          try clear c35
          try clear c35b0
          try clear hcz12_0
          try clear hcz12_1
          try clear hcz12_2
          try clear hcz16_0
          try clear hcz16_1
          try clear hcz16_2
          try clear hcz21_0
          try clear hcz21_1
          try clear hcz21_2
          try clear hcz23_0
          try clear hcz25_0
          try clear hcz25_1
          try clear hcz25_2
          try clear hcz28_0
          try clear hcz28_1
          try clear hcz28_2
          try clear hcz32_0
          try clear hcz7_0
          try clear hfz12_0
          try clear hfz12_1
          try clear hfz12_2
          try clear hfz16_0
          try clear hfz16_1
          try clear hfz16_2
          try clear hfz21_0
          try clear hfz21_1
          try clear hfz21_2
          try clear hfz23_0
          try clear hfz25_0
          try clear hfz25_1
          try clear hfz25_2
          try clear hfz28_0
          try clear hfz28_1
          try clear hfz28_2
          try clear hfz32_0
          try clear hfz7_0
          try clear hx145_0
          try clear hx146_0
          try clear p1
          try clear p14
          try clear p145
          try clear p146
          try clear p2
          try clear q1
          try clear q14
          try clear q145
          try clear q146
          obtain ⟨x6_3, x9_3, x48_3, rfl, rfl, rfl, HA, HK3, BK142, BK143, HB⟩ := hrel
          cases gk with
          | zero => exact absurd HA.out (by simp [booklet_Valid.l1])
          | succ k3 =>
           have H := HA.out
           clear HA
           simp only [booklet_Valid.l1] at H
           by_cases c36 : x48_3 < ((rd_L2 l1_0 x42_2).length : Int)
           ·rw [if_pos c36] at H
            have c36b0 : decide (x48_3 < ((rd_L2 l1_0 x42_2).length : Int)) = true := decide_eq_true c36
            clear c36
            by_cases c37 : 0 ≤ x48_3
            ·rw [if_pos c37] at H
             have c37b0 : decide (0 ≤ x48_3) = true := decide_eq_true c37
             clear c37
             by_cases c38 : x48_3 < ((rd_L2 l1_0 x42_2).length : Int)
             ·rw [if_pos c38] at H
              have c38b0 : decide (x48_3 < ((rd_L2 l1_0 x42_2).length : Int)) = true := decide_eq_true c38
              clear c38
              by_cases c39 : (rd (rd_L2 l1_0 x42_2) x48_3) = x6_3
              ·rw [if_pos c39] at H
               have c39b0 : ((rd (rd_L2 l1_0 x42_2) x48_3) == x6_3) = true := beq_iff_eq.mpr c39
               have c39b1 : ((rd (rd_L2 l1_0 x42_2) x48_3) != x6_3) = false := bne_eq_false_iff_eq.mpr c39
               clear c39
               by_cases c40 : (rd (rd_L2 l1_0 x42_2) x48_3) ≥ (l0_2.length : Int)
               ·rw [if_pos c40] at H
                have c40b0 : decide ((l0_2.length : Int) ≤ (rd (rd_L2 l1_0 x42_2) x48_3)) = true := decide_eq_true c40
                clear c40
                obtain rfl := Option.some.inj H
                have p147 : 0 ≤ (x48_3 : Int) := of_decide_eq_true (by first | (with_reducible assumption) | assumption)
                have q147 : x48_3 < ((rd_L2 l1_0 x42_2).length : Int) := of_decide_eq_true (by first | (with_reducible assumption) | assumption)
                obtain ⟨ad147, e147, hx147_0⟩ := Kd.at_int HR146_0.out x48_3 p147 q147
                cases e147
                replace hx147_0 := zx HB hx147_0
                replace p147 := eq_true p147
                replace q147 := eq_true q147
                have hnb41 := NB142_143.out
                have hnc41 := NB143_142.out
                obtain ⟨hcz42_0, hcz42_1, hcz42_2, hfz42_0, hfz42_1, hfz42_2⟩ := z3 BK142
                go_wp2
                go_ret
                exact ⟨zf, zm HB⟩
               ·rw [if_neg c40] at H
                have c40b0 : decide ((l0_2.length : Int) ≤ (rd (rd_L2 l1_0 x42_2) x48_3)) = false := decide_eq_false c40
                clear c40
                by_cases c43 : 0 ≤ (rd (rd_L2 l1_0 x42_2) x48_3)
                ·rw [if_pos c43] at H
                 have c43b0 : decide (0 ≤ (rd (rd_L2 l1_0 x42_2) x48_3)) = true := decide_eq_true c43
                 clear c43
                 by_cases c44 : (rd (rd_L2 l1_0 x42_2) x48_3) < (l0_2.length : Int)
                 ·rw [if_pos c44] at H
                  have c44b0 : decide ((rd (rd_L2 l1_0 x42_2) x48_3) < (l0_2.length : Int)) = true := decide_eq_true c44
                  clear c44
                  replace H := Option.bind_eq_some_iff.mp H
                  obtain ⟨t149, A450, H⟩ := H
                  replace H : (booklet_Valid.l1 k3 (wrap64 (x6_3 + 1)) (wrap64 (x9_3 - t149)) l1_0 (l1_0.length : Int) x42_2 (rd_L2 l1_0 x42_2) ((rd_L2 l1_0 x42_2).length : Int) (wrap64 (x48_3 + 1)) a0_0 a0_1 l0_2) = some r := H
                  have A45 := za A450
                  clear A450
                  have H' := za H
                  clear H
                  have p147 : 0 ≤ (x48_3 : Int) := of_decide_eq_true (by first | (with_reducible assumption) | assumption)
                  have q147 : x48_3 < ((rd_L2 l1_0 x42_2).length : Int) := of_decide_eq_true (by first | (with_reducible assumption) | assumption)
                  obtain ⟨ad147, e147, hx147_0⟩ := Kd.at_int HR146_0.out x48_3 p147 q147
                  cases e147
                  replace hx147_0 := zx HB hx147_0
                  replace p147 := eq_true p147
                  replace q147 := eq_true q147
                  have hnb46 := NB142_143.out
                  have hnc46 := NB143_142.out
                  obtain ⟨hcz47_0, hcz47_1, hcz47_2, hfz47_0, hfz47_1, hfz47_2⟩ := z3 BK142
                  have p148 : 0 ≤ ((rd (rd_L2 l1_0 x42_2) x48_3) : Int) := of_decide_eq_true (by first | (with_reducible assumption) | assumption)
                  have q148 : (rd (rd_L2 l1_0 x42_2) x48_3) < (l0_2.length : Int) := of_decide_eq_true (by first | (with_reducible assumption) | assumption)
                  obtain ⟨ad148, e148, hx148_0, hx148_1, hx148_2, hx148_3, hx148_4, hx148_5⟩ := at_T23 HR0_2.out (rd (rd_L2 l1_0 x42_2) x48_3) p148 q148
                  cases e148
                  replace hx148_0 := zx HB hx148_0
                  replace hx148_1 := zx HB hx148_1
                  replace hx148_2 := zx HB hx148_2
                  replace hx148_3 := zx HB hx148_3
                  replace hx148_4 := zx HB hx148_4
                  replace hx148_5 := zx HB hx148_5
                  replace p148 := eq_true p148
                  replace q148 := eq_true q148
                  go_wp2_with (first | ((with_reducible refine gate_callee (f := 12) rfl ?_); refine zL (some 68) Try.func12 #[.agg #[.int .i64 ((rd_T23 l0_2 (rd (rd_L2 l1_0 x42_2) x48_3)).f0), .int .i64 ((rd_T23 l0_2 (rd (rd_L2 l1_0 x42_2) x48_3)).f1), .int .i64 ((rd_T23 l0_2 (rd (rd_L2 l1_0 x42_2) x48_3)).f2), .int .i64 ((rd_T23 l0_2 (rd (rd_L2 l1_0 x42_2) x48_3)).f3), .int .i64 ((rd_T23 l0_2 (rd (rd_L2 l1_0 x42_2) x48_3)).f4), .int .i64 ((rd_T23 l0_2 (rd (rd_L2 l1_0 x42_2) x48_3)).f5)]] ?_; (with_reducible refine (booklet_Need.calls k3 ((rd_T23 l0_2 (rd (rd_L2 l1_0 x42_2) x48_3)).f0) ((rd_T23 l0_2 (rd (rd_L2 l1_0 x42_2) x48_3)).f1) ((rd_T23 l0_2 (rd (rd_L2 l1_0 x42_2) x48_3)).f2) ((rd_T23 l0_2 (rd (rd_L2 l1_0 x42_2) x48_3)).f3) ((rd_T23 l0_2 (rd (rd_L2 l1_0 x42_2) x48_3)).f4) ((rd_T23 l0_2 (rd (rd_L2 l1_0 x42_2) x48_3)).f5) t149 _ A45.out).mono ?_); rintro e w48 ⟨rfl, hb⟩; refine ⟨_, rfl, ?_⟩; replace BK142 := zb BK142 hb; replace BK143 := zb BK143 hb; replace HB := zs HB hb; (try clear hb); (try clear hb2); (try clear hk); (try clear hi)))
                  go_roundg k3
                  case measure => have := HJ2.out; have := HK2.out; have := HK3.out; omega
                  case rel => exact ⟨(wrap64 (x6_3 + 1)), (wrap64 (x9_3 - t149)), (wrap64 (x48_3 + 1)), (by first | rfl | (simp; done) | (simp [*]; done)), (by first | rfl | (simp; done) | (simp [*]; done)), (by first | rfl | (simp; done) | (simp [*]; done)), H', ⟨by have := HJ2.out; have := HK2.out; have := HK3.out; omega⟩, ⟨by (with_reducible repeat (first | refine blk_drewN ?_ _ | refine blk_drew ?_ | refine blk_alloc ?_ _)); exact BK142.out⟩, ⟨by (with_reducible repeat (first | refine blk_drewN ?_ _ | refine blk_drew ?_ | refine blk_alloc ?_ _)); exact BK143.out⟩, ⟨zm HB⟩⟩
                 ·rw [if_neg c44] at H
                  exact absurd H (by simp)
                ·rw [if_neg c43] at H
                 exact absurd H (by simp)
              ·rw [if_neg c39] at H
               have c39b0 : ((rd (rd_L2 l1_0 x42_2) x48_3) == x6_3) = false := beq_eq_false_iff_ne.mpr c39
               have c39b1 : ((rd (rd_L2 l1_0 x42_2) x48_3) != x6_3) = true := bne_iff_ne.mpr c39
               obtain rfl := Option.some.inj H
               have p147 : 0 ≤ (x48_3 : Int) := of_decide_eq_true (by first | (with_reducible assumption) | assumption)
               have q147 : x48_3 < ((rd_L2 l1_0 x42_2).length : Int) := of_decide_eq_true (by first | (with_reducible assumption) | assumption)
               obtain ⟨ad147, e147, hx147_0⟩ := Kd.at_int HR146_0.out x48_3 p147 q147
               cases e147
               replace hx147_0 := zx HB hx147_0
               replace p147 := eq_true p147
               replace q147 := eq_true q147
               go_wp2
               go_ret
               exact ⟨zf, zm HB⟩
             ·rw [if_neg c38] at H
              exact absurd H (by simp)
            ·rw [if_neg c37] at H
             exact absurd H (by simp)
           ·rw [if_neg c36] at H
            have c36b0 : decide (x48_3 < ((rd_L2 l1_0 x42_2).length : Int)) = false := decide_eq_false c36
            clear c36
            by_cases c49 : x9_3 < 0
            ·rw [if_pos c49] at H
             have c49b0 : decide (x9_3 < 0) = true := decide_eq_true c49
             clear c49
             obtain rfl := Option.some.inj H
             go_wp2
             go_ret
             exact ⟨zf, zm HB⟩
            ·rw [if_neg c49] at H
             have c49b0 : decide (x9_3 < 0) = false := decide_eq_false c49
             clear c49
             have H' := za H
             clear H
             go_wp2
             go_roundg k3
             case measure => have := HJ2.out; have := HK2.out; have := HK3.out; omega
             case rel => exact ⟨(x6_3), (wrap64 (x42_2 + 1)), (by first | rfl | (simp; done) | (simp [*]; done)), (by first | rfl | (simp; done) | (simp [*]; done)), H', ⟨by have := HJ2.out; have := HK2.out; have := HK3.out; omega⟩, ⟨by (with_reducible repeat (first | refine blk_drewN ?_ _ | refine blk_drew ?_ | refine blk_alloc ?_ _)); exact BK142.out⟩, ⟨by (with_reducible repeat (first | refine blk_drewN ?_ _ | refine blk_drew ?_ | refine blk_alloc ?_ _)); exact BK143.out⟩, ⟨zm HB⟩⟩
        ·rw [if_neg c35] at H
         exact absurd H (by simp)
       ·rw [if_neg c34] at H
        exact absurd H (by simp)
      ·rw [if_neg c33] at H
       have c33b0 : decide (x42_2 < (l1_0.length : Int)) = false := decide_eq_false c33
       clear c33
       obtain rfl := Option.some.inj H
       have hnb50 := NB142_143.out
       have hnc50 := NB143_142.out
       obtain ⟨hcz51_0, hcz51_1, hcz51_2, hfz51_0, hfz51_1, hfz51_2⟩ := z3 BK142
       go_wp2
       go_ret
       exact ⟨zf, zm HB⟩

-- NOT PRINTED: function 41 (slices_IndexFunc_int_int)

/-! ### slices_Index_int_int: function 50 -/
def slices_Index_int_int.l0 : Nat → List Int → Int → Int → Int → Option (Int)
  | 0, _, _, _, _ => none
  | k + 1, x0, x1, x7, x8 => if x8 < x7 then (if 0 ≤ x8 then (if x8 < (x0.length : Int) then (if x1 = (rd x0 x8) then (some x8) else (slices_Index_int_int.l0 k x0 x1 x7 (wrap64 (x8 + 1)))) else (none)) else (none)) else (some (-1))
def slices_Index_int_int.f (k : Nat) (l0 : List Int) (a1 : Int) : Option (Int) := slices_Index_int_int.l0 k l0 a1 (l0.length : Int) 0
theorem slices_Index_int_int.mono_l : ∀ k, (∀ y0 y1 y2 y3, LeO (slices_Index_int_int.l0 k y0 y1 y2 y3) (slices_Index_int_int.l0 (k + 1) y0 y1 y2 y3))
  | 0 => fun _ _ _ _ r h => by simp [slices_Index_int_int.l0] at h
  | k + 1 => by
    have ih0 := slices_Index_int_int.mono_l k
    · intro y0 y1 y2 y3
      unfold slices_Index_int_int.l0
      repeat' first
      | (with_reducible exact ih0 _ _ _ _)
      | (with_reducible exact LeO.refl _)
      | (with_reducible exact LeO.none _)
      | (with_reducible refine LeO.ite ?_ ?_)
      | (with_reducible refine LeO.bind ?_ (fun _ => ?_))
      | exact ih0 _ _ _ _
      | exact LeO.none _
      | refine LeO.ite ?_ ?_
      | refine LeO.bind ?_ (fun _ => ?_)
theorem slices_Index_int_int.mono : ∀ a0 a1 k, LeO (slices_Index_int_int.f k a0 a1) (slices_Index_int_int.f (k + 1) a0 a1) := by
  intro a0 a1 k
  have ih0 := slices_Index_int_int.mono_l k
  unfold slices_Index_int_int.f
  repeat' first
      | (with_reducible exact ih0 _ _ _ _)
      | (with_reducible exact LeO.refl _)
      | (with_reducible exact LeO.none _)
      | (with_reducible refine LeO.ite ?_ ?_)
      | (with_reducible refine LeO.bind ?_ (fun _ => ?_))
      | exact ih0 _ _ _ _
      | exact LeO.none _
      | refine LeO.ite ?_ ?_
      | refine LeO.bind ?_ (fun _ => ?_)
set_option maxHeartbeats 8000000 in
set_option maxRecDepth 100000 in
theorem slices_Index_int_int.calls (k : Nat) (A0 : Option Addr) (c0 : Nat) (l0 : List Int) (a1 : Int) (r : Int) (w : World) (hr0 : Kd.C (Kd.int .i64) w A0 l0.length l0) (hc0 : l0.length ≤ c0) (h : slices_Index_int_int.f k l0 a1 = some r) :
    Calls Try.prog 50 #[.slice A0 l0.length c0, .int .i64 a1] w fun e w' => e = .returned (.int .i64 r) ∧ Drawn0 w w' := by
 have HR0 := za hr0
 have HC0 := za hc0
 clear hr0 hc0
 have H : (slices_Index_int_int.l0 k l0 a1 (l0.length : Int) 0) = some r := h
 clear h
 have H' := za H
 clear H
 go_enter Try.func50, Try.ntmps50
 go_wp2
 go_loopg [8] k (fun kq v8 w' => ∃ (x8_1 : Int), v8 = .int .i64 x8_1 ∧ Aside0 (slices_Index_int_int.l0 kq l0 a1 (l0.length : Int) x8_1 = some r) ∧ Aside0 (kq ≤ k) ∧ Drawn0 w w')
 case atStart => exact ⟨(0), (by first | rfl | (simp; done) | (simp [*]; done)), H', ⟨Nat.le_refl _⟩, by repeat (first | exact Drawn0.refl _ | apply Drawn0.step)⟩
 case round =>
  clear H'
  try clear p2
  obtain ⟨x8_1, rfl, HA, HK1, ⟨m1, rfl⟩⟩ := hrel
  cases gk with
  | zero => exact absurd HA.out (by simp [slices_Index_int_int.l0])
  | succ k1 =>
   have H := HA.out
   clear HA
   simp only [slices_Index_int_int.l0] at H
   by_cases c3 : x8_1 < (l0.length : Int)
   ·rw [if_pos c3] at H
    have c3b0 : decide (x8_1 < (l0.length : Int)) = true := decide_eq_true c3
    clear c3
    by_cases c4 : 0 ≤ x8_1
    ·rw [if_pos c4] at H
     have c4b0 : decide (0 ≤ x8_1) = true := decide_eq_true c4
     clear c4
     by_cases c5 : x8_1 < (l0.length : Int)
     ·rw [if_pos c5] at H
      have c5b0 : decide (x8_1 < (l0.length : Int)) = true := decide_eq_true c5
      clear c5
      by_cases c6 : a1 = (rd l0 x8_1)
      ·rw [if_pos c6] at H
       have c6b0 : (a1 == (rd l0 x8_1)) = true := beq_iff_eq.mpr c6
       have c6b1 : (a1 != (rd l0 x8_1)) = false := bne_eq_false_iff_eq.mpr c6
       clear c6
       obtain rfl := Option.some.inj H
       have p150 : 0 ≤ (x8_1 : Int) := of_decide_eq_true (by first | (with_reducible assumption) | assumption)
       have q150 : x8_1 < (l0.length : Int) := of_decide_eq_true (by first | (with_reducible assumption) | assumption)
       obtain ⟨ad150, e150, hx150_0⟩ := Kd.at_int HR0.out x8_1 p150 q150
       cases e150
       replace p150 := eq_true p150
       replace q150 := eq_true q150
       go_wp2
       go_ret
       exact ⟨by first | rfl | (simp; done) | (simp [*]; done), by repeat (first | exact Drawn0.refl _ | apply Drawn0.step)⟩
      ·rw [if_neg c6] at H
       have c6b0 : (a1 == (rd l0 x8_1)) = false := beq_eq_false_iff_ne.mpr c6
       have c6b1 : (a1 != (rd l0 x8_1)) = true := bne_iff_ne.mpr c6
       have H' := za H
       clear H
       have p150 : 0 ≤ (x8_1 : Int) := of_decide_eq_true (by first | (with_reducible assumption) | assumption)
       have q150 : x8_1 < (l0.length : Int) := of_decide_eq_true (by first | (with_reducible assumption) | assumption)
       obtain ⟨ad150, e150, hx150_0⟩ := Kd.at_int HR0.out x8_1 p150 q150
       cases e150
       replace p150 := eq_true p150
       replace q150 := eq_true q150
       go_wp2
       go_roundg k1
       case measure => have := HK1.out; omega
       case rel => exact ⟨(wrap64 (x8_1 + 1)), (by first | rfl | (simp; done) | (simp [*]; done)), H', ⟨by have := HK1.out; omega⟩, by repeat (first | exact Drawn0.refl _ | apply Drawn0.step)⟩
     ·rw [if_neg c5] at H
      exact absurd H (by simp)
    ·rw [if_neg c4] at H
     exact absurd H (by simp)
   ·rw [if_neg c3] at H
    have c3b0 : decide (x8_1 < (l0.length : Int)) = false := decide_eq_false c3
    clear c3
    obtain rfl := Option.some.inj H
    go_wp2
    go_ret
    exact ⟨by first | rfl | (simp; done) | (simp [*]; done), by repeat (first | exact Drawn0.refl _ | apply Drawn0.step)⟩

/-! ### slices_Contains_int_int: function 43 -/
def slices_Contains_int_int.f (k : Nat) (l0 : List Int) (a1 : Int) : Option (Bool) := (slices_Index_int_int.f k l0 a1).bind fun t151 => (some (decide (t151 ≥ 0)))
theorem slices_Contains_int_int.mono : ∀ a0 a1 k, LeO (slices_Contains_int_int.f k a0 a1) (slices_Contains_int_int.f (k + 1) a0 a1) := by
  intro a0 a1 k
  unfold slices_Contains_int_int.f
  repeat' first
      | (with_reducible exact slices_Index_int_int.mono _ _ _)
      | (with_reducible exact LeO.refl _)
      | (with_reducible exact LeO.none _)
      | (with_reducible refine LeO.ite ?_ ?_)
      | (with_reducible refine LeO.bind ?_ (fun _ => ?_))
      | exact slices_Index_int_int.mono _ _ _
      | exact LeO.none _
      | refine LeO.ite ?_ ?_
      | refine LeO.bind ?_ (fun _ => ?_)
set_option maxHeartbeats 8000000 in
set_option maxRecDepth 100000 in
theorem slices_Contains_int_int.calls (k : Nat) (A0 : Option Addr) (c0 : Nat) (l0 : List Int) (a1 : Int) (r : Bool) (w : World) (hr0 : Kd.C (Kd.int .i64) w A0 l0.length l0) (hc0 : l0.length ≤ c0) (h : slices_Contains_int_int.f k l0 a1 = some r) :
    Calls Try.prog 43 #[.slice A0 l0.length c0, .int .i64 a1] w fun e w' => e = .returned (.bool r) ∧ Drawn0 w w' := by
 have HR0 := za hr0
 have HC0 := za hc0
 clear hr0 hc0
 have H : ((slices_Index_int_int.f k l0 a1).bind fun t151 => (some (decide (t151 ≥ 0)))) = some r := h
 clear h
 replace H := Option.bind_eq_some_iff.mp H
 obtain ⟨t151, A30, H⟩ := H
 replace H : (some (decide (t151 ≥ 0))) = some r := H
 have A3 := za A30
 clear A30
 obtain rfl := Option.some.inj H
 go_enter Try.func43, Try.ntmps43
 go_wp2_with (first | ((with_reducible refine gate_callee (f := 50) rfl ?_); refine zL (some 7) Try.func50 #[.slice A0 l0.length c0, .int .i64 a1] ?_; (with_reducible refine (slices_Index_int_int.calls k _ _ l0 a1 t151 _ ?side1 ?side2 A3.out).mono ?_); (case side1 => repeat (first | exact HR0.out | (with_reducible refine Kd.C_alloc ?_ _) | (with_reducible refine Kd.C_drewN ?_ _) | (with_reducible refine Kd.C_drew ?_))); (case side2 => exact HC0.out); rintro e w' ⟨rfl, ⟨nd, rfl⟩⟩; refine ⟨_, rfl, ?_⟩))
 go_ret
 exact ⟨by first | rfl | (simp; done) | (simp [*]; done), by repeat (first | exact Drawn0.refl _ | apply Drawn0.step)⟩

/-! ### booklet_PageOf_1: function 42 (a closure: the part's number lies in block gq_) -/
def booklet_PageOf_1.f (k : Nat) (l0 : List Int) (a1_0 : Int) : Option Bool := (slices_Contains_int_int.f k l0 a1_0).bind fun t => some t
theorem booklet_PageOf_1.mono : ∀ a0 a1 k, LeO (booklet_PageOf_1.f k a0 a1) (booklet_PageOf_1.f (k + 1) a0 a1) := by
  intro a0 a1 k
  unfold booklet_PageOf_1.f
  exact LeO.bind (slices_Contains_int_int.mono _ _ _) (fun _ => LeO.refl _)
set_option maxHeartbeats 8000000 in
set_option maxRecDepth 100000 in
theorem booklet_PageOf_1.calls (k : Nat) (A0 : Option Addr) (c0 : Nat) (l0 : List Int) (a1_0 : Int) (r : Bool) (w : World) (hr0 : Kd.C (Kd.int .i64) w A0 l0.length l0) (hc0 : l0.length ≤ c0) (h : booklet_PageOf_1.f k l0 a1_0 = some r) {gq_ : Nat} (hq_ : Aside0 (w.cell? ⟨gq_, 0, none⟩ = some (.int .i64 a1_0))) :
    Calls Try.prog 42 #[.slice A0 l0.length c0, .pointer (some ⟨gq_, 0, none⟩)] w fun e w' => e = .returned (.bool r) ∧ Below w.heap.size w w' := by
  have H : ((slices_Contains_int_int.f k l0 a1_0).bind fun t => some t) = some r := h
  clear h
  replace H := Option.bind_eq_some_iff.mp H
  obtain ⟨t1, A10, H⟩ := H
  have A1 := za A10
  clear A10
  have hc1 := hq_.out
  clear hq_
  obtain rfl := Option.some.inj H
  clear H
  have HR0 := za hr0
  have HC0 := za hc0
  clear hr0 hc0
  go_enter Try.func42, Try.ntmps42
  go_wp2_with (first | (go_at_call 43; (with_reducible refine (slices_Contains_int_int.calls k _ _ l0 a1_0 t1 _ ?side1 ?side2 A1.out).mono ?_); (case side1 => repeat (first | exact HR0.out | (with_reducible refine Kd.C_alloc ?_ _) | (with_reducible refine Kd.C_drewN ?_ _) | (with_reducible refine Kd.C_drew ?_))); (case side2 => exact HC0.out); rintro e w' ⟨rfl, ⟨nd, rfl⟩⟩))
  go_ret
  exact ⟨by first | rfl | (simp; done) | (simp [*]; done), by repeat (first | exact Below.refl _ _ | apply pw_below_drewN | apply below_drew1)⟩

/-! ### slices_IndexFunc_int_int_PageOf_1_s41: function 41 -/
def slices_IndexFunc_int_int_PageOf_1_s41.l0 : Nat → List (List Int) → Int → Int → Int → Option (Int)
  | 0, _, _, _, _ => none
  | k + 1, x0, x1, x7, x8 => if x8 < x7 then (if 0 ≤ x8 then (if x8 < (x0.length : Int) then ((booklet_PageOf_1.f k (rd_L2 x0 x8) x1).bind fun t153 => (if t153 = true then (some x8) else (slices_IndexFunc_int_int_PageOf_1_s41.l0 k x0 x1 x7 (wrap64 (x8 + 1))))) else (none)) else (none)) else (some (-1))
def slices_IndexFunc_int_int_PageOf_1_s41.f (k : Nat) (l0 : List (List Int)) (a1_0 : Int) : Option (Int) := slices_IndexFunc_int_int_PageOf_1_s41.l0 k l0 a1_0 (l0.length : Int) 0
theorem slices_IndexFunc_int_int_PageOf_1_s41.mono_l : ∀ k, (∀ y0 y1 y2 y3, LeO (slices_IndexFunc_int_int_PageOf_1_s41.l0 k y0 y1 y2 y3) (slices_IndexFunc_int_int_PageOf_1_s41.l0 (k + 1) y0 y1 y2 y3))
  | 0 => fun _ _ _ _ r h => by simp [slices_IndexFunc_int_int_PageOf_1_s41.l0] at h
  | k + 1 => by
    have ih0 := slices_IndexFunc_int_int_PageOf_1_s41.mono_l k
    · intro y0 y1 y2 y3
      unfold slices_IndexFunc_int_int_PageOf_1_s41.l0
      repeat' first
      | (with_reducible exact ih0 _ _ _ _)
      | (with_reducible exact booklet_PageOf_1.mono _ _ _)
      | (with_reducible exact LeO.refl _)
      | (with_reducible exact LeO.none _)
      | (with_reducible refine LeO.ite ?_ ?_)
      | (with_reducible refine LeO.bind ?_ (fun _ => ?_))
      | exact ih0 _ _ _ _
      | exact booklet_PageOf_1.mono _ _ _
      | exact LeO.none _
      | refine LeO.ite ?_ ?_
      | refine LeO.bind ?_ (fun _ => ?_)
theorem slices_IndexFunc_int_int_PageOf_1_s41.mono : ∀ a0 a1 k, LeO (slices_IndexFunc_int_int_PageOf_1_s41.f k a0 a1) (slices_IndexFunc_int_int_PageOf_1_s41.f (k + 1) a0 a1) := by
  intro a0 a1 k
  have ih0 := slices_IndexFunc_int_int_PageOf_1_s41.mono_l k
  unfold slices_IndexFunc_int_int_PageOf_1_s41.f
  repeat' first
      | (with_reducible exact ih0 _ _ _ _)
      | (with_reducible exact booklet_PageOf_1.mono _ _ _)
      | (with_reducible exact LeO.refl _)
      | (with_reducible exact LeO.none _)
      | (with_reducible refine LeO.ite ?_ ?_)
      | (with_reducible refine LeO.bind ?_ (fun _ => ?_))
      | exact ih0 _ _ _ _
      | exact booklet_PageOf_1.mono _ _ _
      | exact LeO.none _
      | refine LeO.ite ?_ ?_
      | refine LeO.bind ?_ (fun _ => ?_)
set_option maxHeartbeats 8000000 in
set_option maxRecDepth 100000 in
theorem slices_IndexFunc_int_int_PageOf_1_s41.calls (k : Nat) (A0 : Option Addr) (c0 : Nat) (l0 : List (List Int)) (a1_0 : Int) (r : Int) (w : World) (hr0 : Kd.C (Kd.slice 3 (Kd.int .i64)) w A0 l0.length l0) (hc0 : l0.length ≤ c0) (h : slices_IndexFunc_int_int_PageOf_1_s41.f k l0 a1_0 = some r) {gq_ : Nat} (hq_ : Aside0 (w.cell? ⟨gq_, 0, none⟩ = some (.int .i64 a1_0))) :
    Calls Try.prog 41 #[.slice A0 l0.length c0, .func (.func 42) #[] #[.pointer (some ⟨gq_, 0, none⟩)]] w fun e w' => e = .returned (.int .i64 r) ∧ Below w.heap.size w w' := by
 have HR0 := za hr0
 have HC0 := za hc0
 clear hr0 hc0
 have HB := za (Below.refl w.heap.size w)
 have H : (slices_IndexFunc_int_int_PageOf_1_s41.l0 k l0 a1_0 (l0.length : Int) 0) = some r := h
 clear h
 have H' := za H
 clear H
 go_enter Try.func41, Try.ntmps41
 go_wp2
 go_loopg [8] k (fun kq v8 w' => ∃ (x8_1 : Int), v8 = .int .i64 x8_1 ∧ Aside0 (slices_IndexFunc_int_int_PageOf_1_s41.l0 kq l0 a1_0 (l0.length : Int) x8_1 = some r) ∧ Aside0 (kq ≤ k) ∧ Aside0 (Below w.heap.size w w'))
 case atStart => exact ⟨(0), (by first | rfl | (simp; done) | (simp [*]; done)), H', ⟨Nat.le_refl _⟩, ⟨zm HB⟩⟩
 case round =>
  clear H'
  try clear p2
  obtain ⟨x8_1, rfl, HA, HK1, HB⟩ := hrel
  cases gk with
  | zero => exact absurd HA.out (by simp [slices_IndexFunc_int_int_PageOf_1_s41.l0])
  | succ k1 =>
   have H := HA.out
   clear HA
   simp only [slices_IndexFunc_int_int_PageOf_1_s41.l0] at H
   by_cases c3 : x8_1 < (l0.length : Int)
   ·rw [if_pos c3] at H
    have c3b0 : decide (x8_1 < (l0.length : Int)) = true := decide_eq_true c3
    clear c3
    by_cases c4 : 0 ≤ x8_1
    ·rw [if_pos c4] at H
     have c4b0 : decide (0 ≤ x8_1) = true := decide_eq_true c4
     clear c4
     by_cases c5 : x8_1 < (l0.length : Int)
     ·rw [if_pos c5] at H
      have c5b0 : decide (x8_1 < (l0.length : Int)) = true := decide_eq_true c5
      clear c5
      replace H := Option.bind_eq_some_iff.mp H
      obtain ⟨t153, A60, H⟩ := H
      replace H : (if t153 = true then (some x8_1) else (slices_IndexFunc_int_int_PageOf_1_s41.l0 k1 l0 a1_0 (l0.length : Int) (wrap64 (x8_1 + 1)))) = some r := H
      have A6 := za A60
      clear A60
      by_cases c7 : t153 = true
      ·subst c7
       have H1 : (some x8_1) = some r := by rw [if_pos rfl] at H; exact H
       clear H
       have H := H1
       clear H1
       obtain rfl := Option.some.inj H
       have p152 : 0 ≤ (x8_1 : Int) := of_decide_eq_true (by first | (with_reducible assumption) | assumption)
       have q152 : x8_1 < (l0.length : Int) := of_decide_eq_true (by first | (with_reducible assumption) | assumption)
       obtain ⟨ad152, A152_0, c152_0, e152, hx152_0, hl152_0, hi152_0⟩ := at_L2 HR0.out x8_1 p152 q152
       cases e152
       replace hx152_0 := zx HB hx152_0
       have HR152_0 := za hi152_0
       have HC152_0 := za hl152_0
       clear hi152_0 hl152_0
       replace p152 := eq_true p152
       replace q152 := eq_true q152
       go_wp2_with (first | (go_at_call 42; (with_reducible refine (booklet_PageOf_1.calls k1 _ _ (rd_L2 l0 x8_1) a1_0 true _ ?side1 ?side2 A6.out ?sideq).mono ?_); (case side1 => exact zC HR152_0 HB); (case side2 => exact HC152_0.out); (case sideq => first | assumption | (with_unfolding_all assumption) | exact za (by assumption) | exact za (by with_unfolding_all assumption) | exact za (pw_cell_below HB.out hq_.out) | exact za (pw_cell_below (zm HB) hq_.out)); rintro e w8 ⟨rfl, hb⟩; replace HB := zs HB hb; (try clear hb); (try clear hb2); (try clear hk); (try clear hi)))
       go_ret
       exact ⟨zf, zm HB⟩
      ·replace c7 := Bool.eq_false_iff.mpr c7
       subst c7
       have H1 : (slices_IndexFunc_int_int_PageOf_1_s41.l0 k1 l0 a1_0 (l0.length : Int) (wrap64 (x8_1 + 1))) = some r := by rw [if_neg (show ¬ (false = true) by decide)] at H; exact H
       clear H
       have H := H1
       clear H1
       have H' := za H
       clear H
       have p152 : 0 ≤ (x8_1 : Int) := of_decide_eq_true (by first | (with_reducible assumption) | assumption)
       have q152 : x8_1 < (l0.length : Int) := of_decide_eq_true (by first | (with_reducible assumption) | assumption)
       obtain ⟨ad152, A152_0, c152_0, e152, hx152_0, hl152_0, hi152_0⟩ := at_L2 HR0.out x8_1 p152 q152
       cases e152
       replace hx152_0 := zx HB hx152_0
       have HR152_0 := za hi152_0
       have HC152_0 := za hl152_0
       clear hi152_0 hl152_0
       replace p152 := eq_true p152
       replace q152 := eq_true q152
       go_wp2_with (first | (go_at_call 42; (with_reducible refine (booklet_PageOf_1.calls k1 _ _ (rd_L2 l0 x8_1) a1_0 false _ ?side1 ?side2 A6.out ?sideq).mono ?_); (case side1 => exact zC HR152_0 HB); (case side2 => exact HC152_0.out); (case sideq => first | assumption | (with_unfolding_all assumption) | exact za (by assumption) | exact za (by with_unfolding_all assumption) | exact za (pw_cell_below HB.out hq_.out) | exact za (pw_cell_below (zm HB) hq_.out)); rintro e w9 ⟨rfl, hb⟩; replace HB := zs HB hb; (try clear hb); (try clear hb2); (try clear hk); (try clear hi)))
       go_roundg k1
       case measure => have := HK1.out; omega
       case rel => exact ⟨(wrap64 (x8_1 + 1)), (by first | rfl | (simp; done) | (simp [*]; done)), H', ⟨by have := HK1.out; omega⟩, ⟨zm HB⟩⟩
     ·rw [if_neg c5] at H
      exact absurd H (by simp)
    ·rw [if_neg c4] at H
     exact absurd H (by simp)
   ·rw [if_neg c3] at H
    have c3b0 : decide (x8_1 < (l0.length : Int)) = false := decide_eq_false c3
    clear c3
    obtain rfl := Option.some.inj H
    go_wp2
    go_ret
    exact ⟨zf, zm HB⟩

/-! ### booklet_PageOf: function 25 -/
def booklet_PageOf.f (k : Nat) (l0_0 : List (List Int)) (a1 : Int) : Option (Int) := (slices_IndexFunc_int_int_PageOf_1_s41.f k l0_0 a1).bind fun t156 => (some t156)
theorem booklet_PageOf.mono : ∀ a0 a1 k, LeO (booklet_PageOf.f k a0 a1) (booklet_PageOf.f (k + 1) a0 a1) := by
  intro a0 a1 k
  unfold booklet_PageOf.f
  repeat' first
      | (with_reducible exact slices_IndexFunc_int_int_PageOf_1_s41.mono _ _ _)
      | (with_reducible exact LeO.refl _)
      | (with_reducible exact LeO.none _)
      | (with_reducible refine LeO.ite ?_ ?_)
      | (with_reducible refine LeO.bind ?_ (fun _ => ?_))
      | exact slices_IndexFunc_int_int_PageOf_1_s41.mono _ _ _
      | exact LeO.none _
      | refine LeO.ite ?_ ?_
      | refine LeO.bind ?_ (fun _ => ?_)
set_option maxHeartbeats 8000000 in
set_option maxRecDepth 100000 in
theorem booklet_PageOf.calls (k : Nat) (A0_0 : Option Addr) (c0_0 : Nat) (l0_0 : List (List Int)) (a1 : Int) (r : Int) (w : World) (hr0_0 : Kd.C (Kd.slice 3 (Kd.int .i64)) w A0_0 l0_0.length l0_0) (hc0_0 : l0_0.length ≤ c0_0) (h : booklet_PageOf.f k l0_0 a1 = some r) :
    Calls Try.prog 25 #[.agg #[.slice A0_0 l0_0.length c0_0], .int .i64 a1] w fun e w' => e = .returned (.int .i64 r) ∧ Below w.heap.size w w' := by
 have hu38 := Try.underlying38
 have HR0_0 := za hr0_0
 have HC0_0 := za hc0_0
 clear hr0_0 hc0_0
 have HB := za (Below.refl w.heap.size w)
 have H : ((slices_IndexFunc_int_int_PageOf_1_s41.f k l0_0 a1).bind fun t156 => (some t156)) = some r := h
 clear h
 replace H := Option.bind_eq_some_iff.mp H
 obtain ⟨t156, A30, H⟩ := H
 replace H : (some t156) = some r := H
 have A3 := za A30
 clear A30
 obtain rfl := Option.some.inj H
 go_enter Try.func25, Try.ntmps25
 go_wp2_with (first | ((with_reducible refine gate_dst (N := 2) rfl ?_); refine zE 2 #[.slice A0_0 l0_0.length c0_0] 38 ?_; intro gb154 hg w4 hbox hb; have BK154 := za (hbox); have GW154 := zg HB hg; have GE154 := zg HB hg; replace HB := zs HB hb; clear hb hbox hg) | ((with_reducible refine gate_dst (N := 3) rfl ?_); refine zE 3 #[.int .i64 a1] 3 ?_; intro gb155 hg w5 hbox hb; have BK155 := za (hbox); have GW155 := zg HB hg; have GE155 := zg HB hg; have NB154_155 := zl BK154 hg; have NB155_154 := zr BK154 hg; replace BK154 := zb BK154 hb; replace HB := zs HB hb; clear hb hbox hg; have hnb6 := NB154_155.out; have hnc6 := NB155_154.out; obtain ⟨hcz7_0, hfz7_0⟩ := z1 BK154) | ((with_reducible refine gate_callee (f := 41) rfl ?_); refine zL (some 8) Try.func41 #[.slice A0_0 l0_0.length c0_0, .func (.func 42) #[] #[.pointer (some ⟨gb155, 0, none⟩)]] ?_; (with_reducible refine (slices_IndexFunc_int_int_PageOf_1_s41.calls k _ _ l0_0 a1 t156 _ ?side1 ?side2 A3.out ?sideq).mono ?_); (case side1 => exact zC HR0_0 HB); (case side2 => exact HC0_0.out); (case sideq => first | assumption | (with_unfolding_all assumption) | exact za (by assumption) | exact za (by with_unfolding_all assumption) | exact za (pw_cell_below HB.out hq_.out) | exact za ((blk_cell (by (with_reducible repeat (first | refine blk_drewN ?_ _ | refine blk_drew ?_ | refine blk_alloc ?_ _)); exact BK154.out) 0).trans rfl) | exact za ((blk_cell (by (with_reducible repeat (first | refine blk_drewN ?_ _ | refine blk_drew ?_ | refine blk_alloc ?_ _)); exact BK155.out) 0).trans rfl) | exact za (pw_cell_below (zm HB) hq_.out)); rintro e w8 ⟨rfl, hb⟩; refine ⟨_, rfl, ?_⟩; replace BK154 := zb BK154 hb; replace BK155 := zb BK155 hb; replace HB := zs HB hb; (try clear hb); (try clear hb2); (try clear hk); (try clear hi)))
 go_ret
 exact ⟨zf, zm HB⟩

/-! ### awardingbodyref06_Ints: function 32 -/
def awardingbodyref06_Ints.l0 : Nat → List Int → List Int → Int → Option (Bool)
  | 0, _, _, _ => none
  | k + 1, x0, x1, x5 => if x5 < (x0.length : Int) then (if 0 ≤ x5 then (if x5 < (x1.length : Int) then (if (rd x0 x5) = (rd x1 x5) then (awardingbodyref06_Ints.l0 k x0 x1 (wrap64 (x5 + 1))) else (some false)) else (none)) else (none)) else (some true)
def awardingbodyref06_Ints.f (k : Nat) (l0 : List Int) (l1 : List Int) : Option (Bool) := if (l0.length : Int) = (l1.length : Int) then (awardingbodyref06_Ints.l0 k l0 l1 0) else (some false)
theorem awardingbodyref06_Ints.mono_l : ∀ k, (∀ y0 y1 y2, LeO (awardingbodyref06_Ints.l0 k y0 y1 y2) (awardingbodyref06_Ints.l0 (k + 1) y0 y1 y2))
  | 0 => fun _ _ _ r h => by simp [awardingbodyref06_Ints.l0] at h
  | k + 1 => by
    have ih0 := awardingbodyref06_Ints.mono_l k
    · intro y0 y1 y2
      unfold awardingbodyref06_Ints.l0
      repeat' first
      | (with_reducible exact ih0 _ _ _)
      | (with_reducible exact LeO.refl _)
      | (with_reducible exact LeO.none _)
      | (with_reducible refine LeO.ite ?_ ?_)
      | (with_reducible refine LeO.bind ?_ (fun _ => ?_))
      | exact ih0 _ _ _
      | exact LeO.none _
      | refine LeO.ite ?_ ?_
      | refine LeO.bind ?_ (fun _ => ?_)
theorem awardingbodyref06_Ints.mono : ∀ a0 a1 k, LeO (awardingbodyref06_Ints.f k a0 a1) (awardingbodyref06_Ints.f (k + 1) a0 a1) := by
  intro a0 a1 k
  have ih0 := awardingbodyref06_Ints.mono_l k
  unfold awardingbodyref06_Ints.f
  repeat' first
      | (with_reducible exact ih0 _ _ _)
      | (with_reducible exact LeO.refl _)
      | (with_reducible exact LeO.none _)
      | (with_reducible refine LeO.ite ?_ ?_)
      | (with_reducible refine LeO.bind ?_ (fun _ => ?_))
      | exact ih0 _ _ _
      | exact LeO.none _
      | refine LeO.ite ?_ ?_
      | refine LeO.bind ?_ (fun _ => ?_)
set_option maxHeartbeats 8000000 in
set_option maxRecDepth 100000 in
theorem awardingbodyref06_Ints.calls (k : Nat) (A0 : Option Addr) (c0 : Nat) (l0 : List Int) (A1 : Option Addr) (c1 : Nat) (l1 : List Int) (r : Bool) (w : World) (hr0 : Kd.C (Kd.int .i64) w A0 l0.length l0) (hc0 : l0.length ≤ c0) (hr1 : Kd.C (Kd.int .i64) w A1 l1.length l1) (hc1 : l1.length ≤ c1) (h : awardingbodyref06_Ints.f k l0 l1 = some r) :
    Calls Try.prog 32 #[.slice A0 l0.length c0, .slice A1 l1.length c1] w fun e w' => e = .returned (.bool r) ∧ Drawn0 w w' := by
 have HR0 := za hr0
 have HC0 := za hc0
 clear hr0 hc0
 have HR1 := za hr1
 have HC1 := za hc1
 clear hr1 hc1
 have H : (if (l0.length : Int) = (l1.length : Int) then (awardingbodyref06_Ints.l0 k l0 l1 0) else (some false)) = some r := h
 clear h
 by_cases c3 : (l0.length : Int) = (l1.length : Int)
 ·rw [if_pos c3] at H
  have c3b0 : ((l0.length : Int) == (l1.length : Int)) = true := beq_iff_eq.mpr c3
  have c3b1 : ((l0.length : Int) != (l1.length : Int)) = false := bne_eq_false_iff_eq.mpr c3
  have c3b2 : (l0.length == l1.length) = true := by first | simpa using c3 | (simp at c3 ⊢; omega)
  clear c3
  have H' := za H
  clear H
  go_enter Try.func32, Try.ntmps32
  go_wp2
  repeat (go_quiet (fail); try go_wp2)
  go_loopg [5] k (fun kq v5 w' => ∃ (x5_1 : Int), v5 = .int .i64 x5_1 ∧ Aside0 (awardingbodyref06_Ints.l0 kq l0 l1 x5_1 = some r) ∧ Aside0 (kq ≤ k) ∧ Drawn0 w w')
  case atStart => exact ⟨(0), (by first | rfl | (simp; done) | (simp [*]; done)), H', ⟨Nat.le_refl _⟩, by repeat (first | exact Drawn0.refl _ | apply Drawn0.step)⟩
  case round =>
   clear H'
   try clear c1
   try clear p2
   try clear c3
   try clear c3b0
   try clear c3b1
   try clear c3b2
   obtain ⟨x5_1, rfl, HA, HK1, ⟨m1, rfl⟩⟩ := hrel
   cases gk with
   | zero => exact absurd HA.out (by simp [awardingbodyref06_Ints.l0])
   | succ k1 =>
    have H := HA.out
    clear HA
    simp only [awardingbodyref06_Ints.l0] at H
    by_cases c4 : x5_1 < (l0.length : Int)
    ·rw [if_pos c4] at H
     have c4b0 : decide (x5_1 < (l0.length : Int)) = true := decide_eq_true c4
     clear c4
     by_cases c5 : 0 ≤ x5_1
     ·rw [if_pos c5] at H
      have c5b0 : decide (0 ≤ x5_1) = true := decide_eq_true c5
      clear c5
      by_cases c6 : x5_1 < (l1.length : Int)
      ·rw [if_pos c6] at H
       have c6b0 : decide (x5_1 < (l1.length : Int)) = true := decide_eq_true c6
       clear c6
       by_cases c7 : (rd l0 x5_1) = (rd l1 x5_1)
       ·rw [if_pos c7] at H
        have c7b0 : ((rd l0 x5_1) == (rd l1 x5_1)) = true := beq_iff_eq.mpr c7
        have c7b1 : ((rd l0 x5_1) != (rd l1 x5_1)) = false := bne_eq_false_iff_eq.mpr c7
        clear c7
        have H' := za H
        clear H
        have p157 : 0 ≤ (x5_1 : Int) := of_decide_eq_true (by first | (with_reducible assumption) | assumption)
        have q157 : x5_1 < (l0.length : Int) := of_decide_eq_true (by first | (with_reducible assumption) | assumption)
        obtain ⟨ad157, e157, hx157_0⟩ := Kd.at_int HR0.out x5_1 p157 q157
        cases e157
        replace p157 := eq_true p157
        replace q157 := eq_true q157
        have p158 : 0 ≤ (x5_1 : Int) := of_decide_eq_true (by first | (with_reducible assumption) | assumption)
        have q158 : x5_1 < (l1.length : Int) := of_decide_eq_true (by first | (with_reducible assumption) | assumption)
        obtain ⟨ad158, e158, hx158_0⟩ := Kd.at_int HR1.out x5_1 p158 q158
        cases e158
        replace p158 := eq_true p158
        replace q158 := eq_true q158
        go_wp2
        repeat (go_quiet (fail); try go_wp2)
        go_roundg k1
        case measure => have := HK1.out; omega
        case rel => exact ⟨(wrap64 (x5_1 + 1)), (by first | rfl | (simp; done) | (simp [*]; done)), H', ⟨by have := HK1.out; omega⟩, by repeat (first | exact Drawn0.refl _ | apply Drawn0.step)⟩
       ·rw [if_neg c7] at H
        have c7b0 : ((rd l0 x5_1) == (rd l1 x5_1)) = false := beq_eq_false_iff_ne.mpr c7
        have c7b1 : ((rd l0 x5_1) != (rd l1 x5_1)) = true := bne_iff_ne.mpr c7
        obtain rfl := Option.some.inj H
        have p157 : 0 ≤ (x5_1 : Int) := of_decide_eq_true (by first | (with_reducible assumption) | assumption)
        have q157 : x5_1 < (l0.length : Int) := of_decide_eq_true (by first | (with_reducible assumption) | assumption)
        obtain ⟨ad157, e157, hx157_0⟩ := Kd.at_int HR0.out x5_1 p157 q157
        cases e157
        replace p157 := eq_true p157
        replace q157 := eq_true q157
        have p158 : 0 ≤ (x5_1 : Int) := of_decide_eq_true (by first | (with_reducible assumption) | assumption)
        have q158 : x5_1 < (l1.length : Int) := of_decide_eq_true (by first | (with_reducible assumption) | assumption)
        obtain ⟨ad158, e158, hx158_0⟩ := Kd.at_int HR1.out x5_1 p158 q158
        cases e158
        replace p158 := eq_true p158
        replace q158 := eq_true q158
        go_wp2
        repeat (go_quiet (fail); try go_wp2)
        go_ret
        exact ⟨by first | rfl | (simp; done) | (simp [*]; done), by repeat (first | exact Drawn0.refl _ | apply Drawn0.step)⟩
      ·rw [if_neg c6] at H
       exact absurd H (by simp)
     ·rw [if_neg c5] at H
      exact absurd H (by simp)
    ·rw [if_neg c4] at H
     have c4b0 : decide (x5_1 < (l0.length : Int)) = false := decide_eq_false c4
     clear c4
     obtain rfl := Option.some.inj H
     go_wp2
     repeat (go_quiet (fail); try go_wp2)
     go_ret
     exact ⟨by first | rfl | (simp; done) | (simp [*]; done), by repeat (first | exact Drawn0.refl _ | apply Drawn0.step)⟩
 ·rw [if_neg c3] at H
  have c3b0 : ((l0.length : Int) == (l1.length : Int)) = false := beq_eq_false_iff_ne.mpr c3
  have c3b1 : ((l0.length : Int) != (l1.length : Int)) = true := bne_iff_ne.mpr c3
  have c3b2 : (l0.length == l1.length) = false := by first | simpa using c3 | (simp at c3 ⊢; omega)
  obtain rfl := Option.some.inj H
  go_enter Try.func32, Try.ntmps32
  go_wp2
  repeat (go_quiet (fail); try go_wp2)
  go_ret
  exact ⟨by first | rfl | (simp; done) | (simp [*]; done), by repeat (first | exact Drawn0.refl _ | apply Drawn0.step)⟩

end Go.Proofs.Ytdmlbgdefapcjaa.Print
