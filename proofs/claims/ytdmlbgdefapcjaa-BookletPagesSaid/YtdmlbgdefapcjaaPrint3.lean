-- Printed by a program of this session (wip/own_print.py) out of the translation; Lean checks it.
import Derived.Test.YtdmlbgdefapcjaaShort
import Derived.Test.YtdmlbgdefapcjaaPrint0
import Derived.Test.YtdmlbgdefapcjaaPrint2
namespace Go.Proofs.Ytdmlbgdefapcjaa.Print
open Go.RowKit Go.Proofs.YtdmlbgdefapcjaaW.PrintWords Go.Proofs.YtdmlbgdefapcjaaW.PrintLast Go.Proofs.YtdmlbgdefapcjaaW.PrintMore
attribute [local go_sem] max2_int min2_int max_two min_two max_three min_three max_four min_four   -- for this text's walks alone
set_option linter.unusedVariables false
set_option linter.unusedSimpArgs false

/-! ### awardingbodyref06_ValidPart: function 31 -/
def awardingbodyref06_ValidPart.j0 : Nat → Bool → Int → Int → Int → Int → Int → Int → Option (Bool)
  | 0, _, _, _, _, _, _, _ => none
  | k + 1, x30, x110000, x110001, x110002, x110003, x110004, x110005 => if x30 = true then (some false) else (if x110000 = 1 then (if x110004 = 0 then (some (x110005 == 0)) else (some false)) else (if x110000 = 2 then (if x110004 ≥ 2 then (if x110004 ≤ 5 then (if x110005 ≥ 0 then (some (decide (x110005 < x110004))) else (some false)) else (some false)) else (some false)) else (some false)))
def awardingbodyref06_ValidPart.f (k : Nat) (a0_0 : Int) (a0_1 : Int) (a0_2 : Int) (a0_3 : Int) (a0_4 : Int) (a0_5 : Int) : Option (Bool) := if a0_1 < 1 then (awardingbodyref06_ValidPart.j0 k true a0_0 a0_1 a0_2 a0_3 a0_4 a0_5) else (if a0_1 > 40 then (awardingbodyref06_ValidPart.j0 k true a0_0 a0_1 a0_2 a0_3 a0_4 a0_5) else (if a0_2 < 0 then (awardingbodyref06_ValidPart.j0 k true a0_0 a0_1 a0_2 a0_3 a0_4 a0_5) else (if a0_2 ≥ 16 then (awardingbodyref06_ValidPart.j0 k true a0_0 a0_1 a0_2 a0_3 a0_4 a0_5) else (if a0_3 < 0 then (awardingbodyref06_ValidPart.j0 k true a0_0 a0_1 a0_2 a0_3 a0_4 a0_5) else (awardingbodyref06_ValidPart.j0 k (decide (a0_3 ≥ 6)) a0_0 a0_1 a0_2 a0_3 a0_4 a0_5)))))
theorem awardingbodyref06_ValidPart.mono_l : ∀ k, (∀ y0 y1 y2 y3 y4 y5 y6, LeO (awardingbodyref06_ValidPart.j0 k y0 y1 y2 y3 y4 y5 y6) (awardingbodyref06_ValidPart.j0 (k + 1) y0 y1 y2 y3 y4 y5 y6))
  | 0 => fun _ _ _ _ _ _ _ r h => by simp [awardingbodyref06_ValidPart.j0] at h
  | k + 1 => by
    have ih0 := awardingbodyref06_ValidPart.mono_l k
    · intro y0 y1 y2 y3 y4 y5 y6
      unfold awardingbodyref06_ValidPart.j0
      repeat' first
      | (with_reducible exact ih0 _ _ _ _ _ _ _)
      | (with_reducible exact LeO.refl _)
      | (with_reducible exact LeO.none _)
      | (with_reducible refine LeO.ite ?_ ?_)
      | (with_reducible refine LeO.bind ?_ (fun _ => ?_))
      | exact ih0 _ _ _ _ _ _ _
      | exact LeO.none _
      | refine LeO.ite ?_ ?_
      | refine LeO.bind ?_ (fun _ => ?_)
theorem awardingbodyref06_ValidPart.mono : ∀ a0 a1 a2 a3 a4 a5 k, LeO (awardingbodyref06_ValidPart.f k a0 a1 a2 a3 a4 a5) (awardingbodyref06_ValidPart.f (k + 1) a0 a1 a2 a3 a4 a5) := by
  intro a0 a1 a2 a3 a4 a5 k
  have ih0 := awardingbodyref06_ValidPart.mono_l k
  unfold awardingbodyref06_ValidPart.f
  repeat' first
      | (with_reducible exact ih0 _ _ _ _ _ _ _)
      | (with_reducible exact LeO.refl _)
      | (with_reducible exact LeO.none _)
      | (with_reducible refine LeO.ite ?_ ?_)
      | (with_reducible refine LeO.bind ?_ (fun _ => ?_))
      | exact ih0 _ _ _ _ _ _ _
      | exact LeO.none _
      | refine LeO.ite ?_ ?_
      | refine LeO.bind ?_ (fun _ => ?_)
set_option maxHeartbeats 8000000 in
set_option maxRecDepth 100000 in
theorem awardingbodyref06_ValidPart.calls (k : Nat) (a0_0 : Int) (a0_1 : Int) (a0_2 : Int) (a0_3 : Int) (a0_4 : Int) (a0_5 : Int) (r : Bool) (w : World) (h : awardingbodyref06_ValidPart.f k a0_0 a0_1 a0_2 a0_3 a0_4 a0_5 = some r) :
    Calls Try.prog 31 #[.agg #[.int .i64 a0_0, .int .i64 a0_1, .int .i64 a0_2, .int .i64 a0_3, .int .i64 a0_4, .int .i64 a0_5]] w fun e w' => e = .returned (.bool r) ∧ Below w.heap.size w w' := by
 have hu23 := Try.underlying23
 have HB := za (Below.refl w.heap.size w)
 have H : (if a0_1 < 1 then (awardingbodyref06_ValidPart.j0 k true a0_0 a0_1 a0_2 a0_3 a0_4 a0_5) else (if a0_1 > 40 then (awardingbodyref06_ValidPart.j0 k true a0_0 a0_1 a0_2 a0_3 a0_4 a0_5) else (if a0_2 < 0 then (awardingbodyref06_ValidPart.j0 k true a0_0 a0_1 a0_2 a0_3 a0_4 a0_5) else (if a0_2 ≥ 16 then (awardingbodyref06_ValidPart.j0 k true a0_0 a0_1 a0_2 a0_3 a0_4 a0_5) else (if a0_3 < 0 then (awardingbodyref06_ValidPart.j0 k true a0_0 a0_1 a0_2 a0_3 a0_4 a0_5) else (awardingbodyref06_ValidPart.j0 k (decide (a0_3 ≥ 6)) a0_0 a0_1 a0_2 a0_3 a0_4 a0_5)))))) = some r := h
 clear h
 have HC2 := za H
 clear H
 go_enter Try.func31, Try.ntmps31
 go_upto_region 1 with (first | ((with_reducible refine gate_dst (N := 1) rfl ?_); refine zE 1 #[.int .i64 a0_0, .int .i64 a0_1, .int .i64 a0_2, .int .i64 a0_3, .int .i64 a0_4, .int .i64 a0_5] 23 ?_; intro gb109 hg w3 hbox hb; have BK109 := za (hbox); have GW109 := zg HB hg; have GE109 := zg HB hg; replace HB := zs HB hb; clear hb hbox hg))
 (try simp only [Act.put, List.setIfInBounds_toArray, List.set_cons_zero, List.set_cons_succ])
 go_cut [30] (fun v30 wc => ∃ (kq : Nat) (x30_1 : Bool), v30 = .bool x30_1 ∧ Aside0 (awardingbodyref06_ValidPart.j0 kq x30_1 a0_0 a0_1 a0_2 a0_3 a0_4 a0_5 = some r) ∧ Aside0 (kq ≤ k) ∧ Aside0 (wc.heap[gb109]? = some (.cells #[.int .i64 a0_0, .int .i64 a0_1, .int .i64 a0_2, .int .i64 a0_3, .int .i64 a0_4, .int .i64 a0_5] 23 (0, 0))) ∧ Aside0 (Below w.heap.size w wc))
 case first =>
  have H := HC2.out
  clear HC2
  by_cases c4 : a0_1 < 1
  ·rw [if_pos c4] at H
   have c4b0 : decide (a0_1 < 1) = true := decide_eq_true c4
   clear c4
   (first | rw [c4b0] | (simp only [i64_w, i32_w]; rw [c4b0]) | skip)
   have H' := za H
   clear H
   obtain ⟨hcz5_0, hcz5_1, hcz5_2, hcz5_3, hcz5_4, hcz5_5, hfz5_0, hfz5_1, hfz5_2, hfz5_3, hfz5_4, hfz5_5⟩ := z6 BK109
   go_wp2
   go_meet
   case rel => exact ⟨_, (true), (by first | rfl | (simp; done) | (simp [*]; done)), H', ⟨by first | omega | exact Nat.le_refl _⟩, ⟨by (with_reducible repeat (first | refine blk_drewN ?_ _ | refine blk_drew ?_ | refine blk_alloc ?_ _)); exact BK109.out⟩, ⟨zm HB⟩⟩
  ·rw [if_neg c4] at H
   have c4b0 : decide (a0_1 < 1) = false := decide_eq_false c4
   clear c4
   (first | rw [c4b0] | (simp only [i64_w, i32_w]; rw [c4b0]) | skip)
   by_cases c6 : a0_1 > 40
   ·rw [if_pos c6] at H
    have c6b0 : decide (40 < a0_1) = true := decide_eq_true c6
    clear c6
    have H' := za H
    clear H
    obtain ⟨hcz7_0, hcz7_1, hcz7_2, hcz7_3, hcz7_4, hcz7_5, hfz7_0, hfz7_1, hfz7_2, hfz7_3, hfz7_4, hfz7_5⟩ := z6 BK109
    go_wp2
    go_meet
    case rel => exact ⟨_, (true), (by first | rfl | (simp; done) | (simp [*]; done)), H', ⟨by first | omega | exact Nat.le_refl _⟩, ⟨by (with_reducible repeat (first | refine blk_drewN ?_ _ | refine blk_drew ?_ | refine blk_alloc ?_ _)); exact BK109.out⟩, ⟨zm HB⟩⟩
   ·rw [if_neg c6] at H
    have c6b0 : decide (40 < a0_1) = false := decide_eq_false c6
    clear c6
    by_cases c8 : a0_2 < 0
    ·rw [if_pos c8] at H
     have c8b0 : decide (a0_2 < 0) = true := decide_eq_true c8
     clear c8
     have H' := za H
     clear H
     obtain ⟨hcz9_0, hcz9_1, hcz9_2, hcz9_3, hcz9_4, hcz9_5, hfz9_0, hfz9_1, hfz9_2, hfz9_3, hfz9_4, hfz9_5⟩ := z6 BK109
     go_wp2
     go_meet
     case rel => exact ⟨_, (true), (by first | rfl | (simp; done) | (simp [*]; done)), H', ⟨by first | omega | exact Nat.le_refl _⟩, ⟨by (with_reducible repeat (first | refine blk_drewN ?_ _ | refine blk_drew ?_ | refine blk_alloc ?_ _)); exact BK109.out⟩, ⟨zm HB⟩⟩
    ·rw [if_neg c8] at H
     have c8b0 : decide (a0_2 < 0) = false := decide_eq_false c8
     clear c8
     by_cases c10 : a0_2 ≥ 16
     ·rw [if_pos c10] at H
      have c10b0 : decide (16 ≤ a0_2) = true := decide_eq_true c10
      clear c10
      have H' := za H
      clear H
      obtain ⟨hcz11_0, hcz11_1, hcz11_2, hcz11_3, hcz11_4, hcz11_5, hfz11_0, hfz11_1, hfz11_2, hfz11_3, hfz11_4, hfz11_5⟩ := z6 BK109
      go_wp2
      go_meet
      case rel => exact ⟨_, (true), (by first | rfl | (simp; done) | (simp [*]; done)), H', ⟨by first | omega | exact Nat.le_refl _⟩, ⟨by (with_reducible repeat (first | refine blk_drewN ?_ _ | refine blk_drew ?_ | refine blk_alloc ?_ _)); exact BK109.out⟩, ⟨zm HB⟩⟩
     ·rw [if_neg c10] at H
      have c10b0 : decide (16 ≤ a0_2) = false := decide_eq_false c10
      clear c10
      by_cases c12 : a0_3 < 0
      ·rw [if_pos c12] at H
       have c12b0 : decide (a0_3 < 0) = true := decide_eq_true c12
       clear c12
       have H' := za H
       clear H
       obtain ⟨hcz13_0, hcz13_1, hcz13_2, hcz13_3, hcz13_4, hcz13_5, hfz13_0, hfz13_1, hfz13_2, hfz13_3, hfz13_4, hfz13_5⟩ := z6 BK109
       go_wp2
       go_meet
       case rel => exact ⟨_, (true), (by first | rfl | (simp; done) | (simp [*]; done)), H', ⟨by first | omega | exact Nat.le_refl _⟩, ⟨by (with_reducible repeat (first | refine blk_drewN ?_ _ | refine blk_drew ?_ | refine blk_alloc ?_ _)); exact BK109.out⟩, ⟨zm HB⟩⟩
      ·rw [if_neg c12] at H
       have c12b0 : decide (a0_3 < 0) = false := decide_eq_false c12
       clear c12
       have H' := za H
       clear H
       obtain ⟨hcz14_0, hcz14_1, hcz14_2, hcz14_3, hcz14_4, hcz14_5, hfz14_0, hfz14_1, hfz14_2, hfz14_3, hfz14_4, hfz14_5⟩ := z6 BK109
       go_wp2
       go_meet
       case rel => exact ⟨_, (decide (a0_3 ≥ 6)), (by first | rfl | (simp; done) | (simp [*]; done)), H', ⟨by first | omega | exact Nat.le_refl _⟩, ⟨by (with_reducible repeat (first | refine blk_drewN ?_ _ | refine blk_drew ?_ | refine blk_alloc ?_ _)); exact BK109.out⟩, ⟨zm HB⟩⟩
 case rest =>
  clear HC2
  try clear c1
  try clear p2
  try clear c3
  try clear c4
  try clear c4b0
  try clear c6
  try clear c6b0
  try clear c8
  try clear c8b0
  try clear c10
  try clear c10b0
  try clear c12
  try clear c12b0
  try clear hcz11_0
  try clear hcz11_1
  try clear hcz11_2
  try clear hcz11_3
  try clear hcz11_4
  try clear hcz11_5
  try clear hcz13_0
  try clear hcz13_1
  try clear hcz13_2
  try clear hcz13_3
  try clear hcz13_4
  try clear hcz13_5
  try clear hcz14_0
  try clear hcz14_1
  try clear hcz14_2
  try clear hcz14_3
  try clear hcz14_4
  try clear hcz14_5
  try clear hcz5_0
  try clear hcz5_1
  try clear hcz5_2
  try clear hcz5_3
  try clear hcz5_4
  try clear hcz5_5
  try clear hcz7_0
  try clear hcz7_1
  try clear hcz7_2
  try clear hcz7_3
  try clear hcz7_4
  try clear hcz7_5
  try clear hcz9_0
  try clear hcz9_1
  try clear hcz9_2
  try clear hcz9_3
  try clear hcz9_4
  try clear hcz9_5
  try clear hfz11_0
  try clear hfz11_1
  try clear hfz11_2
  try clear hfz11_3
  try clear hfz11_4
  try clear hfz11_5
  try clear hfz13_0
  try clear hfz13_1
  try clear hfz13_2
  try clear hfz13_3
  try clear hfz13_4
  try clear hfz13_5
  try clear hfz14_0
  try clear hfz14_1
  try clear hfz14_2
  try clear hfz14_3
  try clear hfz14_4
  try clear hfz14_5
  try clear hfz5_0
  try clear hfz5_1
  try clear hfz5_2
  try clear hfz5_3
  try clear hfz5_4
  try clear hfz5_5
  try clear hfz7_0
  try clear hfz7_1
  try clear hfz7_2
  try clear hfz7_3
  try clear hfz7_4
  try clear hfz7_5
  try clear hfz9_0
  try clear hfz9_1
  try clear hfz9_2
  try clear hfz9_3
  try clear hfz9_4
  try clear hfz9_5
  obtain ⟨kq, x30_1, rfl, HA, HJ1, BK109, HB⟩ := hcut
  cases kq with
  | zero => exact absurd HA.out (by simp [awardingbodyref06_ValidPart.j0])
  | succ kj1 =>
   have H := HA.out
   clear HA
   simp only [awardingbodyref06_ValidPart.j0] at H
   by_cases c15 : x30_1 = true
   ·subst c15
    have H1 : (some false) = some r := by rw [if_pos rfl] at H; exact H
    clear H
    have H := H1
    clear H1
    obtain rfl := Option.some.inj H
    go_wp2
    go_ret
    exact ⟨zf, zm HB⟩
   ·replace c15 := Bool.eq_false_iff.mpr c15
    subst c15
    have H1 : (if a0_0 = 1 then (if a0_4 = 0 then (some (a0_5 == 0)) else (some false)) else (if a0_0 = 2 then (if a0_4 ≥ 2 then (if a0_4 ≤ 5 then (if a0_5 ≥ 0 then (some (decide (a0_5 < a0_4))) else (some false)) else (some false)) else (some false)) else (some false))) = some r := by rw [if_neg (show ¬ (false = true) by decide)] at H; exact H
    clear H
    have H := H1
    clear H1
    by_cases c16 : a0_0 = 1
    ·rw [if_pos c16] at H
     have c16b0 : (a0_0 == 1) = true := beq_iff_eq.mpr c16
     have c16b1 : (a0_0 != 1) = false := bne_eq_false_iff_eq.mpr c16
     clear c16
     by_cases c17 : a0_4 = 0
     ·rw [if_pos c17] at H
      have c17b0 : (a0_4 == 0) = true := beq_iff_eq.mpr c17
      have c17b1 : (a0_4 != 0) = false := bne_eq_false_iff_eq.mpr c17
      clear c17
      obtain rfl := Option.some.inj H
      obtain ⟨hcz18_0, hcz18_1, hcz18_2, hcz18_3, hcz18_4, hcz18_5, hfz18_0, hfz18_1, hfz18_2, hfz18_3, hfz18_4, hfz18_5⟩ := z6 BK109
      go_wp2
      go_ret
      exact ⟨zf, zm HB⟩
     ·rw [if_neg c17] at H
      have c17b0 : (a0_4 == 0) = false := beq_eq_false_iff_ne.mpr c17
      have c17b1 : (a0_4 != 0) = true := bne_iff_ne.mpr c17
      obtain rfl := Option.some.inj H
      obtain ⟨hcz19_0, hcz19_1, hcz19_2, hcz19_3, hcz19_4, hcz19_5, hfz19_0, hfz19_1, hfz19_2, hfz19_3, hfz19_4, hfz19_5⟩ := z6 BK109
      go_wp2
      go_ret
      exact ⟨zf, zm HB⟩
    ·rw [if_neg c16] at H
     have c16b0 : (a0_0 == 1) = false := beq_eq_false_iff_ne.mpr c16
     have c16b1 : (a0_0 != 1) = true := bne_iff_ne.mpr c16
     by_cases c20 : a0_0 = 2
     ·rw [if_pos c20] at H
      have c20b0 : (a0_0 == 2) = true := beq_iff_eq.mpr c20
      have c20b1 : (a0_0 != 2) = false := bne_eq_false_iff_eq.mpr c20
      clear c20
      by_cases c21 : a0_4 ≥ 2
      ·rw [if_pos c21] at H
       have c21b0 : decide (2 ≤ a0_4) = true := decide_eq_true c21
       clear c21
       by_cases c22 : a0_4 ≤ 5
       ·rw [if_pos c22] at H
        have c22b0 : decide (a0_4 ≤ 5) = true := decide_eq_true c22
        clear c22
        by_cases c23 : a0_5 ≥ 0
        ·rw [if_pos c23] at H
         have c23b0 : decide (0 ≤ a0_5) = true := decide_eq_true c23
         clear c23
         obtain rfl := Option.some.inj H
         obtain ⟨hcz24_0, hcz24_1, hcz24_2, hcz24_3, hcz24_4, hcz24_5, hfz24_0, hfz24_1, hfz24_2, hfz24_3, hfz24_4, hfz24_5⟩ := z6 BK109
         go_wp2
         go_ret
         exact ⟨zf, zm HB⟩
        ·rw [if_neg c23] at H
         have c23b0 : decide (0 ≤ a0_5) = false := decide_eq_false c23
         clear c23
         obtain rfl := Option.some.inj H
         obtain ⟨hcz25_0, hcz25_1, hcz25_2, hcz25_3, hcz25_4, hcz25_5, hfz25_0, hfz25_1, hfz25_2, hfz25_3, hfz25_4, hfz25_5⟩ := z6 BK109
         go_wp2
         go_ret
         exact ⟨zf, zm HB⟩
       ·rw [if_neg c22] at H
        have c22b0 : decide (a0_4 ≤ 5) = false := decide_eq_false c22
        clear c22
        obtain rfl := Option.some.inj H
        obtain ⟨hcz26_0, hcz26_1, hcz26_2, hcz26_3, hcz26_4, hcz26_5, hfz26_0, hfz26_1, hfz26_2, hfz26_3, hfz26_4, hfz26_5⟩ := z6 BK109
        go_wp2
        go_ret
        exact ⟨zf, zm HB⟩
      ·rw [if_neg c21] at H
       have c21b0 : decide (2 ≤ a0_4) = false := decide_eq_false c21
       clear c21
       obtain rfl := Option.some.inj H
       obtain ⟨hcz27_0, hcz27_1, hcz27_2, hcz27_3, hcz27_4, hcz27_5, hfz27_0, hfz27_1, hfz27_2, hfz27_3, hfz27_4, hfz27_5⟩ := z6 BK109
       go_wp2
       go_ret
       exact ⟨zf, zm HB⟩
     ·rw [if_neg c20] at H
      have c20b0 : (a0_0 == 2) = false := beq_eq_false_iff_ne.mpr c20
      have c20b1 : (a0_0 != 2) = true := bne_iff_ne.mpr c20
      obtain rfl := Option.some.inj H
      obtain ⟨hcz28_0, hcz28_1, hcz28_2, hcz28_3, hcz28_4, hcz28_5, hfz28_0, hfz28_1, hfz28_2, hfz28_3, hfz28_4, hfz28_5⟩ := z6 BK109
      go_wp2
      go_ret
      exact ⟨zf, zm HB⟩

/-! ### awardingbodyref12_Need: function 13 -/
def awardingbodyref12_Need.f (k : Nat) (a0_0 : Int) (a0_1 : Int) (a0_2 : Int) (a0_3 : Int) (a0_4 : Int) (a0_5 : Int) : Option (Int) := (awardingbodyref06_ValidPart.f k a0_0 a0_1 a0_2 a0_3 a0_4 a0_5).bind fun t111 => (if t111 = true then (if a0_0 = 2 then (some (wrap64 (2 + a0_4))) else (some (mn (wrap64 (2 + a0_1)) 30))) else (some 0))
theorem awardingbodyref12_Need.mono : ∀ a0 a1 a2 a3 a4 a5 k, LeO (awardingbodyref12_Need.f k a0 a1 a2 a3 a4 a5) (awardingbodyref12_Need.f (k + 1) a0 a1 a2 a3 a4 a5) := by
  intro a0 a1 a2 a3 a4 a5 k
  unfold awardingbodyref12_Need.f
  repeat' first
      | (with_reducible exact awardingbodyref06_ValidPart.mono _ _ _ _ _ _ _)
      | (with_reducible exact LeO.refl _)
      | (with_reducible exact LeO.none _)
      | (with_reducible refine LeO.ite ?_ ?_)
      | (with_reducible refine LeO.bind ?_ (fun _ => ?_))
      | exact awardingbodyref06_ValidPart.mono _ _ _ _ _ _ _
      | exact LeO.none _
      | refine LeO.ite ?_ ?_
      | refine LeO.bind ?_ (fun _ => ?_)
set_option maxHeartbeats 8000000 in
set_option maxRecDepth 100000 in
theorem awardingbodyref12_Need.calls (k : Nat) (a0_0 : Int) (a0_1 : Int) (a0_2 : Int) (a0_3 : Int) (a0_4 : Int) (a0_5 : Int) (r : Int) (w : World) (h : awardingbodyref12_Need.f k a0_0 a0_1 a0_2 a0_3 a0_4 a0_5 = some r) :
    Calls Try.prog 13 #[.agg #[.int .i64 a0_0, .int .i64 a0_1, .int .i64 a0_2, .int .i64 a0_3, .int .i64 a0_4, .int .i64 a0_5]] w fun e w' => e = .returned (.int .i64 r) ∧ Below w.heap.size w w' := by
 have hu23 := Try.underlying23
 have HB := za (Below.refl w.heap.size w)
 have H : ((awardingbodyref06_ValidPart.f k a0_0 a0_1 a0_2 a0_3 a0_4 a0_5).bind fun t111 => (if t111 = true then (if a0_0 = 2 then (some (wrap64 (2 + a0_4))) else (some (mn (wrap64 (2 + a0_1)) 30))) else (some 0))) = some r := h
 clear h
 replace H := Option.bind_eq_some_iff.mp H
 obtain ⟨t111, A20, H⟩ := H
 replace H : (if t111 = true then (if a0_0 = 2 then (some (wrap64 (2 + a0_4))) else (some (mn (wrap64 (2 + a0_1)) 30))) else (some 0)) = some r := H
 have A2 := za A20
 clear A20
 by_cases c3 : t111 = true
 ·subst c3
  have H1 : (if a0_0 = 2 then (some (wrap64 (2 + a0_4))) else (some (mn (wrap64 (2 + a0_1)) 30))) = some r := by rw [if_pos rfl] at H; exact H
  clear H
  have H := H1
  clear H1
  by_cases c4 : a0_0 = 2
  ·rw [if_pos c4] at H
   have c4b0 : (a0_0 == 2) = true := beq_iff_eq.mpr c4
   have c4b1 : (a0_0 != 2) = false := bne_eq_false_iff_eq.mpr c4
   clear c4
   obtain rfl := Option.some.inj H
   go_enter Try.func13, Try.ntmps13
   go_wp2_with (first | ((with_reducible refine gate_dst (N := 1) rfl ?_); refine zE 1 #[.int .i64 a0_0, .int .i64 a0_1, .int .i64 a0_2, .int .i64 a0_3, .int .i64 a0_4, .int .i64 a0_5] 23 ?_; intro gb110 hg w5 hbox hb; have BK110 := za (hbox); have GW110 := zg HB hg; have GE110 := zg HB hg; replace HB := zs HB hb; clear hb hbox hg; obtain ⟨hcz6_0, hcz6_1, hcz6_2, hcz6_3, hcz6_4, hcz6_5, hfz6_0, hfz6_1, hfz6_2, hfz6_3, hfz6_4, hfz6_5⟩ := z6 BK110) | ((with_reducible refine gate_callee (f := 31) rfl ?_); refine zL (some 4) Try.func31 #[.agg #[.int .i64 a0_0, .int .i64 a0_1, .int .i64 a0_2, .int .i64 a0_3, .int .i64 a0_4, .int .i64 a0_5]] ?_; (with_reducible refine (awardingbodyref06_ValidPart.calls k a0_0 a0_1 a0_2 a0_3 a0_4 a0_5 true _ A2.out).mono ?_); rintro e w7 ⟨rfl, hb⟩; refine ⟨_, rfl, ?_⟩; replace BK110 := zb BK110 hb; replace HB := zs HB hb; (try clear hb); (try clear hb2); (try clear hk); (try clear hi); obtain ⟨hcz8_0, hcz8_1, hcz8_2, hcz8_3, hcz8_4, hcz8_5, hfz8_0, hfz8_1, hfz8_2, hfz8_3, hfz8_4, hfz8_5⟩ := z6 BK110))
   go_ret
   exact ⟨zf, zm HB⟩
  ·rw [if_neg c4] at H
   have c4b0 : (a0_0 == 2) = false := beq_eq_false_iff_ne.mpr c4
   have c4b1 : (a0_0 != 2) = true := bne_iff_ne.mpr c4
   obtain ⟨ji9, hji9⟩ : ∃ j_ : Int, (mn (wrap64 (2 + a0_1)) 30) = j_ := ⟨_, rfl⟩
   replace H : (some ji9) = some r := by first | (rw [hji9] at H; exact H) | (simp only [hji9] at H ⊢; exact H)
   (try rw [hji9] at A2)
   (try (have hji9h : ji9 ≤ 30 := by (rw [← hji9]; unfold mn; (repeat' split) <;> omega)))
   (try (have hji9g : ji9 ≤ 64 := by omega))
   have hji9_ : (if 30 < (wrap64 (2 + a0_1)) then 30 else (wrap64 (2 + a0_1))) = ji9 := hji9
   obtain rfl := Option.some.inj H
   go_enter Try.func13, Try.ntmps13
   go_wp2_with (first | ((with_reducible refine gate_dst (N := 1) rfl ?_); refine zE 1 #[.int .i64 a0_0, .int .i64 a0_1, .int .i64 a0_2, .int .i64 a0_3, .int .i64 a0_4, .int .i64 a0_5] 23 ?_; intro gb110 hg w10 hbox hb; have BK110 := za (hbox); have GW110 := zg HB hg; have GE110 := zg HB hg; replace HB := zs HB hb; clear hb hbox hg; obtain ⟨hcz11_0, hcz11_1, hcz11_2, hcz11_3, hcz11_4, hcz11_5, hfz11_0, hfz11_1, hfz11_2, hfz11_3, hfz11_4, hfz11_5⟩ := z6 BK110) | ((with_reducible refine gate_callee (f := 31) rfl ?_); refine zL (some 4) Try.func31 #[.agg #[.int .i64 a0_0, .int .i64 a0_1, .int .i64 a0_2, .int .i64 a0_3, .int .i64 a0_4, .int .i64 a0_5]] ?_; (with_reducible refine (awardingbodyref06_ValidPart.calls k a0_0 a0_1 a0_2 a0_3 a0_4 a0_5 true _ A2.out).mono ?_); rintro e w12 ⟨rfl, hb⟩; refine ⟨_, rfl, ?_⟩; replace BK110 := zb BK110 hb; replace HB := zs HB hb; (try clear hb); (try clear hb2); (try clear hk); (try clear hi); obtain ⟨hcz13_0, hcz13_1, hcz13_2, hcz13_3, hcz13_4, hcz13_5, hfz13_0, hfz13_1, hfz13_2, hfz13_3, hfz13_4, hfz13_5⟩ := z6 BK110))
   go_ret
   exact ⟨by first | rfl | (simp [errW_none, errW_some] <;> rfl) | (simp only [← hji9]; first | rfl | (simp [errW_none, errW_some] <;> rfl)) | (simp [*, errW_none, errW_some] <;> rfl), zm HB⟩
 ·replace c3 := Bool.eq_false_iff.mpr c3
  subst c3
  have H1 : (some 0) = some r := by rw [if_neg (show ¬ (false = true) by decide)] at H; exact H
  clear H
  have H := H1
  clear H1
  obtain rfl := Option.some.inj H
  go_enter Try.func13, Try.ntmps13
  go_wp2_with (first | ((with_reducible refine gate_dst (N := 1) rfl ?_); refine zE 1 #[.int .i64 a0_0, .int .i64 a0_1, .int .i64 a0_2, .int .i64 a0_3, .int .i64 a0_4, .int .i64 a0_5] 23 ?_; intro gb110 hg w14 hbox hb; have BK110 := za (hbox); have GW110 := zg HB hg; have GE110 := zg HB hg; replace HB := zs HB hb; clear hb hbox hg; obtain ⟨hcz15_0, hcz15_1, hcz15_2, hcz15_3, hcz15_4, hcz15_5, hfz15_0, hfz15_1, hfz15_2, hfz15_3, hfz15_4, hfz15_5⟩ := z6 BK110) | ((with_reducible refine gate_callee (f := 31) rfl ?_); refine zL (some 4) Try.func31 #[.agg #[.int .i64 a0_0, .int .i64 a0_1, .int .i64 a0_2, .int .i64 a0_3, .int .i64 a0_4, .int .i64 a0_5]] ?_; (with_reducible refine (awardingbodyref06_ValidPart.calls k a0_0 a0_1 a0_2 a0_3 a0_4 a0_5 false _ A2.out).mono ?_); rintro e w16 ⟨rfl, hb⟩; refine ⟨_, rfl, ?_⟩; replace BK110 := zb BK110 hb; replace HB := zs HB hb; (try clear hb); (try clear hb2); (try clear hk); (try clear hi)))
  go_ret
  exact ⟨zf, zm HB⟩

-- NOT PRINTED: function 51 (api_Part_51)

-- NOT PRINTED: function 47 (api_Part_47)

/-! ### item_bad: function 48 -/
def item_bad.f (k : Nat) (a0_0 : Int) (a0_1 : Int) (a0_2 : Int) (a0_3 : Int) (a0_4 : Int) (a0_5 : Int) : Option (Bool) := (item_ValidPart.f k a0_0 a0_1 a0_2 a0_3 a0_4 a0_5).bind fun t113 => (some (!t113))
theorem item_bad.mono : ∀ a0 a1 a2 a3 a4 a5 k, LeO (item_bad.f k a0 a1 a2 a3 a4 a5) (item_bad.f (k + 1) a0 a1 a2 a3 a4 a5) := by
  intro a0 a1 a2 a3 a4 a5 k
  unfold item_bad.f
  repeat' first
      | (with_reducible exact item_ValidPart.mono _ _ _ _ _ _ _)
      | (with_reducible exact LeO.refl _)
      | (with_reducible exact LeO.none _)
      | (with_reducible refine LeO.ite ?_ ?_)
      | (with_reducible refine LeO.bind ?_ (fun _ => ?_))
      | exact item_ValidPart.mono _ _ _ _ _ _ _
      | exact LeO.none _
      | refine LeO.ite ?_ ?_
      | refine LeO.bind ?_ (fun _ => ?_)
set_option maxHeartbeats 8000000 in
set_option maxRecDepth 100000 in
theorem item_bad.calls (k : Nat) (a0_0 : Int) (a0_1 : Int) (a0_2 : Int) (a0_3 : Int) (a0_4 : Int) (a0_5 : Int) (r : Bool) (w : World) (h : item_bad.f k a0_0 a0_1 a0_2 a0_3 a0_4 a0_5 = some r) :
    Calls Try.prog 48 #[.agg #[.int .i64 a0_0, .int .i64 a0_1, .int .i64 a0_2, .int .i64 a0_3, .int .i64 a0_4, .int .i64 a0_5]] w fun e w' => e = .returned (.bool r) ∧ Below w.heap.size w w' := by
 have hu23 := Try.underlying23
 have HB := za (Below.refl w.heap.size w)
 have H : ((item_ValidPart.f k a0_0 a0_1 a0_2 a0_3 a0_4 a0_5).bind fun t113 => (some (!t113))) = some r := h
 clear h
 replace H := Option.bind_eq_some_iff.mp H
 obtain ⟨t113, A20, H⟩ := H
 replace H : (some (!t113)) = some r := H
 have A2 := za A20
 clear A20
 obtain rfl := Option.some.inj H
 go_enter Try.func48, Try.ntmps48
 go_wp2_with (first | ((with_reducible refine gate_dst (N := 1) rfl ?_); refine zE 1 #[.int .i64 a0_0, .int .i64 a0_1, .int .i64 a0_2, .int .i64 a0_3, .int .i64 a0_4, .int .i64 a0_5] 23 ?_; intro gb112 hg w3 hbox hb; have BK112 := za (hbox); have GW112 := zg HB hg; have GE112 := zg HB hg; replace HB := zs HB hb; clear hb hbox hg; obtain ⟨hcz4_0, hcz4_1, hcz4_2, hcz4_3, hcz4_4, hcz4_5, hfz4_0, hfz4_1, hfz4_2, hfz4_3, hfz4_4, hfz4_5⟩ := z6 BK112) | ((with_reducible refine gate_callee (f := 30) rfl ?_); refine zL (some 4) Try.func30 #[.agg #[.int .i64 a0_0, .int .i64 a0_1, .int .i64 a0_2, .int .i64 a0_3, .int .i64 a0_4, .int .i64 a0_5]] ?_; (with_reducible refine (item_ValidPart.calls k a0_0 a0_1 a0_2 a0_3 a0_4 a0_5 t113 _ A2.out).mono ?_); rintro e w5 ⟨rfl, hb⟩; refine ⟨_, rfl, ?_⟩; replace BK112 := zb BK112 hb; replace HB := zs HB hb; (try clear hb); (try clear hb2); (try clear hk); (try clear hi)))
 go_ret
 exact ⟨zf, zm HB⟩

/-! ### item_sum: function 49 -/
def item_sum.l0 : Nat → Int → List (S23) → Int → Int → Option (Int)
  | 0, _, _, _, _ => none
  | k + 1, x3, x6, x7, x8 => if x8 < x7 then (if 0 ≤ x8 then (if x8 < (x6.length : Int) then (item_sum.l0 k (wrap64 (x3 + ((rd_T23 x6 x8).f1))) x6 x7 (wrap64 (x8 + 1))) else (none)) else (none)) else (some x3)
def item_sum.f (k : Nat) (l0 : List (S23)) : Option (Int) := item_sum.l0 k 0 l0 (l0.length : Int) 0
theorem item_sum.mono_l : ∀ k, (∀ y0 y1 y2 y3, LeO (item_sum.l0 k y0 y1 y2 y3) (item_sum.l0 (k + 1) y0 y1 y2 y3))
  | 0 => fun _ _ _ _ r h => by simp [item_sum.l0] at h
  | k + 1 => by
    have ih0 := item_sum.mono_l k
    · intro y0 y1 y2 y3
      unfold item_sum.l0
      repeat' first
      | (with_reducible exact ih0 _ _ _ _)
      | (with_reducible exact LeO.refl _)
      | (with_reducible exact LeO.none _)
      | (with_reducible refine LeO.ite ?_ ?_)
      | (with_reducible refine LeO.bind ?_ (fun _ => ?_))
      | exact ih0 _ _ _ _
      | exact LeO.none _
      | refine LeO.ite ?_ ?_
      | refine LeO.bind ?_ (fun _ => ?_)
theorem item_sum.mono : ∀ a0 k, LeO (item_sum.f k a0) (item_sum.f (k + 1) a0) := by
  intro a0 k
  have ih0 := item_sum.mono_l k
  unfold item_sum.f
  repeat' first
      | (with_reducible exact ih0 _ _ _ _)
      | (with_reducible exact LeO.refl _)
      | (with_reducible exact LeO.none _)
      | (with_reducible refine LeO.ite ?_ ?_)
      | (with_reducible refine LeO.bind ?_ (fun _ => ?_))
      | exact ih0 _ _ _ _
      | exact LeO.none _
      | refine LeO.ite ?_ ?_
      | refine LeO.bind ?_ (fun _ => ?_)
set_option maxHeartbeats 8000000 in
set_option maxRecDepth 100000 in
theorem item_sum.calls (k : Nat) (A0 : Option Addr) (c0 : Nat) (l0 : List (S23)) (r : Int) (w : World) (hr0 : Kd.C k23 w A0 l0.length l0) (hc0 : l0.length ≤ c0) (h : item_sum.f k l0 = some r) :
    Calls Try.prog 49 #[.slice A0 l0.length c0] w fun e w' => e = .returned (.int .i64 r) ∧ Below w.heap.size w w' := by
 have hu23 := Try.underlying23
 have HR0 := za hr0
 have HC0 := za hc0
 clear hr0 hc0
 have HB := za (Below.refl w.heap.size w)
 have H : (item_sum.l0 k 0 l0 (l0.length : Int) 0) = some r := h
 clear h
 have H' := za H
 clear H
 go_enter Try.func49, Try.ntmps49
 go_wp2
 go_loopg [3, 8] k (fun kq v3 v8 w' => ∃ (x3_1 : Int) (x8_1 : Int), v3 = .int .i64 x3_1 ∧ v8 = .int .i64 x8_1 ∧ Aside0 (item_sum.l0 kq x3_1 l0 (l0.length : Int) x8_1 = some r) ∧ Aside0 (kq ≤ k) ∧ Aside0 (Below w.heap.size w w'))
 case atStart => exact ⟨(0), (0), (by first | rfl | (simp; done) | (simp [*]; done)), (by first | rfl | (simp; done) | (simp [*]; done)), H', ⟨Nat.le_refl _⟩, ⟨zm HB⟩⟩
 case round =>
  clear H'
  obtain ⟨x3_1, x8_1, rfl, rfl, HA, HK1, HB⟩ := hrel
  cases gk with
  | zero => exact absurd HA.out (by simp [item_sum.l0])
  | succ k1 =>
   have H := HA.out
   clear HA
   simp only [item_sum.l0] at H
   by_cases c2 : x8_1 < (l0.length : Int)
   ·rw [if_pos c2] at H
    have c2b0 : decide (x8_1 < (l0.length : Int)) = true := decide_eq_true c2
    clear c2
    by_cases c3 : 0 ≤ x8_1
    ·rw [if_pos c3] at H
     have c3b0 : decide (0 ≤ x8_1) = true := decide_eq_true c3
     clear c3
     by_cases c4 : x8_1 < (l0.length : Int)
     ·rw [if_pos c4] at H
      have c4b0 : decide (x8_1 < (l0.length : Int)) = true := decide_eq_true c4
      clear c4
      have H' := za H
      clear H
      have p114 : 0 ≤ (x8_1 : Int) := of_decide_eq_true (by first | (with_reducible assumption) | assumption)
      have q114 : x8_1 < (l0.length : Int) := of_decide_eq_true (by first | (with_reducible assumption) | assumption)
      obtain ⟨ad114, e114, hx114_0, hx114_1, hx114_2, hx114_3, hx114_4, hx114_5⟩ := at_T23 HR0.out x8_1 p114 q114
      cases e114
      replace hx114_0 := zx HB hx114_0
      replace hx114_1 := zx HB hx114_1
      replace hx114_2 := zx HB hx114_2
      replace hx114_3 := zx HB hx114_3
      replace hx114_4 := zx HB hx114_4
      replace hx114_5 := zx HB hx114_5
      replace p114 := eq_true p114
      replace q114 := eq_true q114
      go_wp2_with (first | ((with_reducible refine gate_dst (N := 5) rfl ?_); refine zE 5 #[.int .i64 0, .int .i64 0, .int .i64 0, .int .i64 0, .int .i64 0, .int .i64 0] 23 ?_; intro gb115 hg w5 hbox hb; have BK115 := za (hbox); have GW115 := zg HB hg; have GE115 := zg HB hg; replace HB := zs HB hb; clear hb hbox hg; obtain ⟨hcz6_0, hcz6_1, hcz6_2, hcz6_3, hcz6_4, hcz6_5, hfz6_0, hfz6_1, hfz6_2, hfz6_3, hfz6_4, hfz6_5⟩ := z6 BK115))
      go_roundg k1
      case measure => have := HK1.out; omega
      case rel => exact ⟨(wrap64 (x3_1 + ((rd_T23 l0 x8_1).f1))), (wrap64 (x8_1 + 1)), (by first | rfl | (simp; done) | (simp [*]; done)), (by first | rfl | (simp; done) | (simp [*]; done)), H', ⟨by have := HK1.out; omega⟩, ⟨zm HB⟩⟩
     ·rw [if_neg c4] at H
      exact absurd H (by simp)
    ·rw [if_neg c3] at H
     exact absurd H (by simp)
   ·rw [if_neg c2] at H
    have c2b0 : decide (x8_1 < (l0.length : Int)) = false := decide_eq_false c2
    clear c2
    obtain rfl := Option.some.inj H
    go_wp2
    go_ret
    exact ⟨zf, zm HB⟩

/-! ### api_Part_bad_s51: function 51 -/
def api_Part_bad_s51.l0 : Nat → List (S23) → Int → Int → Option (Int)
  | 0, _, _, _ => none
  | k + 1, x0, x7, x8 => if x8 < x7 then (if 0 ≤ x8 then (if x8 < (x0.length : Int) then ((item_bad.f k ((rd_T23 x0 x8).f0) ((rd_T23 x0 x8).f1) ((rd_T23 x0 x8).f2) ((rd_T23 x0 x8).f3) ((rd_T23 x0 x8).f4) ((rd_T23 x0 x8).f5)).bind fun t117 => (if t117 = true then (some x8) else (api_Part_bad_s51.l0 k x0 x7 (wrap64 (x8 + 1))))) else (none)) else (none)) else (some (-1))
def api_Part_bad_s51.f (k : Nat) (l0 : List (S23))  : Option (Int) := api_Part_bad_s51.l0 k l0 (l0.length : Int) 0
theorem api_Part_bad_s51.mono_l : ∀ k, (∀ y0 y1 y2, LeO (api_Part_bad_s51.l0 k y0 y1 y2) (api_Part_bad_s51.l0 (k + 1) y0 y1 y2))
  | 0 => fun _ _ _ r h => by simp [api_Part_bad_s51.l0] at h
  | k + 1 => by
    have ih0 := api_Part_bad_s51.mono_l k
    · intro y0 y1 y2
      unfold api_Part_bad_s51.l0
      repeat' first
      | (with_reducible exact ih0 _ _ _)
      | (with_reducible exact item_bad.mono _ _ _ _ _ _ _)
      | (with_reducible exact LeO.refl _)
      | (with_reducible exact LeO.none _)
      | (with_reducible refine LeO.ite ?_ ?_)
      | (with_reducible refine LeO.bind ?_ (fun _ => ?_))
      | exact ih0 _ _ _
      | exact item_bad.mono _ _ _ _ _ _ _
      | exact LeO.none _
      | refine LeO.ite ?_ ?_
      | refine LeO.bind ?_ (fun _ => ?_)
theorem api_Part_bad_s51.mono : ∀ a0 k, LeO (api_Part_bad_s51.f k a0) (api_Part_bad_s51.f (k + 1) a0) := by
  intro a0 k
  have ih0 := api_Part_bad_s51.mono_l k
  unfold api_Part_bad_s51.f
  repeat' first
      | (with_reducible exact ih0 _ _ _)
      | (with_reducible exact item_bad.mono _ _ _ _ _ _ _)
      | (with_reducible exact LeO.refl _)
      | (with_reducible exact LeO.none _)
      | (with_reducible refine LeO.ite ?_ ?_)
      | (with_reducible refine LeO.bind ?_ (fun _ => ?_))
      | exact ih0 _ _ _
      | exact item_bad.mono _ _ _ _ _ _ _
      | exact LeO.none _
      | refine LeO.ite ?_ ?_
      | refine LeO.bind ?_ (fun _ => ?_)
set_option maxHeartbeats 8000000 in
set_option maxRecDepth 100000 in
theorem api_Part_bad_s51.calls (k : Nat) (A0 : Option Addr) (c0 : Nat) (l0 : List (S23))  (r : Int) (w : World) (hr0 : Kd.C k23 w A0 l0.length l0) (hc0 : l0.length ≤ c0) (h : api_Part_bad_s51.f k l0 = some r) :
    Calls Try.prog 51 #[.slice A0 l0.length c0, .func (.func 48) #[] #[]] w fun e w' => e = .returned (.int .i64 r) ∧ Below w.heap.size w w' := by
 have hu23 := Try.underlying23
 have HR0 := za hr0
 have HC0 := za hc0
 clear hr0 hc0
 have HB := za (Below.refl w.heap.size w)
 have H : (api_Part_bad_s51.l0 k l0 (l0.length : Int) 0) = some r := h
 clear h
 have H' := za H
 clear H
 go_enter Try.func51, Try.ntmps51
 go_wp2
 go_loopg [8] k (fun kq v8 w' => ∃ (x8_1 : Int), v8 = .int .i64 x8_1 ∧ Aside0 (api_Part_bad_s51.l0 kq l0 (l0.length : Int) x8_1 = some r) ∧ Aside0 (kq ≤ k) ∧ Aside0 (Below w.heap.size w w'))
 case atStart => exact ⟨(0), (by first | rfl | (simp; done) | (simp [*]; done)), H', ⟨Nat.le_refl _⟩, ⟨zm HB⟩⟩
 case round =>
  clear H'
  try clear p2
  obtain ⟨x8_1, rfl, HA, HK1, HB⟩ := hrel
  cases gk with
  | zero => exact absurd HA.out (by simp [api_Part_bad_s51.l0])
  | succ k1 =>
   have H := HA.out
   clear HA
   simp only [api_Part_bad_s51.l0] at H
   by_cases c3 : x8_1 < (l0.length : Int)
   ·rw [if_pos c3] at H
    have c3b0 : decide (x8_1 < (l0.length : Int)) = true := decide_eq_true c3
    clear c3
    by_cases c4 : 0 ≤ x8_1
    ·rw [if_pos c4] at H
     have c4b0 : decide (0 ≤ x8_1) = true := decide_eq_true c4
     clear c4
     by_cases c5 : x8_1 < (l0.length : Int)
     ·rw [if_pos c5] at H
      have c5b0 : decide (x8_1 < (l0.length : Int)) = true := decide_eq_true c5
      clear c5
      replace H := Option.bind_eq_some_iff.mp H
      obtain ⟨t117, A60, H⟩ := H
      replace H : (if t117 = true then (some x8_1) else (api_Part_bad_s51.l0 k1 l0 (l0.length : Int) (wrap64 (x8_1 + 1)))) = some r := H
      have A6 := za A60
      clear A60
      by_cases c7 : t117 = true
      ·subst c7
       have H1 : (some x8_1) = some r := by rw [if_pos rfl] at H; exact H
       clear H
       have H := H1
       clear H1
       obtain rfl := Option.some.inj H
       have p116 : 0 ≤ (x8_1 : Int) := of_decide_eq_true (by first | (with_reducible assumption) | assumption)
       have q116 : x8_1 < (l0.length : Int) := of_decide_eq_true (by first | (with_reducible assumption) | assumption)
       obtain ⟨ad116, e116, hx116_0, hx116_1, hx116_2, hx116_3, hx116_4, hx116_5⟩ := at_T23 HR0.out x8_1 p116 q116
       cases e116
       replace hx116_0 := zx HB hx116_0
       replace hx116_1 := zx HB hx116_1
       replace hx116_2 := zx HB hx116_2
       replace hx116_3 := zx HB hx116_3
       replace hx116_4 := zx HB hx116_4
       replace hx116_5 := zx HB hx116_5
       replace p116 := eq_true p116
       replace q116 := eq_true q116
       go_wp2_with (first | (go_at_call 48; (with_reducible refine (item_bad.calls k1 ((rd_T23 l0 x8_1).f0) ((rd_T23 l0 x8_1).f1) ((rd_T23 l0 x8_1).f2) ((rd_T23 l0 x8_1).f3) ((rd_T23 l0 x8_1).f4) ((rd_T23 l0 x8_1).f5) true _ A6.out).mono ?_); rintro e w8 ⟨rfl, hb⟩; replace HB := zs HB hb; (try clear hb); (try clear hb2); (try clear hk); (try clear hi)))
       go_ret
       exact ⟨zf, zm HB⟩
      ·replace c7 := Bool.eq_false_iff.mpr c7
       subst c7
       have H1 : (api_Part_bad_s51.l0 k1 l0 (l0.length : Int) (wrap64 (x8_1 + 1))) = some r := by rw [if_neg (show ¬ (false = true) by decide)] at H; exact H
       clear H
       have H := H1
       clear H1
       have H' := za H
       clear H
       have p116 : 0 ≤ (x8_1 : Int) := of_decide_eq_true (by first | (with_reducible assumption) | assumption)
       have q116 : x8_1 < (l0.length : Int) := of_decide_eq_true (by first | (with_reducible assumption) | assumption)
       obtain ⟨ad116, e116, hx116_0, hx116_1, hx116_2, hx116_3, hx116_4, hx116_5⟩ := at_T23 HR0.out x8_1 p116 q116
       cases e116
       replace hx116_0 := zx HB hx116_0
       replace hx116_1 := zx HB hx116_1
       replace hx116_2 := zx HB hx116_2
       replace hx116_3 := zx HB hx116_3
       replace hx116_4 := zx HB hx116_4
       replace hx116_5 := zx HB hx116_5
       replace p116 := eq_true p116
       replace q116 := eq_true q116
       go_wp2_with (first | (go_at_call 48; (with_reducible refine (item_bad.calls k1 ((rd_T23 l0 x8_1).f0) ((rd_T23 l0 x8_1).f1) ((rd_T23 l0 x8_1).f2) ((rd_T23 l0 x8_1).f3) ((rd_T23 l0 x8_1).f4) ((rd_T23 l0 x8_1).f5) false _ A6.out).mono ?_); rintro e w9 ⟨rfl, hb⟩; replace HB := zs HB hb; (try clear hb); (try clear hb2); (try clear hk); (try clear hi)))
       go_roundg k1
       case measure => have := HK1.out; omega
       case rel => exact ⟨(wrap64 (x8_1 + 1)), (by first | rfl | (simp; done) | (simp [*]; done)), H', ⟨by have := HK1.out; omega⟩, ⟨zm HB⟩⟩
     ·rw [if_neg c5] at H
      exact absurd H (by simp)
    ·rw [if_neg c4] at H
     exact absurd H (by simp)
   ·rw [if_neg c3] at H
    have c3b0 : decide (x8_1 < (l0.length : Int)) = false := decide_eq_false c3
    clear c3
    obtain rfl := Option.some.inj H
    go_wp2
    go_ret
    exact ⟨zf, zm HB⟩

/-! ### api_Part_bad_s47: function 47 -/
def api_Part_bad_s47.f (k : Nat) (l0 : List (S23))  : Option (Bool) := (api_Part_bad_s51.f k l0).bind fun t118 => (some (decide (t118 ≥ 0)))
theorem api_Part_bad_s47.mono : ∀ a0 k, LeO (api_Part_bad_s47.f k a0) (api_Part_bad_s47.f (k + 1) a0) := by
  intro a0 k
  unfold api_Part_bad_s47.f
  repeat' first
      | (with_reducible exact api_Part_bad_s51.mono _ _)
      | (with_reducible exact LeO.refl _)
      | (with_reducible exact LeO.none _)
      | (with_reducible refine LeO.ite ?_ ?_)
      | (with_reducible refine LeO.bind ?_ (fun _ => ?_))
      | exact api_Part_bad_s51.mono _ _
      | exact LeO.none _
      | refine LeO.ite ?_ ?_
      | refine LeO.bind ?_ (fun _ => ?_)
set_option maxHeartbeats 8000000 in
set_option maxRecDepth 100000 in
theorem api_Part_bad_s47.calls (k : Nat) (A0 : Option Addr) (c0 : Nat) (l0 : List (S23))  (r : Bool) (w : World) (hr0 : Kd.C k23 w A0 l0.length l0) (hc0 : l0.length ≤ c0) (h : api_Part_bad_s47.f k l0 = some r) :
    Calls Try.prog 47 #[.slice A0 l0.length c0, .func (.func 48) #[] #[]] w fun e w' => e = .returned (.bool r) ∧ Below w.heap.size w w' := by
 have HR0 := za hr0
 have HC0 := za hc0
 clear hr0 hc0
 have HB := za (Below.refl w.heap.size w)
 have H : ((api_Part_bad_s51.f k l0).bind fun t118 => (some (decide (t118 ≥ 0)))) = some r := h
 clear h
 replace H := Option.bind_eq_some_iff.mp H
 obtain ⟨t118, A30, H⟩ := H
 replace H : (some (decide (t118 ≥ 0))) = some r := H
 have A3 := za A30
 clear A30
 obtain rfl := Option.some.inj H
 go_enter Try.func47, Try.ntmps47
 go_wp2_with (first | (go_at_call 51; (with_reducible refine (api_Part_bad_s51.calls k _ _ l0 t118 _ ?side1 ?side2 A3.out).mono ?_); (case side1 => repeat (first | exact HR0.out | (with_reducible refine Kd.C_alloc ?_ _) | (with_reducible refine Kd.C_drewN ?_ _) | (with_reducible refine Kd.C_drew ?_))); (case side2 => exact HC0.out); rintro e w4 ⟨rfl, hb⟩; replace HB := zs HB hb; (try clear hb); (try clear hb2); (try clear hk); (try clear hi)))
 go_ret
 exact ⟨zf, zm HB⟩

end Go.Proofs.Ytdmlbgdefapcjaa.Print
