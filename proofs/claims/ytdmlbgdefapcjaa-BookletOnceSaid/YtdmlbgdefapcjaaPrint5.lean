-- Printed by a program of this session (wip/own_print.py) out of the translation; Lean checks it.
import Derived.Test.YtdmlbgdefapcjaaShort
import Derived.Test.YtdmlbgdefapcjaaPrint0
namespace Go.Proofs.Ytdmlbgdefapcjaa.Print
open Go.RowKit Go.Proofs.YtdmlbgdefapcjaaW.PrintWords Go.Proofs.YtdmlbgdefapcjaaW.PrintLast Go.Proofs.YtdmlbgdefapcjaaW.PrintMore
attribute [local go_sem] max2_int min2_int max_two min_two max_three min_three max_four min_four   -- for this text's walks alone
set_option linter.unusedVariables false
set_option linter.unusedSimpArgs false

/-! ### awardingbodyref06_ValidPart: function 31 -/
def awardingbodyref06_ValidPart.j0 : Nat → Bool → Int → Int → Int → Int → Int → Int → Option (Bool)
  | 0, _, _, _, _, _, _, _ => none
  | k + 1, x30, x235000, x235001, x235002, x235003, x235004, x235005 => if x30 = true then (some false) else (if x235000 = 1 then (if x235004 = 0 then (some (x235005 == 0)) else (some false)) else (if x235000 = 2 then (if x235004 ≥ 2 then (if x235004 ≤ 5 then (if x235005 ≥ 0 then (some (decide (x235005 < x235004))) else (some false)) else (some false)) else (some false)) else (some false)))
def awardingbodyref06_ValidPart.f (k : Nat) (a0_0 : Int) (a0_1 : Int) (a0_2 : Int) (a0_3 : Int) (a0_4 : Int) (a0_5 : Int) : Option (Bool) := if a0_1 < 1 then (awardingbodyref06_ValidPart.j0 k true a0_0 a0_1 a0_2 a0_3 a0_4 a0_5) else (if a0_1 > 40 then (awardingbodyref06_ValidPart.j0 k true a0_0 a0_1 a0_2 a0_3 a0_4 a0_5) else (if a0_2 < 0 then (awardingbodyref06_ValidPart.j0 k true a0_0 a0_1 a0_2 a0_3 a0_4 a0_5) else (if a0_2 ≥ 16 then (awardingbodyref06_ValidPart.j0 k true a0_0 a0_1 a0_2 a0_3 a0_4 a0_5) else (if a0_3 < 0 then (awardingbodyref06_ValidPart.j0 k true a0_0 a0_1 a0_2 a0_3 a0_4 a0_5) else (awardingbodyref06_ValidPart.j0 k (decide (a0_3 ≥ 6)) a0_0 a0_1 a0_2 a0_3 a0_4 a0_5)))))
theorem awardingbodyref06_ValidPart.mono_l : ∀ k, (∀ y0 y1 y2 y3 y4 y5 y6, LeO (awardingbodyref06_ValidPart.j0 k y0 y1 y2 y3 y4 y5 y6) (awardingbodyref06_ValidPart.j0 (k + 1) y0 y1 y2 y3 y4 y5 y6))
  | 0 => fun _ _ _ _ _ _ _ r h => by simp [awardingbodyref06_ValidPart.j0] at h
  | k + 1 => by
    have ih0 := awardingbodyref06_ValidPart.mono_l k
    · intro y0 y1 y2 y3 y4 y5 y6
      unfold awardingbodyref06_ValidPart.j0
      repeat' first
      | (with_reducible exact ih0 _ _ _ _ _ _ _)
      | (with_reducible exact LeO.refl _)
      | (with_reducible exact LeO.none _)
      | (with_reducible refine LeO.ite ?_ ?_)
      | (with_reducible refine LeO.bind ?_ (fun _ => ?_))
      | exact ih0 _ _ _ _ _ _ _
      | exact LeO.none _
      | refine LeO.ite ?_ ?_
      | refine LeO.bind ?_ (fun _ => ?_)
theorem awardingbodyref06_ValidPart.mono : ∀ a0 a1 a2 a3 a4 a5 k, LeO (awardingbodyref06_ValidPart.f k a0 a1 a2 a3 a4 a5) (awardingbodyref06_ValidPart.f (k + 1) a0 a1 a2 a3 a4 a5) := by
  intro a0 a1 a2 a3 a4 a5 k
  have ih0 := awardingbodyref06_ValidPart.mono_l k
  unfold awardingbodyref06_ValidPart.f
  repeat' first
      | (with_reducible exact ih0 _ _ _ _ _ _ _)
      | (with_reducible exact LeO.refl _)
      | (with_reducible exact LeO.none _)
      | (with_reducible refine LeO.ite ?_ ?_)
      | (with_reducible refine LeO.bind ?_ (fun _ => ?_))
      | exact ih0 _ _ _ _ _ _ _
      | exact LeO.none _
      | refine LeO.ite ?_ ?_
      | refine LeO.bind ?_ (fun _ => ?_)
set_option maxHeartbeats 8000000 in
set_option maxRecDepth 100000 in
theorem awardingbodyref06_ValidPart.calls (k : Nat) (a0_0 : Int) (a0_1 : Int) (a0_2 : Int) (a0_3 : Int) (a0_4 : Int) (a0_5 : Int) (r : Bool) (w : World) (h : awardingbodyref06_ValidPart.f k a0_0 a0_1 a0_2 a0_3 a0_4 a0_5 = some r) :
    Calls Try.prog 31 #[.agg #[.int .i64 a0_0, .int .i64 a0_1, .int .i64 a0_2, .int .i64 a0_3, .int .i64 a0_4, .int .i64 a0_5]] w fun e w' => e = .returned (.bool r) ∧ Below w.heap.size w w' := by
 have hu23 := Try.underlying23
 have HB := za (Below.refl w.heap.size w)
 have H : (if a0_1 < 1 then (awardingbodyref06_ValidPart.j0 k true a0_0 a0_1 a0_2 a0_3 a0_4 a0_5) else (if a0_1 > 40 then (awardingbodyref06_ValidPart.j0 k true a0_0 a0_1 a0_2 a0_3 a0_4 a0_5) else (if a0_2 < 0 then (awardingbodyref06_ValidPart.j0 k true a0_0 a0_1 a0_2 a0_3 a0_4 a0_5) else (if a0_2 ≥ 16 then (awardingbodyref06_ValidPart.j0 k true a0_0 a0_1 a0_2 a0_3 a0_4 a0_5) else (if a0_3 < 0 then (awardingbodyref06_ValidPart.j0 k true a0_0 a0_1 a0_2 a0_3 a0_4 a0_5) else (awardingbodyref06_ValidPart.j0 k (decide (a0_3 ≥ 6)) a0_0 a0_1 a0_2 a0_3 a0_4 a0_5)))))) = some r := h
 clear h
 have HC2 := za H
 clear H
 go_enter Try.func31, Try.ntmps31
 go_upto_region 1 with (first | ((with_reducible refine gate_dst (N := 1) rfl ?_); refine zE 1 #[.int .i64 a0_0, .int .i64 a0_1, .int .i64 a0_2, .int .i64 a0_3, .int .i64 a0_4, .int .i64 a0_5] 23 ?_; intro gb234 hg w3 hbox hb; have BK234 := za (hbox); have GW234 := zg HB hg; have GE234 := zg HB hg; replace HB := zs HB hb; clear hb hbox hg))
 (try simp only [Act.put, List.setIfInBounds_toArray, List.set_cons_zero, List.set_cons_succ])
 go_cut [30] (fun v30 wc => ∃ (kq : Nat) (x30_1 : Bool), v30 = .bool x30_1 ∧ Aside0 (awardingbodyref06_ValidPart.j0 kq x30_1 a0_0 a0_1 a0_2 a0_3 a0_4 a0_5 = some r) ∧ Aside0 (kq ≤ k) ∧ Aside0 (wc.heap[gb234]? = some (.cells #[.int .i64 a0_0, .int .i64 a0_1, .int .i64 a0_2, .int .i64 a0_3, .int .i64 a0_4, .int .i64 a0_5] 23 (0, 0))) ∧ Aside0 (Below w.heap.size w wc))
 case first =>
  have H := HC2.out
  clear HC2
  by_cases c4 : a0_1 < 1
  ·rw [if_pos c4] at H
   have c4b0 : decide (a0_1 < 1) = true := decide_eq_true c4
   clear c4
   (first | rw [c4b0] | (simp only [i64_w, i32_w]; rw [c4b0]) | skip)
   have H' := za H
   clear H
   obtain ⟨hcz5_0, hcz5_1, hcz5_2, hcz5_3, hcz5_4, hcz5_5, hfz5_0, hfz5_1, hfz5_2, hfz5_3, hfz5_4, hfz5_5⟩ := z6 BK234
   go_wp2
   go_meet
   case rel => exact ⟨_, (true), (by first | rfl | (simp; done) | (simp [*]; done)), H', ⟨by first | omega | exact Nat.le_refl _⟩, ⟨by (with_reducible repeat (first | refine blk_drewN ?_ _ | refine blk_drew ?_ | refine blk_alloc ?_ _)); exact BK234.out⟩, ⟨zm HB⟩⟩
  ·rw [if_neg c4] at H
   have c4b0 : decide (a0_1 < 1) = false := decide_eq_false c4
   clear c4
   (first | rw [c4b0] | (simp only [i64_w, i32_w]; rw [c4b0]) | skip)
   by_cases c6 : a0_1 > 40
   ·rw [if_pos c6] at H
    have c6b0 : decide (40 < a0_1) = true := decide_eq_true c6
    clear c6
    have H' := za H
    clear H
    obtain ⟨hcz7_0, hcz7_1, hcz7_2, hcz7_3, hcz7_4, hcz7_5, hfz7_0, hfz7_1, hfz7_2, hfz7_3, hfz7_4, hfz7_5⟩ := z6 BK234
    go_wp2
    go_meet
    case rel => exact ⟨_, (true), (by first | rfl | (simp; done) | (simp [*]; done)), H', ⟨by first | omega | exact Nat.le_refl _⟩, ⟨by (with_reducible repeat (first | refine blk_drewN ?_ _ | refine blk_drew ?_ | refine blk_alloc ?_ _)); exact BK234.out⟩, ⟨zm HB⟩⟩
   ·rw [if_neg c6] at H
    have c6b0 : decide (40 < a0_1) = false := decide_eq_false c6
    clear c6
    by_cases c8 : a0_2 < 0
    ·rw [if_pos c8] at H
     have c8b0 : decide (a0_2 < 0) = true := decide_eq_true c8
     clear c8
     have H' := za H
     clear H
     obtain ⟨hcz9_0, hcz9_1, hcz9_2, hcz9_3, hcz9_4, hcz9_5, hfz9_0, hfz9_1, hfz9_2, hfz9_3, hfz9_4, hfz9_5⟩ := z6 BK234
     go_wp2
     go_meet
     case rel => exact ⟨_, (true), (by first | rfl | (simp; done) | (simp [*]; done)), H', ⟨by first | omega | exact Nat.le_refl _⟩, ⟨by (with_reducible repeat (first | refine blk_drewN ?_ _ | refine blk_drew ?_ | refine blk_alloc ?_ _)); exact BK234.out⟩, ⟨zm HB⟩⟩
    ·rw [if_neg c8] at H
     have c8b0 : decide (a0_2 < 0) = false := decide_eq_false c8
     clear c8
     by_cases c10 : a0_2 ≥ 16
     ·rw [if_pos c10] at H
      have c10b0 : decide (16 ≤ a0_2) = true := decide_eq_true c10
      clear c10
      have H' := za H
      clear H
      obtain ⟨hcz11_0, hcz11_1, hcz11_2, hcz11_3, hcz11_4, hcz11_5, hfz11_0, hfz11_1, hfz11_2, hfz11_3, hfz11_4, hfz11_5⟩ := z6 BK234
      go_wp2
      go_meet
      case rel => exact ⟨_, (true), (by first | rfl | (simp; done) | (simp [*]; done)), H', ⟨by first | omega | exact Nat.le_refl _⟩, ⟨by (with_reducible repeat (first | refine blk_drewN ?_ _ | refine blk_drew ?_ | refine blk_alloc ?_ _)); exact BK234.out⟩, ⟨zm HB⟩⟩
     ·rw [if_neg c10] at H
      have c10b0 : decide (16 ≤ a0_2) = false := decide_eq_false c10
      clear c10
      by_cases c12 : a0_3 < 0
      ·rw [if_pos c12] at H
       have c12b0 : decide (a0_3 < 0) = true := decide_eq_true c12
       clear c12
       have H' := za H
       clear H
       obtain ⟨hcz13_0, hcz13_1, hcz13_2, hcz13_3, hcz13_4, hcz13_5, hfz13_0, hfz13_1, hfz13_2, hfz13_3, hfz13_4, hfz13_5⟩ := z6 BK234
       go_wp2
       go_meet
       case rel => exact ⟨_, (true), (by first | rfl | (simp; done) | (simp [*]; done)), H', ⟨by first | omega | exact Nat.le_refl _⟩, ⟨by (with_reducible repeat (first | refine blk_drewN ?_ _ | refine blk_drew ?_ | refine blk_alloc ?_ _)); exact BK234.out⟩, ⟨zm HB⟩⟩
      ·rw [if_neg c12] at H
       have c12b0 : decide (a0_3 < 0) = false := decide_eq_false c12
       clear c12
       have H' := za H
       clear H
       obtain ⟨hcz14_0, hcz14_1, hcz14_2, hcz14_3, hcz14_4, hcz14_5, hfz14_0, hfz14_1, hfz14_2, hfz14_3, hfz14_4, hfz14_5⟩ := z6 BK234
       go_wp2
       go_meet
       case rel => exact ⟨_, (decide (a0_3 ≥ 6)), (by first | rfl | (simp; done) | (simp [*]; done)), H', ⟨by first | omega | exact Nat.le_refl _⟩, ⟨by (with_reducible repeat (first | refine blk_drewN ?_ _ | refine blk_drew ?_ | refine blk_alloc ?_ _)); exact BK234.out⟩, ⟨zm HB⟩⟩
 case rest =>
  clear HC2
  try clear c1
  try clear p2
  try clear c3
  try clear c4
  try clear c4b0
  try clear c6
  try clear c6b0
  try clear c8
  try clear c8b0
  try clear c10
  try clear c10b0
  try clear c12
  try clear c12b0
  try clear hcz11_0
  try clear hcz11_1
  try clear hcz11_2
  try clear hcz11_3
  try clear hcz11_4
  try clear hcz11_5
  try clear hcz13_0
  try clear hcz13_1
  try clear hcz13_2
  try clear hcz13_3
  try clear hcz13_4
  try clear hcz13_5
  try clear hcz14_0
  try clear hcz14_1
  try clear hcz14_2
  try clear hcz14_3
  try clear hcz14_4
  try clear hcz14_5
  try clear hcz5_0
  try clear hcz5_1
  try clear hcz5_2
  try clear hcz5_3
  try clear hcz5_4
  try clear hcz5_5
  try clear hcz7_0
  try clear hcz7_1
  try clear hcz7_2
  try clear hcz7_3
  try clear hcz7_4
  try clear hcz7_5
  try clear hcz9_0
  try clear hcz9_1
  try clear hcz9_2
  try clear hcz9_3
  try clear hcz9_4
  try clear hcz9_5
  try clear hfz11_0
  try clear hfz11_1
  try clear hfz11_2
  try clear hfz11_3
  try clear hfz11_4
  try clear hfz11_5
  try clear hfz13_0
  try clear hfz13_1
  try clear hfz13_2
  try clear hfz13_3
  try clear hfz13_4
  try clear hfz13_5
  try clear hfz14_0
  try clear hfz14_1
  try clear hfz14_2
  try clear hfz14_3
  try clear hfz14_4
  try clear hfz14_5
  try clear hfz5_0
  try clear hfz5_1
  try clear hfz5_2
  try clear hfz5_3
  try clear hfz5_4
  try clear hfz5_5
  try clear hfz7_0
  try clear hfz7_1
  try clear hfz7_2
  try clear hfz7_3
  try clear hfz7_4
  try clear hfz7_5
  try clear hfz9_0
  try clear hfz9_1
  try clear hfz9_2
  try clear hfz9_3
  try clear hfz9_4
  try clear hfz9_5
  obtain ⟨kq, x30_1, rfl, HA, HJ1, BK234, HB⟩ := hcut
  cases kq with
  | zero => exact absurd HA.out (by simp [awardingbodyref06_ValidPart.j0])
  | succ kj1 =>
   have H := HA.out
   clear HA
   simp only [awardingbodyref06_ValidPart.j0] at H
   by_cases c15 : x30_1 = true
   ·subst c15
    have H1 : (some false) = some r := by rw [if_pos rfl] at H; exact H
    clear H
    have H := H1
    clear H1
    obtain rfl := Option.some.inj H
    go_wp2
    go_ret
    exact ⟨zf, zm HB⟩
   ·replace c15 := Bool.eq_false_iff.mpr c15
    subst c15
    have H1 : (if a0_0 = 1 then (if a0_4 = 0 then (some (a0_5 == 0)) else (some false)) else (if a0_0 = 2 then (if a0_4 ≥ 2 then (if a0_4 ≤ 5 then (if a0_5 ≥ 0 then (some (decide (a0_5 < a0_4))) else (some false)) else (some false)) else (some false)) else (some false))) = some r := by rw [if_neg (show ¬ (false = true) by decide)] at H; exact H
    clear H
    have H := H1
    clear H1
    by_cases c16 : a0_0 = 1
    ·rw [if_pos c16] at H
     have c16b0 : (a0_0 == 1) = true := beq_iff_eq.mpr c16
     have c16b1 : (a0_0 != 1) = false := bne_eq_false_iff_eq.mpr c16
     clear c16
     by_cases c17 : a0_4 = 0
     ·rw [if_pos c17] at H
      have c17b0 : (a0_4 == 0) = true := beq_iff_eq.mpr c17
      have c17b1 : (a0_4 != 0) = false := bne_eq_false_iff_eq.mpr c17
      clear c17
      obtain rfl := Option.some.inj H
      obtain ⟨hcz18_0, hcz18_1, hcz18_2, hcz18_3, hcz18_4, hcz18_5, hfz18_0, hfz18_1, hfz18_2, hfz18_3, hfz18_4, hfz18_5⟩ := z6 BK234
      go_wp2
      go_ret
      exact ⟨zf, zm HB⟩
     ·rw [if_neg c17] at H
      have c17b0 : (a0_4 == 0) = false := beq_eq_false_iff_ne.mpr c17
      have c17b1 : (a0_4 != 0) = true := bne_iff_ne.mpr c17
      obtain rfl := Option.some.inj H
      obtain ⟨hcz19_0, hcz19_1, hcz19_2, hcz19_3, hcz19_4, hcz19_5, hfz19_0, hfz19_1, hfz19_2, hfz19_3, hfz19_4, hfz19_5⟩ := z6 BK234
      go_wp2
      go_ret
      exact ⟨zf, zm HB⟩
    ·rw [if_neg c16] at H
     have c16b0 : (a0_0 == 1) = false := beq_eq_false_iff_ne.mpr c16
     have c16b1 : (a0_0 != 1) = true := bne_iff_ne.mpr c16
     by_cases c20 : a0_0 = 2
     ·rw [if_pos c20] at H
      have c20b0 : (a0_0 == 2) = true := beq_iff_eq.mpr c20
      have c20b1 : (a0_0 != 2) = false := bne_eq_false_iff_eq.mpr c20
      clear c20
      by_cases c21 : a0_4 ≥ 2
      ·rw [if_pos c21] at H
       have c21b0 : decide (2 ≤ a0_4) = true := decide_eq_true c21
       clear c21
       by_cases c22 : a0_4 ≤ 5
       ·rw [if_pos c22] at H
        have c22b0 : decide (a0_4 ≤ 5) = true := decide_eq_true c22
        clear c22
        by_cases c23 : a0_5 ≥ 0
        ·rw [if_pos c23] at H
         have c23b0 : decide (0 ≤ a0_5) = true := decide_eq_true c23
         clear c23
         obtain rfl := Option.some.inj H
         obtain ⟨hcz24_0, hcz24_1, hcz24_2, hcz24_3, hcz24_4, hcz24_5, hfz24_0, hfz24_1, hfz24_2, hfz24_3, hfz24_4, hfz24_5⟩ := z6 BK234
         go_wp2
         go_ret
         exact ⟨zf, zm HB⟩
        ·rw [if_neg c23] at H
         have c23b0 : decide (0 ≤ a0_5) = false := decide_eq_false c23
         clear c23
         obtain rfl := Option.some.inj H
         obtain ⟨hcz25_0, hcz25_1, hcz25_2, hcz25_3, hcz25_4, hcz25_5, hfz25_0, hfz25_1, hfz25_2, hfz25_3, hfz25_4, hfz25_5⟩ := z6 BK234
         go_wp2
         go_ret
         exact ⟨zf, zm HB⟩
       ·rw [if_neg c22] at H
        have c22b0 : decide (a0_4 ≤ 5) = false := decide_eq_false c22
        clear c22
        obtain rfl := Option.some.inj H
        obtain ⟨hcz26_0, hcz26_1, hcz26_2, hcz26_3, hcz26_4, hcz26_5, hfz26_0, hfz26_1, hfz26_2, hfz26_3, hfz26_4, hfz26_5⟩ := z6 BK234
        go_wp2
        go_ret
        exact ⟨zf, zm HB⟩
      ·rw [if_neg c21] at H
       have c21b0 : decide (2 ≤ a0_4) = false := decide_eq_false c21
       clear c21
       obtain rfl := Option.some.inj H
       obtain ⟨hcz27_0, hcz27_1, hcz27_2, hcz27_3, hcz27_4, hcz27_5, hfz27_0, hfz27_1, hfz27_2, hfz27_3, hfz27_4, hfz27_5⟩ := z6 BK234
       go_wp2
       go_ret
       exact ⟨zf, zm HB⟩
     ·rw [if_neg c20] at H
      have c20b0 : (a0_0 == 2) = false := beq_eq_false_iff_ne.mpr c20
      have c20b1 : (a0_0 != 2) = true := bne_iff_ne.mpr c20
      obtain rfl := Option.some.inj H
      obtain ⟨hcz28_0, hcz28_1, hcz28_2, hcz28_3, hcz28_4, hcz28_5, hfz28_0, hfz28_1, hfz28_2, hfz28_3, hfz28_4, hfz28_5⟩ := z6 BK234
      go_wp2
      go_ret
      exact ⟨zf, zm HB⟩

/-! ### awardingbodyref06_ValidPaper: function 38 -/
mutual
def awardingbodyref06_ValidPaper.j0 : Nat → Bool → Int → Int → List (S23) → Option (Bool)
  | 0, _, _, _, _ => none
  | k + 1, x34, x236000, x236001, x236002 => if x34 = true then (some false) else (awardingbodyref06_ValidPaper.l0 k 0 0 x236000 x236001 x236002)
def awardingbodyref06_ValidPaper.l0 : Nat → Int → Int → Int → Int → List (S23) → Option (Bool)
  | 0, _, _, _, _, _ => none
  | k + 1, x3, x4, x236000, x236001, x236002 => if x4 < (x236002.length : Int) then (if 0 ≤ x4 then ((awardingbodyref06_ValidPart.f k ((rd_T23 x236002 x4).f0) ((rd_T23 x236002 x4).f1) ((rd_T23 x236002 x4).f2) ((rd_T23 x236002 x4).f3) ((rd_T23 x236002 x4).f4) ((rd_T23 x236002 x4).f5)).bind fun t237 => (if t237 = true then (awardingbodyref06_ValidPaper.l0 k (wrap64 (x3 + ((rd_T23 x236002 x4).f1))) (wrap64 (x4 + 1)) x236000 x236001 x236002) else (some false))) else (none)) else (some (decide (x3 ≤ 200)))
end
def awardingbodyref06_ValidPaper.f (k : Nat) (a0_0 : Int) (a0_1 : Int) (l0_2 : List (S23)) : Option (Bool) := if a0_0 < 0 then (awardingbodyref06_ValidPaper.j0 k true a0_0 a0_1 l0_2) else (if a0_0 > 31 then (awardingbodyref06_ValidPaper.j0 k true a0_0 a0_1 l0_2) else (if a0_1 < 0 then (awardingbodyref06_ValidPaper.j0 k true a0_0 a0_1 l0_2) else (if a0_1 ≥ 4 then (awardingbodyref06_ValidPaper.j0 k true a0_0 a0_1 l0_2) else (if (l0_2.length : Int) < 1 then (awardingbodyref06_ValidPaper.j0 k true a0_0 a0_1 l0_2) else (awardingbodyref06_ValidPaper.j0 k (decide ((l0_2.length : Int) > 24)) a0_0 a0_1 l0_2)))))
theorem awardingbodyref06_ValidPaper.mono_l : ∀ k, (∀ y0 y1 y2 y3, LeO (awardingbodyref06_ValidPaper.j0 k y0 y1 y2 y3) (awardingbodyref06_ValidPaper.j0 (k + 1) y0 y1 y2 y3)) ∧ (∀ y0 y1 y2 y3 y4, LeO (awardingbodyref06_ValidPaper.l0 k y0 y1 y2 y3 y4) (awardingbodyref06_ValidPaper.l0 (k + 1) y0 y1 y2 y3 y4))
  | 0 => ⟨fun _ _ _ _ r h => by simp [awardingbodyref06_ValidPaper.j0] at h, fun _ _ _ _ _ r h => by simp [awardingbodyref06_ValidPaper.l0] at h⟩
  | k + 1 => by
    obtain ⟨ih0, ih1⟩ := awardingbodyref06_ValidPaper.mono_l k
    refine ⟨?_, ?_⟩
    · intro y0 y1 y2 y3
      unfold awardingbodyref06_ValidPaper.j0
      repeat' first
      | (with_reducible exact ih0 _ _ _ _)
      | (with_reducible exact ih1 _ _ _ _ _)
      | (with_reducible exact awardingbodyref06_ValidPart.mono _ _ _ _ _ _ _)
      | (with_reducible exact LeO.refl _)
      | (with_reducible exact LeO.none _)
      | (with_reducible refine LeO.ite ?_ ?_)
      | (with_reducible refine LeO.bind ?_ (fun _ => ?_))
      | exact ih0 _ _ _ _
      | exact ih1 _ _ _ _ _
      | exact awardingbodyref06_ValidPart.mono _ _ _ _ _ _ _
      | exact LeO.none _
      | refine LeO.ite ?_ ?_
      | refine LeO.bind ?_ (fun _ => ?_)
    · intro y0 y1 y2 y3 y4
      unfold awardingbodyref06_ValidPaper.l0
      repeat' first
      | (with_reducible exact ih0 _ _ _ _)
      | (with_reducible exact ih1 _ _ _ _ _)
      | (with_reducible exact awardingbodyref06_ValidPart.mono _ _ _ _ _ _ _)
      | (with_reducible exact LeO.refl _)
      | (with_reducible exact LeO.none _)
      | (with_reducible refine LeO.ite ?_ ?_)
      | (with_reducible refine LeO.bind ?_ (fun _ => ?_))
      | exact ih0 _ _ _ _
      | exact ih1 _ _ _ _ _
      | exact awardingbodyref06_ValidPart.mono _ _ _ _ _ _ _
      | exact LeO.none _
      | refine LeO.ite ?_ ?_
      | refine LeO.bind ?_ (fun _ => ?_)
theorem awardingbodyref06_ValidPaper.mono : ∀ a0 a1 a2 k, LeO (awardingbodyref06_ValidPaper.f k a0 a1 a2) (awardingbodyref06_ValidPaper.f (k + 1) a0 a1 a2) := by
  intro a0 a1 a2 k
  obtain ⟨ih0, ih1⟩ := awardingbodyref06_ValidPaper.mono_l k
  unfold awardingbodyref06_ValidPaper.f
  repeat' first
      | (with_reducible exact ih0 _ _ _ _)
      | (with_reducible exact ih1 _ _ _ _ _)
      | (with_reducible exact awardingbodyref06_ValidPart.mono _ _ _ _ _ _ _)
      | (with_reducible exact LeO.refl _)
      | (with_reducible exact LeO.none _)
      | (with_reducible refine LeO.ite ?_ ?_)
      | (with_reducible refine LeO.bind ?_ (fun _ => ?_))
      | exact ih0 _ _ _ _
      | exact ih1 _ _ _ _ _
      | exact awardingbodyref06_ValidPart.mono _ _ _ _ _ _ _
      | exact LeO.none _
      | refine LeO.ite ?_ ?_
      | refine LeO.bind ?_ (fun _ => ?_)
set_option maxHeartbeats 8000000 in
set_option maxRecDepth 100000 in
theorem awardingbodyref06_ValidPaper.calls (k : Nat) (a0_0 : Int) (a0_1 : Int) (A0_2 : Option Addr) (c0_2 : Nat) (l0_2 : List (S23)) (r : Bool) (w : World) (hr0_2 : Kd.C k23 w A0_2 l0_2.length l0_2) (hc0_2 : l0_2.length ≤ c0_2) (h : awardingbodyref06_ValidPaper.f k a0_0 a0_1 l0_2 = some r) :
    Calls Try.prog 38 #[.agg #[.int .i64 a0_0, .int .i64 a0_1, .slice A0_2 l0_2.length c0_2]] w fun e w' => e = .returned (.bool r) ∧ Below w.heap.size w w' := by
 have hu33 := Try.underlying33
 have hu23 := Try.underlying23
 have HR0_2 := za hr0_2
 have HC0_2 := za hc0_2
 clear hr0_2 hc0_2
 have HB := za (Below.refl w.heap.size w)
 have H : (if a0_0 < 0 then (awardingbodyref06_ValidPaper.j0 k true a0_0 a0_1 l0_2) else (if a0_0 > 31 then (awardingbodyref06_ValidPaper.j0 k true a0_0 a0_1 l0_2) else (if a0_1 < 0 then (awardingbodyref06_ValidPaper.j0 k true a0_0 a0_1 l0_2) else (if a0_1 ≥ 4 then (awardingbodyref06_ValidPaper.j0 k true a0_0 a0_1 l0_2) else (if (l0_2.length : Int) < 1 then (awardingbodyref06_ValidPaper.j0 k true a0_0 a0_1 l0_2) else (awardingbodyref06_ValidPaper.j0 k (decide ((l0_2.length : Int) > 24)) a0_0 a0_1 l0_2)))))) = some r := h
 clear h
 have HC2 := za H
 clear H
 go_enter Try.func38, Try.ntmps38
 go_upto_region 1 with (first | ((with_reducible refine gate_dst (N := 1) rfl ?_); (try (refine gate_guard (by rfl) ?_; dsimp only)); refine zE 1 #[.int .i64 a0_0, .int .i64 a0_1, .slice A0_2 l0_2.length c0_2] 33 ?_; intro gb235 hg w3 hbox hb; have BK235 := za (hbox); have GW235 := zg HB hg; have GE235 := zg HB hg; replace HB := zs HB hb; clear hb hbox hg))
 (try simp only [Act.put, List.setIfInBounds_toArray, List.set_cons_zero, List.set_cons_succ])
 go_cut [34] (fun v34 wc => ∃ (kq : Nat) (x34_1 : Bool), v34 = .bool x34_1 ∧ Aside0 (awardingbodyref06_ValidPaper.j0 kq x34_1 a0_0 a0_1 l0_2 = some r) ∧ Aside0 (kq ≤ k) ∧ Aside0 (wc.heap[gb235]? = some (.cells #[.int .i64 a0_0, .int .i64 a0_1, (.slice A0_2 l0_2.length c0_2)] 33 (0, 0))) ∧ Aside0 (Below w.heap.size w wc))
 case first =>
  have H := HC2.out
  clear HC2
  by_cases c4 : a0_0 < 0
  ·rw [if_pos c4] at H
   have c4b0 : decide (a0_0 < 0) = true := decide_eq_true c4
   clear c4
   (first | rw [c4b0] | (simp only [i64_w, i32_w]; rw [c4b0]) | skip)
   have H' := za H
   clear H
   obtain ⟨hcz5_0, hcz5_1, hcz5_2, hfz5_0, hfz5_1, hfz5_2⟩ := z3 BK235
   go_wp2
   go_meet
   case rel => exact ⟨_, (true), (by first | rfl | (simp; done) | (simp [*]; done)), H', ⟨by first | omega | exact Nat.le_refl _⟩, ⟨by (with_reducible repeat (first | refine blk_drewN ?_ _ | refine blk_drew ?_ | refine blk_alloc ?_ _)); exact BK235.out⟩, ⟨zm HB⟩⟩
  ·rw [if_neg c4] at H
   have c4b0 : decide (a0_0 < 0) = false := decide_eq_false c4
   clear c4
   (first | rw [c4b0] | (simp only [i64_w, i32_w]; rw [c4b0]) | skip)
   by_cases c6 : a0_0 > 31
   ·rw [if_pos c6] at H
    have c6b0 : decide (31 < a0_0) = true := decide_eq_true c6
    clear c6
    have H' := za H
    clear H
    obtain ⟨hcz7_0, hcz7_1, hcz7_2, hfz7_0, hfz7_1, hfz7_2⟩ := z3 BK235
    go_wp2
    go_meet
    case rel => exact ⟨_, (true), (by first | rfl | (simp; done) | (simp [*]; done)), H', ⟨by first | omega | exact Nat.le_refl _⟩, ⟨by (with_reducible repeat (first | refine blk_drewN ?_ _ | refine blk_drew ?_ | refine blk_alloc ?_ _)); exact BK235.out⟩, ⟨zm HB⟩⟩
   ·rw [if_neg c6] at H
    have c6b0 : decide (31 < a0_0) = false := decide_eq_false c6
    clear c6
    by_cases c8 : a0_1 < 0
    ·rw [if_pos c8] at H
     have c8b0 : decide (a0_1 < 0) = true := decide_eq_true c8
     clear c8
     have H' := za H
     clear H
     obtain ⟨hcz9_0, hcz9_1, hcz9_2, hfz9_0, hfz9_1, hfz9_2⟩ := z3 BK235
     go_wp2
     go_meet
     case rel => exact ⟨_, (true), (by first | rfl | (simp; done) | (simp [*]; done)), H', ⟨by first | omega | exact Nat.le_refl _⟩, ⟨by (with_reducible repeat (first | refine blk_drewN ?_ _ | refine blk_drew ?_ | refine blk_alloc ?_ _)); exact BK235.out⟩, ⟨zm HB⟩⟩
    ·rw [if_neg c8] at H
     have c8b0 : decide (a0_1 < 0) = false := decide_eq_false c8
     clear c8
     by_cases c10 : a0_1 ≥ 4
     ·rw [if_pos c10] at H
      have c10b0 : decide (4 ≤ a0_1) = true := decide_eq_true c10
      clear c10
      have H' := za H
      clear H
      obtain ⟨hcz11_0, hcz11_1, hcz11_2, hfz11_0, hfz11_1, hfz11_2⟩ := z3 BK235
      go_wp2
      go_meet
      case rel => exact ⟨_, (true), (by first | rfl | (simp; done) | (simp [*]; done)), H', ⟨by first | omega | exact Nat.le_refl _⟩, ⟨by (with_reducible repeat (first | refine blk_drewN ?_ _ | refine blk_drew ?_ | refine blk_alloc ?_ _)); exact BK235.out⟩, ⟨zm HB⟩⟩
     ·rw [if_neg c10] at H
      have c10b0 : decide (4 ≤ a0_1) = false := decide_eq_false c10
      clear c10
      by_cases c12 : (l0_2.length : Int) < 1
      ·rw [if_pos c12] at H
       have c12b0 : decide ((l0_2.length : Int) < 1) = true := decide_eq_true c12
       have c12b1 : decide (l0_2.length < 1) = true := decide_eq_true (by omega)
       clear c12
       have H' := za H
       clear H
       obtain ⟨hcz13_0, hcz13_1, hcz13_2, hfz13_0, hfz13_1, hfz13_2⟩ := z3 BK235
       go_wp2
       go_meet
       case rel => exact ⟨_, (true), (by first | rfl | (simp; done) | (simp [*]; done)), H', ⟨by first | omega | exact Nat.le_refl _⟩, ⟨by (with_reducible repeat (first | refine blk_drewN ?_ _ | refine blk_drew ?_ | refine blk_alloc ?_ _)); exact BK235.out⟩, ⟨zm HB⟩⟩
      ·rw [if_neg c12] at H
       have c12b0 : decide ((l0_2.length : Int) < 1) = false := decide_eq_false c12
       have c12b1 : decide (l0_2.length < 1) = false := decide_eq_false (by omega)
       clear c12
       have H' := za H
       clear H
       obtain ⟨hcz14_0, hcz14_1, hcz14_2, hfz14_0, hfz14_1, hfz14_2⟩ := z3 BK235
       go_wp2
       go_meet
       case rel => exact ⟨_, (decide ((l0_2.length : Int) > 24)), (by first | rfl | (simp; done) | (simp [*]; done)), H', ⟨by first | omega | exact Nat.le_refl _⟩, ⟨by (with_reducible repeat (first | refine blk_drewN ?_ _ | refine blk_drew ?_ | refine blk_alloc ?_ _)); exact BK235.out⟩, ⟨zm HB⟩⟩
 case rest =>
  clear HC2
  try clear c1
  try clear p2
  try clear c3
  try clear c4
  try clear c4b0
  try clear c6
  try clear c6b0
  try clear c8
  try clear c8b0
  try clear c10
  try clear c10b0
  try clear c12
  try clear c12b0
  try clear c12b1
  try clear hcz11_0
  try clear hcz11_1
  try clear hcz11_2
  try clear hcz13_0
  try clear hcz13_1
  try clear hcz13_2
  try clear hcz14_0
  try clear hcz14_1
  try clear hcz14_2
  try clear hcz5_0
  try clear hcz5_1
  try clear hcz5_2
  try clear hcz7_0
  try clear hcz7_1
  try clear hcz7_2
  try clear hcz9_0
  try clear hcz9_1
  try clear hcz9_2
  try clear hfz11_0
  try clear hfz11_1
  try clear hfz11_2
  try clear hfz13_0
  try clear hfz13_1
  try clear hfz13_2
  try clear hfz14_0
  try clear hfz14_1
  try clear hfz14_2
  try clear hfz5_0
  try clear hfz5_1
  try clear hfz5_2
  try clear hfz7_0
  try clear hfz7_1
  try clear hfz7_2
  try clear hfz9_0
  try clear hfz9_1
  try clear hfz9_2
  obtain ⟨kq, x34_1, rfl, HA, HJ1, BK235, HB⟩ := hcut
  cases kq with
  | zero => exact absurd HA.out (by simp [awardingbodyref06_ValidPaper.j0])
  | succ kj1 =>
   have H := HA.out
   clear HA
   simp only [awardingbodyref06_ValidPaper.j0] at H
   by_cases c15 : x34_1 = true
   ·subst c15
    have H1 : (some false) = some r := by rw [if_pos rfl] at H; exact H
    clear H
    have H := H1
    clear H1
    obtain rfl := Option.some.inj H
    go_wp2
    go_ret
    exact ⟨zf, zm HB⟩
   ·replace c15 := Bool.eq_false_iff.mpr c15
    subst c15
    have H1 : (awardingbodyref06_ValidPaper.l0 kj1 0 0 a0_0 a0_1 l0_2) = some r := by rw [if_neg (show ¬ (false = true) by decide)] at H; exact H
    clear H
    have H := H1
    clear H1
    have H' := za H
    clear H
    go_wp2
    go_loopg [3, 4] kj1 (fun kq v3 v4 w' => ∃ (x3_2 : Int) (x4_2 : Int), v3 = .int .i64 x3_2 ∧ v4 = .int .i64 x4_2 ∧ Aside0 (awardingbodyref06_ValidPaper.l0 kq x3_2 x4_2 a0_0 a0_1 l0_2 = some r) ∧ Aside0 (kq ≤ kj1) ∧ Aside0 (w'.heap[gb235]? = some (.cells #[.int .i64 a0_0, .int .i64 a0_1, (.slice A0_2 l0_2.length c0_2)] 33 (0, 0))) ∧ Aside0 (Below w.heap.size w w'))
    case atStart => exact ⟨(0), (0), (by first | rfl | (simp; done) | (simp [*]; done)), (by first | rfl | (simp; done) | (simp [*]; done)), H', ⟨Nat.le_refl _⟩, ⟨by (with_reducible repeat (first | refine blk_drewN ?_ _ | refine blk_drew ?_ | refine blk_alloc ?_ _)); exact BK235.out⟩, ⟨zm HB⟩⟩
    case round =>
     clear H'
     try clear c1
     try clear p2
     try clear c3
     try clear c4
     try clear c4b0
     try clear c6
     try clear c6b0
     try clear c8
     try clear c8b0
     try clear c10
     try clear c10b0
     try clear c12
     try clear c12b0
     try clear c12b1
     try clear c15
     try clear hcz11_0
     try clear hcz11_1
     try clear hcz11_2
     try clear hcz13_0
     try clear hcz13_1
     try clear hcz13_2
     try clear hcz14_0
     try clear hcz14_1
     try clear hcz14_2
     try clear hcz5_0
     try clear hcz5_1
     try clear hcz5_2
     try clear hcz7_0
     try clear hcz7_1
     try clear hcz7_2
     try clear hcz9_0
     try clear hcz9_1
     try clear hcz9_2
     try clear hfz11_0
     try clear hfz11_1
     try clear hfz11_2
     try clear hfz13_0
     try clear hfz13_1
     try clear hfz13_2
     try clear hfz14_0
     try clear hfz14_1
     try clear hfz14_2
     try clear hfz5_0
     try clear hfz5_1
     try clear hfz5_2
     try clear hfz7_0
     try clear hfz7_1
     try clear hfz7_2
     try clear hfz9_0
     try clear hfz9_1
     try clear hfz9_2
     try clear p2
     obtain ⟨x3_2, x4_2, rfl, rfl, HA, HK2, BK235, HB⟩ := hrel
     cases gk with
     | zero => exact absurd HA.out (by simp [awardingbodyref06_ValidPaper.l0])
     | succ k2 =>
      have H := HA.out
      clear HA
      simp only [awardingbodyref06_ValidPaper.l0] at H
      by_cases c16 : x4_2 < (l0_2.length : Int)
      ·rw [if_pos c16] at H
       have c16b0 : decide (x4_2 < (l0_2.length : Int)) = true := decide_eq_true c16
       clear c16
       by_cases c17 : 0 ≤ x4_2
       ·rw [if_pos c17] at H
        have c17b0 : decide (0 ≤ x4_2) = true := decide_eq_true c17
        clear c17
        replace H := Option.bind_eq_some_iff.mp H
        obtain ⟨t237, A180, H⟩ := H
        replace H : (if t237 = true then (awardingbodyref06_ValidPaper.l0 k2 (wrap64 (x3_2 + ((rd_T23 l0_2 x4_2).f1))) (wrap64 (x4_2 + 1)) a0_0 a0_1 l0_2) else (some false)) = some r := H
        have A18 := za A180
        clear A180
        by_cases c19 : t237 = true
        ·subst c19
         have H1 : (awardingbodyref06_ValidPaper.l0 k2 (wrap64 (x3_2 + ((rd_T23 l0_2 x4_2).f1))) (wrap64 (x4_2 + 1)) a0_0 a0_1 l0_2) = some r := by rw [if_pos rfl] at H; exact H
         clear H
         have H := H1
         clear H1
         have H' := za H
         clear H
         obtain ⟨hcz20_0, hcz20_1, hcz20_2, hfz20_0, hfz20_1, hfz20_2⟩ := z3 BK235
         have p236 : 0 ≤ (x4_2 : Int) := of_decide_eq_true (by first | (with_reducible assumption) | assumption)
         have q236 : x4_2 < (l0_2.length : Int) := of_decide_eq_true (by first | (with_reducible assumption) | assumption)
         obtain ⟨ad236, e236, hx236_0, hx236_1, hx236_2, hx236_3, hx236_4, hx236_5⟩ := at_T23 HR0_2.out x4_2 p236 q236
         cases e236
         replace hx236_0 := zx HB hx236_0
         replace hx236_1 := zx HB hx236_1
         replace hx236_2 := zx HB hx236_2
         replace hx236_3 := zx HB hx236_3
         replace hx236_4 := zx HB hx236_4
         replace hx236_5 := zx HB hx236_5
         replace p236 := eq_true p236
         replace q236 := eq_true q236
         go_wp2_with (first | ((with_reducible refine gate_callee (f := 31) rfl ?_); refine zL (some 47) Try.func31 #[.agg #[.int .i64 ((rd_T23 l0_2 x4_2).f0), .int .i64 ((rd_T23 l0_2 x4_2).f1), .int .i64 ((rd_T23 l0_2 x4_2).f2), .int .i64 ((rd_T23 l0_2 x4_2).f3), .int .i64 ((rd_T23 l0_2 x4_2).f4), .int .i64 ((rd_T23 l0_2 x4_2).f5)]] ?_; (with_reducible refine (awardingbodyref06_ValidPart.calls k2 ((rd_T23 l0_2 x4_2).f0) ((rd_T23 l0_2 x4_2).f1) ((rd_T23 l0_2 x4_2).f2) ((rd_T23 l0_2 x4_2).f3) ((rd_T23 l0_2 x4_2).f4) ((rd_T23 l0_2 x4_2).f5) true _ A18.out).mono ?_); rintro e w21 ⟨rfl, hb⟩; refine ⟨_, rfl, ?_⟩; replace BK235 := zb BK235 hb; replace HB := zs HB hb; (try clear hb); (try clear hb2); (try clear hk); (try clear hi); obtain ⟨hcz22_0, hcz22_1, hcz22_2, hfz22_0, hfz22_1, hfz22_2⟩ := z3 BK235; have p238 : 0 ≤ (x4_2 : Int) := of_decide_eq_true (by first | (with_reducible assumption) | assumption); have q238 : x4_2 < (l0_2.length : Int) := of_decide_eq_true (by first | (with_reducible assumption) | assumption); obtain ⟨ad238, e238, hx238_0, hx238_1, hx238_2, hx238_3, hx238_4, hx238_5⟩ := at_T23 HR0_2.out x4_2 p238 q238; obtain rfl : ad236 = ad238 := (by injection e238); replace hx238_0 := zx HB hx238_0; replace hx238_1 := zx HB hx238_1; replace hx238_2 := zx HB hx238_2; replace hx238_3 := zx HB hx238_3; replace hx238_4 := zx HB hx238_4; replace hx238_5 := zx HB hx238_5; replace p238 := eq_true p238; replace q238 := eq_true q238))
         go_roundg k2
         case measure => have := HJ1.out; have := HK2.out; omega
         case rel => exact ⟨(wrap64 (x3_2 + ((rd_T23 l0_2 x4_2).f1))), (wrap64 (x4_2 + 1)), (by first | rfl | (simp; done) | (simp [*]; done)), (by first | rfl | (simp; done) | (simp [*]; done)), H', ⟨by have := HJ1.out; have := HK2.out; omega⟩, ⟨by (with_reducible repeat (first | refine blk_drewN ?_ _ | refine blk_drew ?_ | refine blk_alloc ?_ _)); exact BK235.out⟩, ⟨zm HB⟩⟩
        ·replace c19 := Bool.eq_false_iff.mpr c19
         subst c19
         have H1 : (some false) = some r := by rw [if_neg (show ¬ (false = true) by decide)] at H; exact H
         clear H
         have H := H1
         clear H1
         obtain rfl := Option.some.inj H
         obtain ⟨hcz23_0, hcz23_1, hcz23_2, hfz23_0, hfz23_1, hfz23_2⟩ := z3 BK235
         have p236 : 0 ≤ (x4_2 : Int) := of_decide_eq_true (by first | (with_reducible assumption) | assumption)
         have q236 : x4_2 < (l0_2.length : Int) := of_decide_eq_true (by first | (with_reducible assumption) | assumption)
         obtain ⟨ad236, e236, hx236_0, hx236_1, hx236_2, hx236_3, hx236_4, hx236_5⟩ := at_T23 HR0_2.out x4_2 p236 q236
         cases e236
         replace hx236_0 := zx HB hx236_0
         replace hx236_1 := zx HB hx236_1
         replace hx236_2 := zx HB hx236_2
         replace hx236_3 := zx HB hx236_3
         replace hx236_4 := zx HB hx236_4
         replace hx236_5 := zx HB hx236_5
         replace p236 := eq_true p236
         replace q236 := eq_true q236
         go_wp2_with (first | ((with_reducible refine gate_callee (f := 31) rfl ?_); refine zL (some 47) Try.func31 #[.agg #[.int .i64 ((rd_T23 l0_2 x4_2).f0), .int .i64 ((rd_T23 l0_2 x4_2).f1), .int .i64 ((rd_T23 l0_2 x4_2).f2), .int .i64 ((rd_T23 l0_2 x4_2).f3), .int .i64 ((rd_T23 l0_2 x4_2).f4), .int .i64 ((rd_T23 l0_2 x4_2).f5)]] ?_; (with_reducible refine (awardingbodyref06_ValidPart.calls k2 ((rd_T23 l0_2 x4_2).f0) ((rd_T23 l0_2 x4_2).f1) ((rd_T23 l0_2 x4_2).f2) ((rd_T23 l0_2 x4_2).f3) ((rd_T23 l0_2 x4_2).f4) ((rd_T23 l0_2 x4_2).f5) false _ A18.out).mono ?_); rintro e w24 ⟨rfl, hb⟩; refine ⟨_, rfl, ?_⟩; replace BK235 := zb BK235 hb; replace HB := zs HB hb; (try clear hb); (try clear hb2); (try clear hk); (try clear hi)))
         go_ret
         exact ⟨zf, zm HB⟩
       ·rw [if_neg c17] at H
        exact absurd H (by simp)
      ·rw [if_neg c16] at H
       have c16b0 : decide (x4_2 < (l0_2.length : Int)) = false := decide_eq_false c16
       clear c16
       obtain rfl := Option.some.inj H
       obtain ⟨hcz25_0, hcz25_1, hcz25_2, hfz25_0, hfz25_1, hfz25_2⟩ := z3 BK235
       go_wp2
       go_ret
       exact ⟨zf, zm HB⟩

end Go.Proofs.Ytdmlbgdefapcjaa.Print
