-- Printed by a program of this session (wip/own_print.py) out of the translation; Lean checks it.
import Derived.Test.YthbmpjglkbhhgaaShort
import Derived.Test.YthbmpjglkbhhgaaPrint0
namespace Go.Proofs.Ythbmpjglkbhhgaa.Print
open Go.RowKit Go.Proofs.YthbmpjglkbhhgaaW.PrintWords Go.Proofs.YthbmpjglkbhhgaaW.PrintLast Go.Proofs.YthbmpjglkbhhgaaW.PrintMore
attribute [local go_sem] max2_int min2_int max_two min_two max_three min_three max_four min_four   -- for this text's walks alone
set_option linter.unusedVariables false
set_option linter.unusedSimpArgs false

/-! ### awardingbodyref06_ValidPart: function 60 -/
def awardingbodyref06_ValidPart.j0 : Nat → Bool → Int → Int → Int → Int → Int → Int → Option (Bool)
  | 0, _, _, _, _, _, _, _ => none
  | k + 1, x30, x259000, x259001, x259002, x259003, x259004, x259005 => if x30 = true then (some false) else (if x259000 = 1 then (if x259004 = 0 then (some (x259005 == 0)) else (some false)) else (if x259000 = 2 then (if x259004 ≥ 2 then (if x259004 ≤ 5 then (if x259005 ≥ 0 then (some (decide (x259005 < x259004))) else (some false)) else (some false)) else (some false)) else (some false)))
def awardingbodyref06_ValidPart.f (k : Nat) (a0_0 : Int) (a0_1 : Int) (a0_2 : Int) (a0_3 : Int) (a0_4 : Int) (a0_5 : Int) : Option (Bool) := if a0_1 < 1 then (awardingbodyref06_ValidPart.j0 k true a0_0 a0_1 a0_2 a0_3 a0_4 a0_5) else (if a0_1 > 40 then (awardingbodyref06_ValidPart.j0 k true a0_0 a0_1 a0_2 a0_3 a0_4 a0_5) else (if a0_2 < 0 then (awardingbodyref06_ValidPart.j0 k true a0_0 a0_1 a0_2 a0_3 a0_4 a0_5) else (if a0_2 ≥ 16 then (awardingbodyref06_ValidPart.j0 k true a0_0 a0_1 a0_2 a0_3 a0_4 a0_5) else (if a0_3 < 0 then (awardingbodyref06_ValidPart.j0 k true a0_0 a0_1 a0_2 a0_3 a0_4 a0_5) else (awardingbodyref06_ValidPart.j0 k (decide (a0_3 ≥ 6)) a0_0 a0_1 a0_2 a0_3 a0_4 a0_5)))))
theorem awardingbodyref06_ValidPart.mono_l : ∀ k, (∀ y0 y1 y2 y3 y4 y5 y6, LeO (awardingbodyref06_ValidPart.j0 k y0 y1 y2 y3 y4 y5 y6) (awardingbodyref06_ValidPart.j0 (k + 1) y0 y1 y2 y3 y4 y5 y6))
  | 0 => fun _ _ _ _ _ _ _ r h => by simp [awardingbodyref06_ValidPart.j0] at h
  | k + 1 => by
    have ih0 := awardingbodyref06_ValidPart.mono_l k
    · intro y0 y1 y2 y3 y4 y5 y6
      unfold awardingbodyref06_ValidPart.j0
      repeat' first
      | (with_reducible exact ih0 _ _ _ _ _ _ _)
      | (with_reducible exact LeO.refl _)
      | (with_reducible exact LeO.none _)
      | (with_reducible refine LeO.ite ?_ ?_)
      | (with_reducible refine LeO.bind ?_ (fun _ => ?_))
      | exact ih0 _ _ _ _ _ _ _
      | exact LeO.none _
      | refine LeO.ite ?_ ?_
      | refine LeO.bind ?_ (fun _ => ?_)
theorem awardingbodyref06_ValidPart.mono : ∀ a0 a1 a2 a3 a4 a5 k, LeO (awardingbodyref06_ValidPart.f k a0 a1 a2 a3 a4 a5) (awardingbodyref06_ValidPart.f (k + 1) a0 a1 a2 a3 a4 a5) := by
  intro a0 a1 a2 a3 a4 a5 k
  have ih0 := awardingbodyref06_ValidPart.mono_l k
  unfold awardingbodyref06_ValidPart.f
  repeat' first
      | (with_reducible exact ih0 _ _ _ _ _ _ _)
      | (with_reducible exact LeO.refl _)
      | (with_reducible exact LeO.none _)
      | (with_reducible refine LeO.ite ?_ ?_)
      | (with_reducible refine LeO.bind ?_ (fun _ => ?_))
      | exact ih0 _ _ _ _ _ _ _
      | exact LeO.none _
      | refine LeO.ite ?_ ?_
      | refine LeO.bind ?_ (fun _ => ?_)
theorem q7a {p : Prop} (h : p := by (((repeat (first | (with_reducible first | refine blk_drewN ?_ _ | refine blk_drew ?_ | refine blk_alloc ?_ _) | refine blk_far ?_ (Aside0.out (by assumption)) _)); first | (with_reducible exact (Aside0.out (by assumption))) | exact (Aside0.out (by assumption))); done)) : p := h
theorem q7b {p : Prop} (h : p := by ((first | (with_reducible assumption) | assumption); done)) : p := h
theorem q7c {p : Prop} (h : p := by ((first | rfl | (simp; done) | (simp [*]; done)); done)) : p := h
theorem q7d {p : Prop} (h : p := by (((with_reducible repeat (first | refine blk_drewN ?_ _ | refine blk_drew ?_ | refine blk_alloc ?_ _)); refine blk_put (cs := #[.slice none 0 0]) ?_ 0 _ rfl; (with_reducible repeat (first | refine blk_drewN ?_ _ | refine blk_drew ?_ | refine blk_alloc ?_ _)); exact BK266.out); done)) : p := h
theorem q7e {p : Prop} (h : p := by (((with_reducible repeat (first | apply Kd.S_alloc | apply Kd.S_drewN | apply Kd.S_drew)); exact Kd.S_mono HO_4.out (fun k_ hk => ⟨trivial, fun e_ => e_⟩)); done)) : p := h
theorem q7f {p : Prop} (h : p := by ((first | (rw [hy_]; with_reducible exact H) | (have H2_ := (Option.bind_some _ _).symm.trans H; rw [hy_]; with_reducible exact H2_) | (have H2_ := (Option.bind_some _ _).symm.trans H; with_reducible exact H2_) | with_reducible exact H | (rw [hy_]; exact H) | exact H); done)) : p := h
set_option maxHeartbeats 8000000 in
set_option maxRecDepth 100000 in
theorem awardingbodyref06_ValidPart.calls (k : Nat) (a0_0 : Int) (a0_1 : Int) (a0_2 : Int) (a0_3 : Int) (a0_4 : Int) (a0_5 : Int) (r : Bool) (w : World) (h : awardingbodyref06_ValidPart.f k a0_0 a0_1 a0_2 a0_3 a0_4 a0_5 = some r) :
    Calls Try.prog 60 #[.agg #[.int .i64 a0_0, .int .i64 a0_1, .int .i64 a0_2, .int .i64 a0_3, .int .i64 a0_4, .int .i64 a0_5]] w fun e w' => e = .returned (.bool r) ∧ Below w.heap.size w w' := by
 have hu65 := Try.underlying65
 have HB := za (Below.refl w.heap.size w)
 have H : (if a0_1 < 1 then (awardingbodyref06_ValidPart.j0 k true a0_0 a0_1 a0_2 a0_3 a0_4 a0_5) else (if a0_1 > 40 then (awardingbodyref06_ValidPart.j0 k true a0_0 a0_1 a0_2 a0_3 a0_4 a0_5) else (if a0_2 < 0 then (awardingbodyref06_ValidPart.j0 k true a0_0 a0_1 a0_2 a0_3 a0_4 a0_5) else (if a0_2 ≥ 16 then (awardingbodyref06_ValidPart.j0 k true a0_0 a0_1 a0_2 a0_3 a0_4 a0_5) else (if a0_3 < 0 then (awardingbodyref06_ValidPart.j0 k true a0_0 a0_1 a0_2 a0_3 a0_4 a0_5) else (awardingbodyref06_ValidPart.j0 k (decide (a0_3 ≥ 6)) a0_0 a0_1 a0_2 a0_3 a0_4 a0_5)))))) = some r := h
 clear h; have HC2 := za H; clear H
 go_enter Try.func60, Try.ntmps60
 go_upto_region 1 with (first | ((with_reducible refine gate_dst (N := 1) rfl ?_); refine zE 1 #[.int .i64 a0_0, .int .i64 a0_1, .int .i64 a0_2, .int .i64 a0_3, .int .i64 a0_4, .int .i64 a0_5] 65 ?_; intro gb258 hg w3 hbox hb; have BK258 := za (hbox); have GW258 := zg HB hg; have GE258 := zg HB hg; replace HB := zs HB hb; clear hb hbox hg))
 (try simp only [Act.put, List.setIfInBounds_toArray, List.set_cons_zero, List.set_cons_succ])
 go_cut [30] (fun v30 wc => ∃ (kq : Nat) (x30_1 : Bool), v30 = .bool x30_1 ∧ Aside0 (awardingbodyref06_ValidPart.j0 kq x30_1 a0_0 a0_1 a0_2 a0_3 a0_4 a0_5 = some r) ∧ Aside0 (kq ≤ k) ∧ Aside0 (wc.heap[gb258]? = some (.cells #[.int .i64 a0_0, .int .i64 a0_1, .int .i64 a0_2, .int .i64 a0_3, .int .i64 a0_4, .int .i64 a0_5] 65 (0, 0))) ∧ Aside0 (Below w.heap.size w wc))
 case first =>
  have H := HC2.out
  clear HC2
  by_cases c4 : a0_1 < 1
  ·rw [if_pos c4] at H
   have c4b0 : decide (a0_1 < 1) = true := decide_eq_true c4
   clear c4
   (first | rw [c4b0] | (simp only [i64_w, i32_w]; rw [c4b0]) | skip)
   have H' := za H; clear H
   obtain ⟨hcz5_0, hcz5_1, hcz5_2, hcz5_3, hcz5_4, hcz5_5, hfz5_0, hfz5_1, hfz5_2, hfz5_3, hfz5_4, hfz5_5⟩ := z6 BK258
   go_wp2
   go_meet
   case rel => exact ⟨_, (true), q7c, H', ⟨by first | omega | exact Nat.le_refl _⟩, ⟨q7a⟩, ⟨zm HB⟩⟩
  ·rw [if_neg c4] at H
   have c4b0 : decide (a0_1 < 1) = false := decide_eq_false c4
   clear c4
   (first | rw [c4b0] | (simp only [i64_w, i32_w]; rw [c4b0]) | skip)
   by_cases c6 : a0_1 > 40
   ·rw [if_pos c6] at H
    have c6b0 : decide (40 < a0_1) = true := decide_eq_true c6
    clear c6; have H' := za H; clear H
    obtain ⟨hcz7_0, hcz7_1, hcz7_2, hcz7_3, hcz7_4, hcz7_5, hfz7_0, hfz7_1, hfz7_2, hfz7_3, hfz7_4, hfz7_5⟩ := z6 BK258
    go_wp2
    go_meet
    case rel => exact ⟨_, (true), q7c, H', ⟨by first | omega | exact Nat.le_refl _⟩, ⟨q7a⟩, ⟨zm HB⟩⟩
   ·rw [if_neg c6] at H
    have c6b0 : decide (40 < a0_1) = false := decide_eq_false c6
    clear c6
    by_cases c8 : a0_2 < 0
    ·rw [if_pos c8] at H
     have c8b0 : decide (a0_2 < 0) = true := decide_eq_true c8
     clear c8; have H' := za H; clear H
     obtain ⟨hcz9_0, hcz9_1, hcz9_2, hcz9_3, hcz9_4, hcz9_5, hfz9_0, hfz9_1, hfz9_2, hfz9_3, hfz9_4, hfz9_5⟩ := z6 BK258
     go_wp2
     go_meet
     case rel => exact ⟨_, (true), q7c, H', ⟨by first | omega | exact Nat.le_refl _⟩, ⟨q7a⟩, ⟨zm HB⟩⟩
    ·rw [if_neg c8] at H
     have c8b0 : decide (a0_2 < 0) = false := decide_eq_false c8
     clear c8
     by_cases c10 : a0_2 ≥ 16
     ·rw [if_pos c10] at H
      have c10b0 : decide (16 ≤ a0_2) = true := decide_eq_true c10
      clear c10; have H' := za H; clear H
      obtain ⟨hcz11_0, hcz11_1, hcz11_2, hcz11_3, hcz11_4, hcz11_5, hfz11_0, hfz11_1, hfz11_2, hfz11_3, hfz11_4, hfz11_5⟩ := z6 BK258
      go_wp2
      go_meet
      case rel => exact ⟨_, (true), q7c, H', ⟨by first | omega | exact Nat.le_refl _⟩, ⟨q7a⟩, ⟨zm HB⟩⟩
     ·rw [if_neg c10] at H
      have c10b0 : decide (16 ≤ a0_2) = false := decide_eq_false c10
      clear c10
      by_cases c12 : a0_3 < 0
      ·rw [if_pos c12] at H
       have c12b0 : decide (a0_3 < 0) = true := decide_eq_true c12
       clear c12; have H' := za H; clear H
       obtain ⟨hcz13_0, hcz13_1, hcz13_2, hcz13_3, hcz13_4, hcz13_5, hfz13_0, hfz13_1, hfz13_2, hfz13_3, hfz13_4, hfz13_5⟩ := z6 BK258
       go_wp2
       go_meet
       case rel => exact ⟨_, (true), q7c, H', ⟨by first | omega | exact Nat.le_refl _⟩, ⟨q7a⟩, ⟨zm HB⟩⟩
      ·rw [if_neg c12] at H
       have c12b0 : decide (a0_3 < 0) = false := decide_eq_false c12
       clear c12; have H' := za H; clear H
       obtain ⟨hcz14_0, hcz14_1, hcz14_2, hcz14_3, hcz14_4, hcz14_5, hfz14_0, hfz14_1, hfz14_2, hfz14_3, hfz14_4, hfz14_5⟩ := z6 BK258
       go_wp2
       go_meet
       case rel => exact ⟨_, (decide (a0_3 ≥ 6)), q7c, H', ⟨by first | omega | exact Nat.le_refl _⟩, ⟨q7a⟩, ⟨zm HB⟩⟩
 case rest =>
  clear HC2; (try clear c1); (try clear p2); (try clear c4); (try clear c4b0); (try clear c6); (try clear c6b0); (try clear c8); (try clear c8b0); (try clear c10); (try clear c10b0); (try clear c12); (try clear c12b0); (try clear hcz11_0); (try clear hcz11_1); (try clear hcz11_2); (try clear hcz11_3); (try clear hcz11_4); (try clear hcz11_5); (try clear hcz13_0); (try clear hcz13_1); (try clear hcz13_2); (try clear hcz13_3); (try clear hcz13_4); (try clear hcz13_5); (try clear hcz14_0); (try clear hcz14_1); (try clear hcz14_2); (try clear hcz14_3); (try clear hcz14_4); (try clear hcz14_5); (try clear hcz5_0); (try clear hcz5_1); (try clear hcz5_2); (try clear hcz5_3); (try clear hcz5_4); (try clear hcz5_5); (try clear hcz7_0); (try clear hcz7_1); (try clear hcz7_2); (try clear hcz7_3); (try clear hcz7_4); (try clear hcz7_5); (try clear hcz9_0); (try clear hcz9_1); (try clear hcz9_2); (try clear hcz9_3); (try clear hcz9_4); (try clear hcz9_5); (try clear hfz11_0); (try clear hfz11_1); (try clear hfz11_2); (try clear hfz11_3); (try clear hfz11_4); (try clear hfz11_5); (try clear hfz13_0); (try clear hfz13_1); (try clear hfz13_2); (try clear hfz13_3); (try clear hfz13_4); (try clear hfz13_5); (try clear hfz14_0); (try clear hfz14_1); (try clear hfz14_2); (try clear hfz14_3); (try clear hfz14_4); (try clear hfz14_5); (try clear hfz5_0); (try clear hfz5_1); (try clear hfz5_2); (try clear hfz5_3); (try clear hfz5_4); (try clear hfz5_5); (try clear hfz7_0); (try clear hfz7_1); (try clear hfz7_2); (try clear hfz7_3); (try clear hfz7_4); (try clear hfz7_5); (try clear hfz9_0); (try clear hfz9_1); (try clear hfz9_2); (try clear hfz9_3); (try clear hfz9_4); (try clear hfz9_5)
  obtain ⟨kq, x30_1, rfl, HA, HJ1, BK258, HB⟩ := hcut
  cases kq with
  | zero => exact absurd HA.out (by simp [awardingbodyref06_ValidPart.j0])
  | succ kj1 =>
   have H := HA.out
   clear HA
   simp only [awardingbodyref06_ValidPart.j0] at H
   by_cases c15 : x30_1 = true
   ·subst c15
    have H1 : (some false) = some r := by rw [if_pos rfl] at H; exact H
    clear H; have H := H1; clear H1
    obtain rfl := Option.some.inj H
    go_wp2
    go_ret
    exact ⟨zf, zm HB⟩
   ·replace c15 := Bool.eq_false_iff.mpr c15
    subst c15
    have H1 : (if a0_0 = 1 then (if a0_4 = 0 then (some (a0_5 == 0)) else (some false)) else (if a0_0 = 2 then (if a0_4 ≥ 2 then (if a0_4 ≤ 5 then (if a0_5 ≥ 0 then (some (decide (a0_5 < a0_4))) else (some false)) else (some false)) else (some false)) else (some false))) = some r := by rw [if_neg (show ¬ (false = true) by decide)] at H; exact H
    clear H; have H := H1; clear H1
    by_cases c16 : a0_0 = 1
    ·rw [if_pos c16] at H
     have c16b0 : (a0_0 == 1) = true := beq_iff_eq.mpr c16
     have c16b1 : (a0_0 != 1) = false := bne_eq_false_iff_eq.mpr c16
     clear c16
     by_cases c17 : a0_4 = 0
     ·rw [if_pos c17] at H
      have c17b0 : (a0_4 == 0) = true := beq_iff_eq.mpr c17
      have c17b1 : (a0_4 != 0) = false := bne_eq_false_iff_eq.mpr c17
      clear c17
      obtain rfl := Option.some.inj H
      obtain ⟨hcz18_0, hcz18_1, hcz18_2, hcz18_3, hcz18_4, hcz18_5, hfz18_0, hfz18_1, hfz18_2, hfz18_3, hfz18_4, hfz18_5⟩ := z6 BK258
      go_wp2
      go_ret
      exact ⟨zf, zm HB⟩
     ·rw [if_neg c17] at H
      have c17b0 : (a0_4 == 0) = false := beq_eq_false_iff_ne.mpr c17
      have c17b1 : (a0_4 != 0) = true := bne_iff_ne.mpr c17
      obtain rfl := Option.some.inj H
      obtain ⟨hcz19_0, hcz19_1, hcz19_2, hcz19_3, hcz19_4, hcz19_5, hfz19_0, hfz19_1, hfz19_2, hfz19_3, hfz19_4, hfz19_5⟩ := z6 BK258
      go_wp2
      go_ret
      exact ⟨zf, zm HB⟩
    ·rw [if_neg c16] at H
     have c16b0 : (a0_0 == 1) = false := beq_eq_false_iff_ne.mpr c16
     have c16b1 : (a0_0 != 1) = true := bne_iff_ne.mpr c16
     by_cases c20 : a0_0 = 2
     ·rw [if_pos c20] at H
      have c20b0 : (a0_0 == 2) = true := beq_iff_eq.mpr c20
      have c20b1 : (a0_0 != 2) = false := bne_eq_false_iff_eq.mpr c20
      clear c20
      by_cases c21 : a0_4 ≥ 2
      ·rw [if_pos c21] at H
       have c21b0 : decide (2 ≤ a0_4) = true := decide_eq_true c21
       clear c21
       by_cases c22 : a0_4 ≤ 5
       ·rw [if_pos c22] at H
        have c22b0 : decide (a0_4 ≤ 5) = true := decide_eq_true c22
        clear c22
        by_cases c23 : a0_5 ≥ 0
        ·rw [if_pos c23] at H
         have c23b0 : decide (0 ≤ a0_5) = true := decide_eq_true c23
         clear c23
         obtain rfl := Option.some.inj H
         obtain ⟨hcz24_0, hcz24_1, hcz24_2, hcz24_3, hcz24_4, hcz24_5, hfz24_0, hfz24_1, hfz24_2, hfz24_3, hfz24_4, hfz24_5⟩ := z6 BK258
         go_wp2
         go_ret
         exact ⟨zf, zm HB⟩
        ·rw [if_neg c23] at H
         have c23b0 : decide (0 ≤ a0_5) = false := decide_eq_false c23
         clear c23
         obtain rfl := Option.some.inj H
         obtain ⟨hcz25_0, hcz25_1, hcz25_2, hcz25_3, hcz25_4, hcz25_5, hfz25_0, hfz25_1, hfz25_2, hfz25_3, hfz25_4, hfz25_5⟩ := z6 BK258
         go_wp2
         go_ret
         exact ⟨zf, zm HB⟩
       ·rw [if_neg c22] at H
        have c22b0 : decide (a0_4 ≤ 5) = false := decide_eq_false c22
        clear c22
        obtain rfl := Option.some.inj H
        obtain ⟨hcz26_0, hcz26_1, hcz26_2, hcz26_3, hcz26_4, hcz26_5, hfz26_0, hfz26_1, hfz26_2, hfz26_3, hfz26_4, hfz26_5⟩ := z6 BK258
        go_wp2
        go_ret
        exact ⟨zf, zm HB⟩
      ·rw [if_neg c21] at H
       have c21b0 : decide (2 ≤ a0_4) = false := decide_eq_false c21
       clear c21
       obtain rfl := Option.some.inj H
       obtain ⟨hcz27_0, hcz27_1, hcz27_2, hcz27_3, hcz27_4, hcz27_5, hfz27_0, hfz27_1, hfz27_2, hfz27_3, hfz27_4, hfz27_5⟩ := z6 BK258
       go_wp2
       go_ret
       exact ⟨zf, zm HB⟩
     ·rw [if_neg c20] at H
      have c20b0 : (a0_0 == 2) = false := beq_eq_false_iff_ne.mpr c20
      have c20b1 : (a0_0 != 2) = true := bne_iff_ne.mpr c20
      obtain rfl := Option.some.inj H
      obtain ⟨hcz28_0, hcz28_1, hcz28_2, hcz28_3, hcz28_4, hcz28_5, hfz28_0, hfz28_1, hfz28_2, hfz28_3, hfz28_4, hfz28_5⟩ := z6 BK258
      go_wp2
      go_ret
      exact ⟨zf, zm HB⟩

/-! ### awardingbodyref06_ValidPaper: function 49 -/
mutual
def awardingbodyref06_ValidPaper.j0 : Nat → Bool → Int → Int → List (S65) → Option (Bool)
  | 0, _, _, _, _ => none
  | k + 1, x34, x260000, x260001, x260002 => if x34 = true then (some false) else (awardingbodyref06_ValidPaper.l0 k 0 0 x260000 x260001 x260002)
def awardingbodyref06_ValidPaper.l0 : Nat → Int → Int → Int → Int → List (S65) → Option (Bool)
  | 0, _, _, _, _, _ => none
  | k + 1, x3, x4, x260000, x260001, x260002 => if x4 < (x260002.length : Int) then (if 0 ≤ x4 then ((awardingbodyref06_ValidPart.f k ((rd_T65 x260002 x4).f0) ((rd_T65 x260002 x4).f1) ((rd_T65 x260002 x4).f2) ((rd_T65 x260002 x4).f3) ((rd_T65 x260002 x4).f4) ((rd_T65 x260002 x4).f5)).bind fun t261 => (if t261 = true then (awardingbodyref06_ValidPaper.l0 k (wrap64 (x3 + ((rd_T65 x260002 x4).f1))) (wrap64 (x4 + 1)) x260000 x260001 x260002) else (some false))) else (none)) else (some (decide (x3 ≤ 200)))
end
def awardingbodyref06_ValidPaper.f (k : Nat) (a0_0 : Int) (a0_1 : Int) (l0_2 : List (S65)) : Option (Bool) := if a0_0 < 0 then (awardingbodyref06_ValidPaper.j0 k true a0_0 a0_1 l0_2) else (if a0_0 > 31 then (awardingbodyref06_ValidPaper.j0 k true a0_0 a0_1 l0_2) else (if a0_1 < 0 then (awardingbodyref06_ValidPaper.j0 k true a0_0 a0_1 l0_2) else (if a0_1 ≥ 4 then (awardingbodyref06_ValidPaper.j0 k true a0_0 a0_1 l0_2) else (if (l0_2.length : Int) < 1 then (awardingbodyref06_ValidPaper.j0 k true a0_0 a0_1 l0_2) else (awardingbodyref06_ValidPaper.j0 k (decide ((l0_2.length : Int) > 24)) a0_0 a0_1 l0_2)))))
theorem awardingbodyref06_ValidPaper.mono_l : ∀ k, (∀ y0 y1 y2 y3, LeO (awardingbodyref06_ValidPaper.j0 k y0 y1 y2 y3) (awardingbodyref06_ValidPaper.j0 (k + 1) y0 y1 y2 y3)) ∧ (∀ y0 y1 y2 y3 y4, LeO (awardingbodyref06_ValidPaper.l0 k y0 y1 y2 y3 y4) (awardingbodyref06_ValidPaper.l0 (k + 1) y0 y1 y2 y3 y4))
  | 0 => ⟨fun _ _ _ _ r h => by simp [awardingbodyref06_ValidPaper.j0] at h, fun _ _ _ _ _ r h => by simp [awardingbodyref06_ValidPaper.l0] at h⟩
  | k + 1 => by
    obtain ⟨ih0, ih1⟩ := awardingbodyref06_ValidPaper.mono_l k
    refine ⟨?_, ?_⟩
    · intro y0 y1 y2 y3
      unfold awardingbodyref06_ValidPaper.j0
      repeat' first
      | (with_reducible exact ih0 _ _ _ _)
      | (with_reducible exact ih1 _ _ _ _ _)
      | (with_reducible exact awardingbodyref06_ValidPart.mono _ _ _ _ _ _ _)
      | (with_reducible exact LeO.refl _)
      | (with_reducible exact LeO.none _)
      | (with_reducible refine LeO.ite ?_ ?_)
      | (with_reducible refine LeO.bind ?_ (fun _ => ?_))
      | exact ih0 _ _ _ _
      | exact ih1 _ _ _ _ _
      | exact awardingbodyref06_ValidPart.mono _ _ _ _ _ _ _
      | exact LeO.none _
      | refine LeO.ite ?_ ?_
      | refine LeO.bind ?_ (fun _ => ?_)
    · intro y0 y1 y2 y3 y4
      unfold awardingbodyref06_ValidPaper.l0
      repeat' first
      | (with_reducible exact ih0 _ _ _ _)
      | (with_reducible exact ih1 _ _ _ _ _)
      | (with_reducible exact awardingbodyref06_ValidPart.mono _ _ _ _ _ _ _)
      | (with_reducible exact LeO.refl _)
      | (with_reducible exact LeO.none _)
      | (with_reducible refine LeO.ite ?_ ?_)
      | (with_reducible refine LeO.bind ?_ (fun _ => ?_))
      | exact ih0 _ _ _ _
      | exact ih1 _ _ _ _ _
      | exact awardingbodyref06_ValidPart.mono _ _ _ _ _ _ _
      | exact LeO.none _
      | refine LeO.ite ?_ ?_
      | refine LeO.bind ?_ (fun _ => ?_)
theorem awardingbodyref06_ValidPaper.mono : ∀ a0 a1 a2 k, LeO (awardingbodyref06_ValidPaper.f k a0 a1 a2) (awardingbodyref06_ValidPaper.f (k + 1) a0 a1 a2) := by
  intro a0 a1 a2 k
  obtain ⟨ih0, ih1⟩ := awardingbodyref06_ValidPaper.mono_l k
  unfold awardingbodyref06_ValidPaper.f
  repeat' first
      | (with_reducible exact ih0 _ _ _ _)
      | (with_reducible exact ih1 _ _ _ _ _)
      | (with_reducible exact awardingbodyref06_ValidPart.mono _ _ _ _ _ _ _)
      | (with_reducible exact LeO.refl _)
      | (with_reducible exact LeO.none _)
      | (with_reducible refine LeO.ite ?_ ?_)
      | (with_reducible refine LeO.bind ?_ (fun _ => ?_))
      | exact ih0 _ _ _ _
      | exact ih1 _ _ _ _ _
      | exact awardingbodyref06_ValidPart.mono _ _ _ _ _ _ _
      | exact LeO.none _
      | refine LeO.ite ?_ ?_
      | refine LeO.bind ?_ (fun _ => ?_)
set_option maxHeartbeats 8000000 in
set_option maxRecDepth 100000 in
theorem awardingbodyref06_ValidPaper.calls (k : Nat) (a0_0 : Int) (a0_1 : Int) (A0_2 : Option Addr) (c0_2 : Nat) (l0_2 : List (S65)) (r : Bool) (w : World) (hr0_2 : Kd.C k65 w A0_2 l0_2.length l0_2) (hc0_2 : l0_2.length ≤ c0_2) (h : awardingbodyref06_ValidPaper.f k a0_0 a0_1 l0_2 = some r) :
    Calls Try.prog 49 #[.agg #[.int .i64 a0_0, .int .i64 a0_1, .slice A0_2 l0_2.length c0_2]] w fun e w' => e = .returned (.bool r) ∧ Below w.heap.size w w' := by
 have hu53 := Try.underlying53
 have hu65 := Try.underlying65
 have HR0_2 := za hr0_2; have HC0_2 := za hc0_2; clear hr0_2 hc0_2
 have HB := za (Below.refl w.heap.size w)
 have H : (if a0_0 < 0 then (awardingbodyref06_ValidPaper.j0 k true a0_0 a0_1 l0_2) else (if a0_0 > 31 then (awardingbodyref06_ValidPaper.j0 k true a0_0 a0_1 l0_2) else (if a0_1 < 0 then (awardingbodyref06_ValidPaper.j0 k true a0_0 a0_1 l0_2) else (if a0_1 ≥ 4 then (awardingbodyref06_ValidPaper.j0 k true a0_0 a0_1 l0_2) else (if (l0_2.length : Int) < 1 then (awardingbodyref06_ValidPaper.j0 k true a0_0 a0_1 l0_2) else (awardingbodyref06_ValidPaper.j0 k (decide ((l0_2.length : Int) > 24)) a0_0 a0_1 l0_2)))))) = some r := h
 clear h; have HC2 := za H; clear H
 go_enter Try.func49, Try.ntmps49
 go_upto_region 1 with (first | ((with_reducible refine gate_dst (N := 1) rfl ?_); (try (refine gate_guard (by rfl) ?_; dsimp only)); refine zE 1 #[.int .i64 a0_0, .int .i64 a0_1, .slice A0_2 l0_2.length c0_2] 53 ?_; intro gb259 hg w3 hbox hb; have BK259 := za (hbox); have GW259 := zg HB hg; have GE259 := zg HB hg; replace HB := zs HB hb; clear hb hbox hg))
 (try simp only [Act.put, List.setIfInBounds_toArray, List.set_cons_zero, List.set_cons_succ])
 go_cut [34] (fun v34 wc => ∃ (kq : Nat) (x34_1 : Bool), v34 = .bool x34_1 ∧ Aside0 (awardingbodyref06_ValidPaper.j0 kq x34_1 a0_0 a0_1 l0_2 = some r) ∧ Aside0 (kq ≤ k) ∧ Aside0 (wc.heap[gb259]? = some (.cells #[.int .i64 a0_0, .int .i64 a0_1, (.slice A0_2 l0_2.length c0_2)] 53 (0, 0))) ∧ Aside0 (Below w.heap.size w wc))
 case first =>
  have H := HC2.out
  clear HC2
  by_cases c4 : a0_0 < 0
  ·rw [if_pos c4] at H
   have c4b0 : decide (a0_0 < 0) = true := decide_eq_true c4
   clear c4
   (first | rw [c4b0] | (simp only [i64_w, i32_w]; rw [c4b0]) | skip)
   have H' := za H; clear H
   obtain ⟨hcz5_0, hcz5_1, hcz5_2, hfz5_0, hfz5_1, hfz5_2⟩ := z3 BK259
   go_wp2
   go_meet
   case rel => exact ⟨_, (true), q7c, H', ⟨by first | omega | exact Nat.le_refl _⟩, ⟨q7a⟩, ⟨zm HB⟩⟩
  ·rw [if_neg c4] at H
   have c4b0 : decide (a0_0 < 0) = false := decide_eq_false c4
   clear c4
   (first | rw [c4b0] | (simp only [i64_w, i32_w]; rw [c4b0]) | skip)
   by_cases c6 : a0_0 > 31
   ·rw [if_pos c6] at H
    have c6b0 : decide (31 < a0_0) = true := decide_eq_true c6
    clear c6; have H' := za H; clear H
    obtain ⟨hcz7_0, hcz7_1, hcz7_2, hfz7_0, hfz7_1, hfz7_2⟩ := z3 BK259
    go_wp2
    go_meet
    case rel => exact ⟨_, (true), q7c, H', ⟨by first | omega | exact Nat.le_refl _⟩, ⟨q7a⟩, ⟨zm HB⟩⟩
   ·rw [if_neg c6] at H
    have c6b0 : decide (31 < a0_0) = false := decide_eq_false c6
    clear c6
    by_cases c8 : a0_1 < 0
    ·rw [if_pos c8] at H
     have c8b0 : decide (a0_1 < 0) = true := decide_eq_true c8
     clear c8; have H' := za H; clear H
     obtain ⟨hcz9_0, hcz9_1, hcz9_2, hfz9_0, hfz9_1, hfz9_2⟩ := z3 BK259
     go_wp2
     go_meet
     case rel => exact ⟨_, (true), q7c, H', ⟨by first | omega | exact Nat.le_refl _⟩, ⟨q7a⟩, ⟨zm HB⟩⟩
    ·rw [if_neg c8] at H
     have c8b0 : decide (a0_1 < 0) = false := decide_eq_false c8
     clear c8
     by_cases c10 : a0_1 ≥ 4
     ·rw [if_pos c10] at H
      have c10b0 : decide (4 ≤ a0_1) = true := decide_eq_true c10
      clear c10; have H' := za H; clear H
      obtain ⟨hcz11_0, hcz11_1, hcz11_2, hfz11_0, hfz11_1, hfz11_2⟩ := z3 BK259
      go_wp2
      go_meet
      case rel => exact ⟨_, (true), q7c, H', ⟨by first | omega | exact Nat.le_refl _⟩, ⟨q7a⟩, ⟨zm HB⟩⟩
     ·rw [if_neg c10] at H
      have c10b0 : decide (4 ≤ a0_1) = false := decide_eq_false c10
      clear c10
      by_cases c12 : (l0_2.length : Int) < 1
      ·rw [if_pos c12] at H
       have c12b0 : decide ((l0_2.length : Int) < 1) = true := decide_eq_true c12
       have c12b1 : decide (l0_2.length < 1) = true := decide_eq_true (by omega)
       clear c12; have H' := za H; clear H
       obtain ⟨hcz13_0, hcz13_1, hcz13_2, hfz13_0, hfz13_1, hfz13_2⟩ := z3 BK259
       go_wp2
       go_meet
       case rel => exact ⟨_, (true), q7c, H', ⟨by first | omega | exact Nat.le_refl _⟩, ⟨q7a⟩, ⟨zm HB⟩⟩
      ·rw [if_neg c12] at H
       have c12b0 : decide ((l0_2.length : Int) < 1) = false := decide_eq_false c12
       have c12b1 : decide (l0_2.length < 1) = false := decide_eq_false (by omega)
       clear c12; have H' := za H; clear H
       obtain ⟨hcz14_0, hcz14_1, hcz14_2, hfz14_0, hfz14_1, hfz14_2⟩ := z3 BK259
       go_wp2
       go_meet
       case rel => exact ⟨_, (decide ((l0_2.length : Int) > 24)), q7c, H', ⟨by first | omega | exact Nat.le_refl _⟩, ⟨q7a⟩, ⟨zm HB⟩⟩
 case rest =>
  clear HC2; (try clear c1); (try clear p2); (try clear c4); (try clear c4b0); (try clear c6); (try clear c6b0); (try clear c8); (try clear c8b0); (try clear c10); (try clear c10b0); (try clear c12); (try clear c12b0); (try clear c12b1); (try clear hcz11_0); (try clear hcz11_1); (try clear hcz11_2); (try clear hcz13_0); (try clear hcz13_1); (try clear hcz13_2); (try clear hcz14_0); (try clear hcz14_1); (try clear hcz14_2); (try clear hcz5_0); (try clear hcz5_1); (try clear hcz5_2); (try clear hcz7_0); (try clear hcz7_1); (try clear hcz7_2); (try clear hcz9_0); (try clear hcz9_1); (try clear hcz9_2); (try clear hfz11_0); (try clear hfz11_1); (try clear hfz11_2); (try clear hfz13_0); (try clear hfz13_1); (try clear hfz13_2); (try clear hfz14_0); (try clear hfz14_1); (try clear hfz14_2); (try clear hfz5_0); (try clear hfz5_1); (try clear hfz5_2); (try clear hfz7_0); (try clear hfz7_1); (try clear hfz7_2); (try clear hfz9_0); (try clear hfz9_1); (try clear hfz9_2)
  obtain ⟨kq, x34_1, rfl, HA, HJ1, BK259, HB⟩ := hcut
  cases kq with
  | zero => exact absurd HA.out (by simp [awardingbodyref06_ValidPaper.j0])
  | succ kj1 =>
   have H := HA.out
   clear HA
   simp only [awardingbodyref06_ValidPaper.j0] at H
   by_cases c15 : x34_1 = true
   ·subst c15
    have H1 : (some false) = some r := by rw [if_pos rfl] at H; exact H
    clear H; have H := H1; clear H1
    obtain rfl := Option.some.inj H
    go_wp2
    go_ret
    exact ⟨zf, zm HB⟩
   ·replace c15 := Bool.eq_false_iff.mpr c15
    subst c15
    have H1 : (awardingbodyref06_ValidPaper.l0 kj1 0 0 a0_0 a0_1 l0_2) = some r := by rw [if_neg (show ¬ (false = true) by decide)] at H; exact H
    clear H; have H := H1; clear H1; have H' := za H; clear H
    go_wp2
    go_loopg [3, 4] kj1 (fun kq v3 v4 w' => ∃ (x3_2 : Int) (x4_2 : Int), v3 = .int .i64 x3_2 ∧ v4 = .int .i64 x4_2 ∧ Aside0 (awardingbodyref06_ValidPaper.l0 kq x3_2 x4_2 a0_0 a0_1 l0_2 = some r) ∧ Aside0 (kq ≤ kj1) ∧ Aside0 (w'.heap[gb259]? = some (.cells #[.int .i64 a0_0, .int .i64 a0_1, (.slice A0_2 l0_2.length c0_2)] 53 (0, 0))) ∧ Aside0 (Below w.heap.size w w'))
    case atStart => exact ⟨(0), (0), q7c, q7c, H', ⟨Nat.le_refl _⟩, ⟨q7a⟩, ⟨zm HB⟩⟩
    case round =>
     clear H'; (try clear c1); (try clear p2); (try clear c4); (try clear c4b0); (try clear c6); (try clear c6b0); (try clear c8); (try clear c8b0); (try clear c10); (try clear c10b0); (try clear c12); (try clear c12b0); (try clear c12b1); (try clear c15); (try clear hcz11_0); (try clear hcz11_1); (try clear hcz11_2); (try clear hcz13_0); (try clear hcz13_1); (try clear hcz13_2); (try clear hcz14_0); (try clear hcz14_1); (try clear hcz14_2); (try clear hcz5_0); (try clear hcz5_1); (try clear hcz5_2); (try clear hcz7_0); (try clear hcz7_1); (try clear hcz7_2); (try clear hcz9_0); (try clear hcz9_1); (try clear hcz9_2); (try clear hfz11_0); (try clear hfz11_1); (try clear hfz11_2); (try clear hfz13_0); (try clear hfz13_1); (try clear hfz13_2); (try clear hfz14_0); (try clear hfz14_1); (try clear hfz14_2); (try clear hfz5_0); (try clear hfz5_1); (try clear hfz5_2); (try clear hfz7_0); (try clear hfz7_1); (try clear hfz7_2); (try clear hfz9_0); (try clear hfz9_1); (try clear hfz9_2); (try clear p2)
     obtain ⟨x3_2, x4_2, rfl, rfl, HA, HK2, BK259, HB⟩ := hrel
     cases gk with
     | zero => exact absurd HA.out (by simp [awardingbodyref06_ValidPaper.l0])
     | succ k2 =>
      have H := HA.out
      clear HA
      simp only [awardingbodyref06_ValidPaper.l0] at H
      by_cases c16 : x4_2 < (l0_2.length : Int)
      ·rw [if_pos c16] at H
       have c16b0 : decide (x4_2 < (l0_2.length : Int)) = true := decide_eq_true c16
       clear c16
       by_cases c17 : 0 ≤ x4_2
       ·rw [if_pos c17] at H
        have c17b0 : decide (0 ≤ x4_2) = true := decide_eq_true c17
        clear c17
        replace H := Option.bind_eq_some_iff.mp H
        obtain ⟨t261, A180, H⟩ := H
        replace H : (if t261 = true then (awardingbodyref06_ValidPaper.l0 k2 (wrap64 (x3_2 + ((rd_T65 l0_2 x4_2).f1))) (wrap64 (x4_2 + 1)) a0_0 a0_1 l0_2) else (some false)) = some r := H
        have A18 := za A180; clear A180
        by_cases c19 : t261 = true
        ·subst c19
         have H1 : (awardingbodyref06_ValidPaper.l0 k2 (wrap64 (x3_2 + ((rd_T65 l0_2 x4_2).f1))) (wrap64 (x4_2 + 1)) a0_0 a0_1 l0_2) = some r := by rw [if_pos rfl] at H; exact H
         clear H; have H := H1; clear H1; have H' := za H; clear H
         obtain ⟨hcz20_0, hcz20_1, hcz20_2, hfz20_0, hfz20_1, hfz20_2⟩ := z3 BK259
         have p260 : 0 ≤ (x4_2 : Int) := of_decide_eq_true q7b
         have q260 : x4_2 < (l0_2.length : Int) := of_decide_eq_true q7b
         obtain ⟨ad260, e260, hx260_0, hx260_1, hx260_2, hx260_3, hx260_4, hx260_5⟩ := at_T65 HR0_2.out x4_2 p260 q260
         cases e260
         replace hx260_0 := zx HB hx260_0
         replace hx260_1 := zx HB hx260_1
         replace hx260_2 := zx HB hx260_2
         replace hx260_3 := zx HB hx260_3
         replace hx260_4 := zx HB hx260_4
         replace hx260_5 := zx HB hx260_5
         replace p260 := eq_true p260
         replace q260 := eq_true q260
         go_wp2_with (first | ((with_reducible refine gate_callee (f := 60) rfl ?_); refine zL (some 47) Try.func60 #[.agg #[.int .i64 ((rd_T65 l0_2 x4_2).f0), .int .i64 ((rd_T65 l0_2 x4_2).f1), .int .i64 ((rd_T65 l0_2 x4_2).f2), .int .i64 ((rd_T65 l0_2 x4_2).f3), .int .i64 ((rd_T65 l0_2 x4_2).f4), .int .i64 ((rd_T65 l0_2 x4_2).f5)]] ?_; (with_reducible refine (awardingbodyref06_ValidPart.calls k2 ((rd_T65 l0_2 x4_2).f0) ((rd_T65 l0_2 x4_2).f1) ((rd_T65 l0_2 x4_2).f2) ((rd_T65 l0_2 x4_2).f3) ((rd_T65 l0_2 x4_2).f4) ((rd_T65 l0_2 x4_2).f5) true _ A18.out).mono ?_); rintro e w21 ⟨rfl, hb⟩; refine ⟨_, rfl, ?_⟩; replace BK259 := zb BK259 hb; replace HB := zs HB hb; (try clear hb); (try clear hb2); (try clear hk); (try clear hi); obtain ⟨hcz22_0, hcz22_1, hcz22_2, hfz22_0, hfz22_1, hfz22_2⟩ := z3 BK259; have p262 : 0 ≤ (x4_2 : Int) := of_decide_eq_true q7b; have q262 : x4_2 < (l0_2.length : Int) := of_decide_eq_true q7b; obtain ⟨ad262, e262, hx262_0, hx262_1, hx262_2, hx262_3, hx262_4, hx262_5⟩ := at_T65 HR0_2.out x4_2 p262 q262; obtain rfl : ad260 = ad262 := (by injection e262); replace hx262_0 := zx HB hx262_0; replace hx262_1 := zx HB hx262_1; replace hx262_2 := zx HB hx262_2; replace hx262_3 := zx HB hx262_3; replace hx262_4 := zx HB hx262_4; replace hx262_5 := zx HB hx262_5; replace p262 := eq_true p262; replace q262 := eq_true q262))
         go_roundg k2
         case measure => have := HJ1.out; have := HK2.out; omega
         case rel => exact ⟨(wrap64 (x3_2 + ((rd_T65 l0_2 x4_2).f1))), (wrap64 (x4_2 + 1)), q7c, q7c, H', ⟨by have := HJ1.out; have := HK2.out; omega⟩, ⟨q7a⟩, ⟨zm HB⟩⟩
        ·replace c19 := Bool.eq_false_iff.mpr c19
         subst c19
         have H1 : (some false) = some r := by rw [if_neg (show ¬ (false = true) by decide)] at H; exact H
         clear H; have H := H1; clear H1
         obtain rfl := Option.some.inj H
         obtain ⟨hcz23_0, hcz23_1, hcz23_2, hfz23_0, hfz23_1, hfz23_2⟩ := z3 BK259
         have p260 : 0 ≤ (x4_2 : Int) := of_decide_eq_true q7b
         have q260 : x4_2 < (l0_2.length : Int) := of_decide_eq_true q7b
         obtain ⟨ad260, e260, hx260_0, hx260_1, hx260_2, hx260_3, hx260_4, hx260_5⟩ := at_T65 HR0_2.out x4_2 p260 q260
         cases e260
         replace hx260_0 := zx HB hx260_0
         replace hx260_1 := zx HB hx260_1
         replace hx260_2 := zx HB hx260_2
         replace hx260_3 := zx HB hx260_3
         replace hx260_4 := zx HB hx260_4
         replace hx260_5 := zx HB hx260_5
         replace p260 := eq_true p260
         replace q260 := eq_true q260
         go_wp2_with (first | ((with_reducible refine gate_callee (f := 60) rfl ?_); refine zL (some 47) Try.func60 #[.agg #[.int .i64 ((rd_T65 l0_2 x4_2).f0), .int .i64 ((rd_T65 l0_2 x4_2).f1), .int .i64 ((rd_T65 l0_2 x4_2).f2), .int .i64 ((rd_T65 l0_2 x4_2).f3), .int .i64 ((rd_T65 l0_2 x4_2).f4), .int .i64 ((rd_T65 l0_2 x4_2).f5)]] ?_; (with_reducible refine (awardingbodyref06_ValidPart.calls k2 ((rd_T65 l0_2 x4_2).f0) ((rd_T65 l0_2 x4_2).f1) ((rd_T65 l0_2 x4_2).f2) ((rd_T65 l0_2 x4_2).f3) ((rd_T65 l0_2 x4_2).f4) ((rd_T65 l0_2 x4_2).f5) false _ A18.out).mono ?_); rintro e w24 ⟨rfl, hb⟩; refine ⟨_, rfl, ?_⟩; replace BK259 := zb BK259 hb; replace HB := zs HB hb; (try clear hb); (try clear hb2); (try clear hk); (try clear hi)))
         go_ret
         exact ⟨zf, zm HB⟩
       ·rw [if_neg c17] at H
        exact absurd H (by simp)
      ·rw [if_neg c16] at H
       have c16b0 : decide (x4_2 < (l0_2.length : Int)) = false := decide_eq_false c16
       clear c16
       obtain rfl := Option.some.inj H
       obtain ⟨hcz25_0, hcz25_1, hcz25_2, hfz25_0, hfz25_1, hfz25_2⟩ := z3 BK259
       go_wp2
       go_ret
       exact ⟨zf, zm HB⟩

/-! ### awardingbodyref12_Need: function 50 -/
def awardingbodyref12_Need.f (k : Nat) (a0_0 : Int) (a0_1 : Int) (a0_2 : Int) (a0_3 : Int) (a0_4 : Int) (a0_5 : Int) : Option (Int) := (awardingbodyref06_ValidPart.f k a0_0 a0_1 a0_2 a0_3 a0_4 a0_5).bind fun t264 => (if t264 = true then (if a0_0 = 2 then (some (wrap64 (2 + a0_4))) else (some (mn (wrap64 (2 + a0_1)) 30))) else (some 0))
theorem awardingbodyref12_Need.mono : ∀ a0 a1 a2 a3 a4 a5 k, LeO (awardingbodyref12_Need.f k a0 a1 a2 a3 a4 a5) (awardingbodyref12_Need.f (k + 1) a0 a1 a2 a3 a4 a5) := by
  intro a0 a1 a2 a3 a4 a5 k
  unfold awardingbodyref12_Need.f
  repeat' first
      | (with_reducible exact awardingbodyref06_ValidPart.mono _ _ _ _ _ _ _)
      | (with_reducible exact LeO.refl _)
      | (with_reducible exact LeO.none _)
      | (with_reducible refine LeO.ite ?_ ?_)
      | (with_reducible refine LeO.bind ?_ (fun _ => ?_))
      | exact awardingbodyref06_ValidPart.mono _ _ _ _ _ _ _
      | exact LeO.none _
      | refine LeO.ite ?_ ?_
      | refine LeO.bind ?_ (fun _ => ?_)
set_option maxHeartbeats 8000000 in
set_option maxRecDepth 100000 in
theorem awardingbodyref12_Need.calls (k : Nat) (a0_0 : Int) (a0_1 : Int) (a0_2 : Int) (a0_3 : Int) (a0_4 : Int) (a0_5 : Int) (r : Int) (w : World) (h : awardingbodyref12_Need.f k a0_0 a0_1 a0_2 a0_3 a0_4 a0_5 = some r) :
    Calls Try.prog 50 #[.agg #[.int .i64 a0_0, .int .i64 a0_1, .int .i64 a0_2, .int .i64 a0_3, .int .i64 a0_4, .int .i64 a0_5]] w fun e w' => e = .returned (.int .i64 r) ∧ Below w.heap.size w w' := by
 have hu65 := Try.underlying65
 have HB := za (Below.refl w.heap.size w)
 have H : ((awardingbodyref06_ValidPart.f k a0_0 a0_1 a0_2 a0_3 a0_4 a0_5).bind fun t264 => (if t264 = true then (if a0_0 = 2 then (some (wrap64 (2 + a0_4))) else (some (mn (wrap64 (2 + a0_1)) 30))) else (some 0))) = some r := h
 clear h
 replace H := Option.bind_eq_some_iff.mp H
 obtain ⟨t264, A20, H⟩ := H
 replace H : (if t264 = true then (if a0_0 = 2 then (some (wrap64 (2 + a0_4))) else (some (mn (wrap64 (2 + a0_1)) 30))) else (some 0)) = some r := H
 have A2 := za A20; clear A20
 by_cases c3 : t264 = true
 ·subst c3
  have H1 : (if a0_0 = 2 then (some (wrap64 (2 + a0_4))) else (some (mn (wrap64 (2 + a0_1)) 30))) = some r := by rw [if_pos rfl] at H; exact H
  clear H; have H := H1; clear H1
  by_cases c4 : a0_0 = 2
  ·rw [if_pos c4] at H
   have c4b0 : (a0_0 == 2) = true := beq_iff_eq.mpr c4
   have c4b1 : (a0_0 != 2) = false := bne_eq_false_iff_eq.mpr c4
   clear c4
   obtain rfl := Option.some.inj H
   go_enter Try.func50, Try.ntmps50
   go_wp2_with (first | ((with_reducible refine gate_dst (N := 1) rfl ?_); refine zE 1 #[.int .i64 a0_0, .int .i64 a0_1, .int .i64 a0_2, .int .i64 a0_3, .int .i64 a0_4, .int .i64 a0_5] 65 ?_; intro gb263 hg w5 hbox hb; have BK263 := za (hbox); have GW263 := zg HB hg; have GE263 := zg HB hg; replace HB := zs HB hb; clear hb hbox hg; obtain ⟨hcz6_0, hcz6_1, hcz6_2, hcz6_3, hcz6_4, hcz6_5, hfz6_0, hfz6_1, hfz6_2, hfz6_3, hfz6_4, hfz6_5⟩ := z6 BK263) | ((with_reducible refine gate_callee (f := 60) rfl ?_); refine zL (some 4) Try.func60 #[.agg #[.int .i64 a0_0, .int .i64 a0_1, .int .i64 a0_2, .int .i64 a0_3, .int .i64 a0_4, .int .i64 a0_5]] ?_; (with_reducible refine (awardingbodyref06_ValidPart.calls k a0_0 a0_1 a0_2 a0_3 a0_4 a0_5 true _ A2.out).mono ?_); rintro e w7 ⟨rfl, hb⟩; refine ⟨_, rfl, ?_⟩; replace BK263 := zb BK263 hb; replace HB := zs HB hb; (try clear hb); (try clear hb2); (try clear hk); (try clear hi); obtain ⟨hcz8_0, hcz8_1, hcz8_2, hcz8_3, hcz8_4, hcz8_5, hfz8_0, hfz8_1, hfz8_2, hfz8_3, hfz8_4, hfz8_5⟩ := z6 BK263))
   go_ret
   exact ⟨zf, zm HB⟩
  ·rw [if_neg c4] at H
   have c4b0 : (a0_0 == 2) = false := beq_eq_false_iff_ne.mpr c4
   have c4b1 : (a0_0 != 2) = true := bne_iff_ne.mpr c4
   obtain ⟨ji9, hji9⟩ : ∃ j_ : Int, (mn (wrap64 (2 + a0_1)) 30) = j_ := ⟨_, rfl⟩
   replace H : (some ji9) = some r := by first | (rw [hji9] at H; exact H) | (simp only [hji9] at H ⊢; exact H)
   (try rw [hji9] at A2)
   (try (have hji9h : ji9 ≤ 30 := by (rw [← hji9]; unfold mn; (repeat' split) <;> omega)))
   (try (have hji9g : ji9 ≤ 64 := by omega))
   have hji9_ : (if 30 < (wrap64 (2 + a0_1)) then 30 else (wrap64 (2 + a0_1))) = ji9 := hji9
   obtain rfl := Option.some.inj H
   go_enter Try.func50, Try.ntmps50
   go_wp2_with (first | ((with_reducible refine gate_dst (N := 1) rfl ?_); refine zE 1 #[.int .i64 a0_0, .int .i64 a0_1, .int .i64 a0_2, .int .i64 a0_3, .int .i64 a0_4, .int .i64 a0_5] 65 ?_; intro gb263 hg w10 hbox hb; have BK263 := za (hbox); have GW263 := zg HB hg; have GE263 := zg HB hg; replace HB := zs HB hb; clear hb hbox hg; obtain ⟨hcz11_0, hcz11_1, hcz11_2, hcz11_3, hcz11_4, hcz11_5, hfz11_0, hfz11_1, hfz11_2, hfz11_3, hfz11_4, hfz11_5⟩ := z6 BK263) | ((with_reducible refine gate_callee (f := 60) rfl ?_); refine zL (some 4) Try.func60 #[.agg #[.int .i64 a0_0, .int .i64 a0_1, .int .i64 a0_2, .int .i64 a0_3, .int .i64 a0_4, .int .i64 a0_5]] ?_; (with_reducible refine (awardingbodyref06_ValidPart.calls k a0_0 a0_1 a0_2 a0_3 a0_4 a0_5 true _ A2.out).mono ?_); rintro e w12 ⟨rfl, hb⟩; refine ⟨_, rfl, ?_⟩; replace BK263 := zb BK263 hb; replace HB := zs HB hb; (try clear hb); (try clear hb2); (try clear hk); (try clear hi); obtain ⟨hcz13_0, hcz13_1, hcz13_2, hcz13_3, hcz13_4, hcz13_5, hfz13_0, hfz13_1, hfz13_2, hfz13_3, hfz13_4, hfz13_5⟩ := z6 BK263))
   go_ret
   exact ⟨by first | rfl | (simp [errW_none, errW_some] <;> rfl) | (simp only [← hji9]; first | rfl | (simp [errW_none, errW_some] <;> rfl)) | (simp [*, errW_none, errW_some] <;> rfl), zm HB⟩
 ·replace c3 := Bool.eq_false_iff.mpr c3
  subst c3
  have H1 : (some 0) = some r := by rw [if_neg (show ¬ (false = true) by decide)] at H; exact H
  clear H; have H := H1; clear H1
  obtain rfl := Option.some.inj H
  go_enter Try.func50, Try.ntmps50
  go_wp2_with (first | ((with_reducible refine gate_dst (N := 1) rfl ?_); refine zE 1 #[.int .i64 a0_0, .int .i64 a0_1, .int .i64 a0_2, .int .i64 a0_3, .int .i64 a0_4, .int .i64 a0_5] 65 ?_; intro gb263 hg w14 hbox hb; have BK263 := za (hbox); have GW263 := zg HB hg; have GE263 := zg HB hg; replace HB := zs HB hb; clear hb hbox hg; obtain ⟨hcz15_0, hcz15_1, hcz15_2, hcz15_3, hcz15_4, hcz15_5, hfz15_0, hfz15_1, hfz15_2, hfz15_3, hfz15_4, hfz15_5⟩ := z6 BK263) | ((with_reducible refine gate_callee (f := 60) rfl ?_); refine zL (some 4) Try.func60 #[.agg #[.int .i64 a0_0, .int .i64 a0_1, .int .i64 a0_2, .int .i64 a0_3, .int .i64 a0_4, .int .i64 a0_5]] ?_; (with_reducible refine (awardingbodyref06_ValidPart.calls k a0_0 a0_1 a0_2 a0_3 a0_4 a0_5 false _ A2.out).mono ?_); rintro e w16 ⟨rfl, hb⟩; refine ⟨_, rfl, ?_⟩; replace BK263 := zb BK263 hb; replace HB := zs HB hb; (try clear hb); (try clear hb2); (try clear hk); (try clear hi)))
  go_ret
  exact ⟨zf, zm HB⟩

/-! ### awardingbodyref12_Make: function 29 -/
mutual
def awardingbodyref12_Make.l0 : Nat → List (List Int) → Int → Int → Int → Int → List (S65) → Option ((List (List Int)) × Int)
  | 0, _, _, _, _, _, _ => none
  | k + 1, x4, x5, x6, x266000, x266001, x266002 => if x6 < (x266002.length : Int) then (if 0 ≤ x6 then ((awardingbodyref12_Need.f k ((rd_T65 x266002 x6).f0) ((rd_T65 x266002 x6).f1) ((rd_T65 x266002 x6).f2) ((rd_T65 x266002 x6).f3) ((rd_T65 x266002 x6).f4) ((rd_T65 x266002 x6).f5)).bind fun t272 => (if t272 > x5 then (if x4.length < 5864062014805 then ((some (x4 ++ [[]] : List (List Int))).bind fun y273 => (if 0 ≤ (wrap64 ((y273.length : Int) - 1)) then (if (wrap64 ((y273.length : Int) - 1)) < (y273.length : Int) then (if (rd_L2 y273 (wrap64 ((y273.length : Int) - 1))).length < 17592186044416 then (awardingbodyref12_Make.l0 k (y273.set ((wrap64 ((y273.length : Int) - 1)) : Int).toNat ((rd_L2 y273 (wrap64 ((y273.length : Int) - 1))) ++ [x6])) (wrap64 (30 - t272)) (wrap64 (x6 + 1)) x266000 x266001 x266002) else (none)) else (none)) else (none))) else (none)) else (if 0 ≤ (wrap64 ((x4.length : Int) - 1)) then (if (wrap64 ((x4.length : Int) - 1)) < (x4.length : Int) then (if (rd_L2 x4 (wrap64 ((x4.length : Int) - 1))).length < 17592186044416 then (awardingbodyref12_Make.l0 k (x4.set ((wrap64 ((x4.length : Int) - 1)) : Int).toNat ((rd_L2 x4 (wrap64 ((x4.length : Int) - 1))) ++ [x6])) (wrap64 (x5 - t272)) (wrap64 (x6 + 1)) x266000 x266001 x266002) else (none)) else (none)) else (none)))) else (none)) else (awardingbodyref12_Make.l1 k x4)
def awardingbodyref12_Make.l1 : Nat → List (List Int) → Option ((List (List Int)) × Int)
  | 0, _ => none
  | k + 1, x4 => if ((x4.length : Int) % 4) = 0 then (if (x4.length : Int) > 12 then (some (([] : List (List Int)), 3)) else (some (x4, 0))) else (if x4.length < 5864062014805 then (awardingbodyref12_Make.l1 k (x4 ++ [[]])) else (none))
end
def awardingbodyref12_Make.f (k : Nat) (a0_0 : Int) (a0_1 : Int) (l0_2 : List (S65)) : Option ((List (List Int)) × Int) := (awardingbodyref06_ValidPaper.f k a0_0 a0_1 l0_2).bind fun t267 => (if t267 = true then (awardingbodyref12_Make.l0 k (([[], []] : List (List Int))) 30 0 a0_0 a0_1 l0_2) else (some (([] : List (List Int)), 1)))
theorem awardingbodyref12_Make.mono_l : ∀ k, (∀ y0 y1 y2 y3 y4 y5, LeO (awardingbodyref12_Make.l0 k y0 y1 y2 y3 y4 y5) (awardingbodyref12_Make.l0 (k + 1) y0 y1 y2 y3 y4 y5)) ∧ (∀ y0, LeO (awardingbodyref12_Make.l1 k y0) (awardingbodyref12_Make.l1 (k + 1) y0))
  | 0 => ⟨fun _ _ _ _ _ _ r h => by simp [awardingbodyref12_Make.l0] at h, fun _ r h => by simp [awardingbodyref12_Make.l1] at h⟩
  | k + 1 => by
    obtain ⟨ih0, ih1⟩ := awardingbodyref12_Make.mono_l k
    refine ⟨?_, ?_⟩
    · intro y0 y1 y2 y3 y4 y5
      unfold awardingbodyref12_Make.l0
      repeat' first
      | (with_reducible exact ih0 _ _ _ _ _ _)
      | (with_reducible exact ih1 _)
      | (with_reducible exact awardingbodyref06_ValidPaper.mono _ _ _ _)
      | (with_reducible exact awardingbodyref12_Need.mono _ _ _ _ _ _ _)
      | (with_reducible exact LeO.refl _)
      | (with_reducible exact LeO.none _)
      | (with_reducible refine LeO.ite ?_ ?_)
      | (with_reducible refine LeO.bind ?_ (fun _ => ?_))
      | exact ih0 _ _ _ _ _ _
      | exact ih1 _
      | exact awardingbodyref06_ValidPaper.mono _ _ _ _
      | exact awardingbodyref12_Need.mono _ _ _ _ _ _ _
      | exact LeO.none _
      | refine LeO.ite ?_ ?_
      | refine LeO.bind ?_ (fun _ => ?_)
    · intro y0
      unfold awardingbodyref12_Make.l1
      repeat' first
      | (with_reducible exact ih0 _ _ _ _ _ _)
      | (with_reducible exact ih1 _)
      | (with_reducible exact awardingbodyref06_ValidPaper.mono _ _ _ _)
      | (with_reducible exact awardingbodyref12_Need.mono _ _ _ _ _ _ _)
      | (with_reducible exact LeO.refl _)
      | (with_reducible exact LeO.none _)
      | (with_reducible refine LeO.ite ?_ ?_)
      | (with_reducible refine LeO.bind ?_ (fun _ => ?_))
      | exact ih0 _ _ _ _ _ _
      | exact ih1 _
      | exact awardingbodyref06_ValidPaper.mono _ _ _ _
      | exact awardingbodyref12_Need.mono _ _ _ _ _ _ _
      | exact LeO.none _
      | refine LeO.ite ?_ ?_
      | refine LeO.bind ?_ (fun _ => ?_)
theorem awardingbodyref12_Make.mono : ∀ a0 a1 a2 k, LeO (awardingbodyref12_Make.f k a0 a1 a2) (awardingbodyref12_Make.f (k + 1) a0 a1 a2) := by
  intro a0 a1 a2 k
  obtain ⟨ih0, ih1⟩ := awardingbodyref12_Make.mono_l k
  unfold awardingbodyref12_Make.f
  repeat' first
      | (with_reducible exact ih0 _ _ _ _ _ _)
      | (with_reducible exact ih1 _)
      | (with_reducible exact awardingbodyref06_ValidPaper.mono _ _ _ _)
      | (with_reducible exact awardingbodyref12_Need.mono _ _ _ _ _ _ _)
      | (with_reducible exact LeO.refl _)
      | (with_reducible exact LeO.none _)
      | (with_reducible refine LeO.ite ?_ ?_)
      | (with_reducible refine LeO.bind ?_ (fun _ => ?_))
      | exact ih0 _ _ _ _ _ _
      | exact ih1 _
      | exact awardingbodyref06_ValidPaper.mono _ _ _ _
      | exact awardingbodyref12_Need.mono _ _ _ _ _ _ _
      | exact LeO.none _
      | refine LeO.ite ?_ ?_
      | refine LeO.bind ?_ (fun _ => ?_)
set_option maxHeartbeats 8000000 in
set_option maxRecDepth 100000 in
theorem awardingbodyref12_Make.calls (k : Nat) (a0_0 : Int) (a0_1 : Int) (A0_2 : Option Addr) (c0_2 : Nat) (l0_2 : List (S65)) (r1 : List (List Int)) (r2 : Int) (w : World) (hr0_2 : Kd.C k65 w A0_2 l0_2.length l0_2) (hc0_2 : l0_2.length ≤ c0_2) (h : awardingbodyref12_Make.f k a0_0 a0_1 l0_2 = some (r1, r2)) :
    Calls Try.prog 29 #[.agg #[.int .i64 a0_0, .int .i64 a0_1, .slice A0_2 l0_2.length c0_2]] w fun e w' => ∃ v0_ : Value, e = .returned (.tuple #[.agg #[v0_], .int .i64 r2]) ∧ Kd.S (Kd.slice 3 (Kd.int .i64)) 28 w' w.heap.size (fun _ => True) v0_ r1 ∧ Below w.heap.size w w' := by
 have hu53 := Try.underlying53
 have hu56 := Try.underlying56
 have hu65 := Try.underlying65
 have HR0_2 := za hr0_2; have HC0_2 := za hc0_2; clear hr0_2 hc0_2
 have HB := za (Below.refl w.heap.size w)
 have H : ((awardingbodyref06_ValidPaper.f k a0_0 a0_1 l0_2).bind fun t267 => (if t267 = true then (awardingbodyref12_Make.l0 k (([[], []] : List (List Int))) 30 0 a0_0 a0_1 l0_2) else (some (([] : List (List Int)), 1)))) = some (r1, r2) := h
 clear h
 replace H := Option.bind_eq_some_iff.mp H
 obtain ⟨t267, A20, H⟩ := H
 replace H : (if t267 = true then (awardingbodyref12_Make.l0 k (([[], []] : List (List Int))) 30 0 a0_0 a0_1 l0_2) else (some (([] : List (List Int)), 1))) = some (r1, r2) := H
 have A2 := za A20; clear A20
 by_cases c3 : t267 = true
 ·subst c3
  have H1 : (awardingbodyref12_Make.l0 k (([[], []] : List (List Int))) 30 0 a0_0 a0_1 l0_2) = some (r1, r2) := by rw [if_pos rfl] at H; exact H
  clear H; have H := H1; clear H1
  obtain ⟨y268, hy_⟩ : ∃ y_ : List (List Int), y_ = (([[], []] : List (List Int))) := ⟨_, rfl⟩
  replace H : (awardingbodyref12_Make.l0 k y268 30 0 a0_0 a0_1 l0_2) = some (r1, r2) := q7f
  have Ny268 := za hy_; clear hy_; have H' := za H; clear H
  go_enter Try.func29, Try.ntmps29
  go_wp2_with (first | ((with_reducible refine gate_dst (N := 1) rfl ?_); refine zE 1 #[.int .i64 a0_0, .int .i64 a0_1, .slice A0_2 l0_2.length c0_2] 53 ?_; intro gb265 hg w4 hbox hb; have BK265 := za (hbox); have GW265 := zg HB hg; have GE265 := zg HB hg; replace HB := zs HB hb; clear hb hbox hg) | ((with_reducible refine gate_dst (N := 2) rfl ?_); refine zE 2 #[.slice none 0 0] 56 ?_; intro gb266 hg w5 hbox hb; have BK266 := za (hbox); have GW266 := zg HB hg; have GE266 := zg HB hg; have NB265_266 := zl BK265 hg; have NB266_265 := zr BK265 hg; replace BK265 := zb BK265 hb; replace HB := zs HB hb; clear hb hbox hg; have hnb6 := NB265_266.out; have hnc6 := NB266_265.out; obtain ⟨hcz7_0, hcz7_1, hcz7_2, hfz7_0, hfz7_1, hfz7_2⟩ := z3 BK265) | ((with_reducible refine gate_callee (f := 49) rfl ?_); refine zL (some 10) Try.func49 #[.agg #[.int .i64 a0_0, .int .i64 a0_1, .slice A0_2 l0_2.length c0_2]] ?_; (with_reducible refine (awardingbodyref06_ValidPaper.calls k a0_0 a0_1 _ _ l0_2 true _ ?side1 ?side2 A2.out).mono ?_); (case side1 => exact zC HR0_2 HB); (case side2 => exact HC0_2.out); rintro e w8 ⟨rfl, hb⟩; refine ⟨_, rfl, ?_⟩; replace BK265 := zb BK265 hb; replace BK266 := zb BK266 hb; replace HB := zs HB hb; (try clear hb); (try clear hb2); (try clear hk); (try clear hi)) | ((with_reducible refine gate_dst (N := 13) rfl ?_); refine Kd.S_lit (Kd.slice 3 (Kd.int .i64)) _ 28 ?hg (N := 13) ?hd (xs := ([[], []] : List (List Int))) (inner := [.slice none 0 0, .slice none 0 0]) (ok := fun _ => True) (okp := fun _ => True) ?hr ?hp (fun _ hk => hk) trivial (Below.refl _ _) (Nat.le_refl _) (by simp) ?_; (case hd => rfl); (case hg => rfl); (case hr => first | (go_simp; done) | (go_simp; rfl)); (case hp => exact (Reps.one (show Kd.M (Kd.slice 3 (Kd.int .i64)) _ _ _ [] [.slice none 0 0] from ⟨_, rfl, Kd.R_nil _ _ _ _ _⟩) (Reps.one (show Kd.M (Kd.slice 3 (Kd.int .i64)) _ _ _ [] [.slice none 0 0] from ⟨_, rfl, Kd.R_nil _ _ _ _ _⟩) (Reps.none _ _)))); intro v269 w9 ho10 hb hg_ hnew_; clear hg_ hnew_; (first | rw [← Ny268.out] at ho10 | (simp only [Int.reduceToNat] at ho10; rw [← Ny268.out] at ho10)); have HO270 := za (Kd.S_lower ho10 (below_size (zm HB))); replace BK265 := zb BK265 hb; replace BK266 := zb BK266 hb; replace HB := zs HB hb; clear hb ho10))
  go_loopg [4, 5, 6] k (fun kq v4 v5 v6 w' => ∃ (x4_1 : List (List Int)) (x5_1 : Int) (x6_1 : Int), v5 = .int .i64 x5_1 ∧ v6 = .int .i64 x6_1 ∧ Aside0 (awardingbodyref12_Make.l0 kq x4_1 x5_1 x6_1 a0_0 a0_1 l0_2 = some (r1, r2)) ∧ Aside0 (kq ≤ k) ∧ Aside0 (Kd.S (Kd.slice 3 (Kd.int .i64)) 28 w' w.heap.size (fun _ => True) v4 x4_1) ∧ Aside0 (w'.heap[gb265]? = some (.cells #[.int .i64 a0_0, .int .i64 a0_1, (.slice A0_2 l0_2.length c0_2)] 53 (0, 0))) ∧ Aside0 (w'.heap[gb266]? = some (.cells #[(.slice none 0 0)] 56 (0, 0))) ∧ Aside0 (Below w.heap.size w w'))
  case atStart => exact ⟨(y268), (30), (0), q7c, q7c, H', ⟨Nat.le_refl _⟩, ⟨by (with_reducible repeat (first | apply Kd.S_alloc | apply Kd.S_drewN | apply Kd.S_drew)); exact HO270.out⟩, ⟨q7a⟩, ⟨q7a⟩, ⟨zm HB⟩⟩
  case round =>
   clear H'; (try clear c2); (try clear p2); (try clear c3); (try clear c4); (try clear c6); (try clear hcz7_0); (try clear hcz7_1); (try clear hcz7_2); (try clear hfz7_0); (try clear hfz7_1); (try clear hfz7_2)
   obtain ⟨x4_1, x5_1, x6_1, rfl, rfl, HA, HK1, HO_4, BK265, BK266, HB⟩ := hrel
   cases gk with
   | zero => exact absurd HA.out (by simp [awardingbodyref12_Make.l0])
   | succ k1 =>
    have H := HA.out
    clear HA
    simp only [awardingbodyref12_Make.l0] at H
    by_cases c11 : x6_1 < (l0_2.length : Int)
    ·rw [if_pos c11] at H
     have c11b0 : decide (x6_1 < (l0_2.length : Int)) = true := decide_eq_true c11
     clear c11
     by_cases c12 : 0 ≤ x6_1
     ·rw [if_pos c12] at H
      have c12b0 : decide (0 ≤ x6_1) = true := decide_eq_true c12
      clear c12
      replace H := Option.bind_eq_some_iff.mp H
      obtain ⟨t272, A130, H⟩ := H
      replace H : (if t272 > x5_1 then (if x4_1.length < 5864062014805 then ((some (x4_1 ++ [[]] : List (List Int))).bind fun y273 => (if 0 ≤ (wrap64 ((y273.length : Int) - 1)) then (if (wrap64 ((y273.length : Int) - 1)) < (y273.length : Int) then (if (rd_L2 y273 (wrap64 ((y273.length : Int) - 1))).length < 17592186044416 then (awardingbodyref12_Make.l0 k1 (y273.set ((wrap64 ((y273.length : Int) - 1)) : Int).toNat ((rd_L2 y273 (wrap64 ((y273.length : Int) - 1))) ++ [x6_1])) (wrap64 (30 - t272)) (wrap64 (x6_1 + 1)) a0_0 a0_1 l0_2) else (none)) else (none)) else (none))) else (none)) else (if 0 ≤ (wrap64 ((x4_1.length : Int) - 1)) then (if (wrap64 ((x4_1.length : Int) - 1)) < (x4_1.length : Int) then (if (rd_L2 x4_1 (wrap64 ((x4_1.length : Int) - 1))).length < 17592186044416 then (awardingbodyref12_Make.l0 k1 (x4_1.set ((wrap64 ((x4_1.length : Int) - 1)) : Int).toNat ((rd_L2 x4_1 (wrap64 ((x4_1.length : Int) - 1))) ++ [x6_1])) (wrap64 (x5_1 - t272)) (wrap64 (x6_1 + 1)) a0_0 a0_1 l0_2) else (none)) else (none)) else (none))) = some (r1, r2) := H
      have A13 := za A130; clear A130
      by_cases c14 : t272 > x5_1
      ·rw [if_pos c14] at H
       have c14b0 : decide (x5_1 < t272) = true := decide_eq_true c14
       clear c14
       by_cases c15 : x4_1.length < 5864062014805
       ·rw [if_pos c15] at H
        have LMc15 := za c15; clear c15
        obtain ⟨y273, hy_⟩ : ∃ y_ : List (List Int), y_ = (x4_1 ++ [[]]) := ⟨_, rfl⟩
        replace H : (if 0 ≤ (wrap64 ((y273.length : Int) - 1)) then (if (wrap64 ((y273.length : Int) - 1)) < (y273.length : Int) then (if (rd_L2 y273 (wrap64 ((y273.length : Int) - 1))).length < 17592186044416 then (awardingbodyref12_Make.l0 k1 (y273.set ((wrap64 ((y273.length : Int) - 1)) : Int).toNat ((rd_L2 y273 (wrap64 ((y273.length : Int) - 1))) ++ [x6_1])) (wrap64 (30 - t272)) (wrap64 (x6_1 + 1)) a0_0 a0_1 l0_2) else (none)) else (none)) else (none)) = some (r1, r2) := q7f
        have Ny273 := za hy_; clear hy_
        obtain ⟨ji16, hji16⟩ : ∃ j_ : Int, (wrap64 ((y273.length : Int) - 1)) = j_ := ⟨_, rfl⟩
        replace H : (if 0 ≤ (ji16) then (if (ji16) < (y273.length : Int) then (if (rd_L2 y273 (ji16)).length < 17592186044416 then (awardingbodyref12_Make.l0 k1 (y273.set ((ji16) : Int).toNat ((rd_L2 y273 (ji16)) ++ [x6_1])) (wrap64 (30 - t272)) (wrap64 (x6_1 + 1)) a0_0 a0_1 l0_2) else (none)) else (none)) else (none)) = some (r1, r2) := by first | (rw [hji16] at H; exact H) | (simp only [hji16] at H ⊢; exact H)
        (try rw [hji16] at A13)
        have hji16w : (IntKind.i64.wrap ((y273.length : Int) - 1)) = ji16 := (i64_w _).trans hji16
        by_cases c17 : 0 ≤ (ji16)
        ·rw [if_pos c17] at H
         have c17b0 : decide (0 ≤ (ji16)) = true := decide_eq_true c17
         clear c17
         by_cases c18 : (ji16) < (y273.length : Int)
         ·rw [if_pos c18] at H
          have c18b0 : decide ((ji16) < (y273.length : Int)) = true := decide_eq_true c18
          clear c18
          by_cases c19 : (rd_L2 y273 (ji16)).length < 17592186044416
          ·rw [if_pos c19] at H
           have LMc19 := za c19; clear c19
           obtain ⟨y277, hy_⟩ : ∃ y_ : List Int, y_ = ((rd_L2 y273 (ji16)) ++ [x6_1]) := ⟨_, rfl⟩
           replace H : (awardingbodyref12_Make.l0 k1 (y273.set ((ji16) : Int).toNat y277) (wrap64 (30 - t272)) (wrap64 (x6_1 + 1)) a0_0 a0_1 l0_2) = some (r1, r2) := q7f
           have Ny277 := za hy_; clear hy_
           obtain ⟨y280, hy_⟩ : ∃ y_ : List (List Int), y_ = (y273.set ((ji16) : Int).toNat y277) := ⟨_, rfl⟩
           replace H : (awardingbodyref12_Make.l0 k1 y280 (wrap64 (30 - t272)) (wrap64 (x6_1 + 1)) a0_0 a0_1 l0_2) = some (r1, r2) := q7f
           have Ny280 := za hy_; clear hy_; have H' := za H; clear H
           have hnb21 := NB265_266.out
           have hnc21 := NB266_265.out
           obtain ⟨hcz22_0, hcz22_1, hcz22_2, hfz22_0, hfz22_1, hfz22_2⟩ := z3 BK265
           have p271 : 0 ≤ (x6_1 : Int) := of_decide_eq_true q7b
           have q271 : x6_1 < (l0_2.length : Int) := of_decide_eq_true q7b
           obtain ⟨ad271, e271, hx271_0, hx271_1, hx271_2, hx271_3, hx271_4, hx271_5⟩ := at_T65 HR0_2.out x6_1 p271 q271
           cases e271
           replace hx271_0 := zx HB hx271_0
           replace hx271_1 := zx HB hx271_1
           replace hx271_2 := zx HB hx271_2
           replace hx271_3 := zx HB hx271_3
           replace hx271_4 := zx HB hx271_4
           replace hx271_5 := zx HB hx271_5
           replace p271 := eq_true p271
           replace q271 := eq_true q271
           go_wp2_with (first | ((with_reducible refine gate_callee (f := 50) rfl ?_); refine zL (some 26) Try.func50 #[.agg #[.int .i64 ((rd_T65 l0_2 x6_1).f0), .int .i64 ((rd_T65 l0_2 x6_1).f1), .int .i64 ((rd_T65 l0_2 x6_1).f2), .int .i64 ((rd_T65 l0_2 x6_1).f3), .int .i64 ((rd_T65 l0_2 x6_1).f4), .int .i64 ((rd_T65 l0_2 x6_1).f5)]] ?_; (with_reducible refine (awardingbodyref12_Need.calls k1 ((rd_T65 l0_2 x6_1).f0) ((rd_T65 l0_2 x6_1).f1) ((rd_T65 l0_2 x6_1).f2) ((rd_T65 l0_2 x6_1).f3) ((rd_T65 l0_2 x6_1).f4) ((rd_T65 l0_2 x6_1).f5) t272 _ A13.out).mono ?_); rintro e w23 ⟨rfl, hb⟩; refine ⟨_, rfl, ?_⟩; replace HO_4 := zS HO_4 hb; replace BK265 := zb BK265 hb; replace BK266 := zb BK266 hb; replace HB := zs HB hb; (try clear hb); (try clear hb2); (try clear hk); (try clear hi)) | ((with_reducible refine gate_builtin (b := .append) (xs := #[.tmp 30, .tmp 31]) rfl ?_); at_builtin; refine Kd.S_append (Kd.slice 3 (Kd.int .i64)) (w0 := w) w.heap.size rfl (.tmp 30) (.tmp 31) 47 28 (.slice none 0 0) 24 rfl Try.underlying47 info28 rfl (by decide) (by omega) u4 x4_1 ([] : List Int) [.slice none 0 0] (fun _ => True) (fun _ => False) rfl rfl ?aP (fun k_ hk_ => hk_.elim) ?aF ?aO ?aB ?aS ?aL ?_; (case aP => exact Kd.M_row (Kd.R_nil _ _ _ _ _)); (case aB => exact (zm HB)); (case aF => exact (fun _ _ => trivial)); (case aO => exact q7e); (case aS => exact (below_size (zm HB))); (case aL => have := LMc15.out; omega); intro v274 w24 ho hb hg hat; rw [← Ny273.out] at ho; have HO275 := za (ho); replace BK265 := (zw BK265 hg (Kd.S_ne HO_4.out BK265.out (by decide))); replace BK266 := (zw BK266 hg (Kd.S_ne HO_4.out BK266.out (by decide))); replace HB := za (hb); clear HO_4 ho hb hg hat; obtain ⟨Ao25, co25, eo25⟩ := Kd.S_slice HO275.out; subst eo25; have p276 : 0 ≤ ((ji16) : Int) := of_decide_eq_true q7b; have q276 : (ji16) < (y273.length : Int) := of_decide_eq_true q7b; obtain ⟨ad276, A276_0, c276_0, e276, hx276_0, hl276_0, hi276_0⟩ := at_L2 (Kd.S_reads' HO275.out).2.2 (ji16) p276 q276; cases e276; obtain ⟨ce276, hce276, hMe276, hcc276⟩ := Kd.S_get HO275.out [] (ji16) p276 (by first | exact q276 | exact of_decide_eq_true q7b | (have e_ := (Kd.S_reads' HO275.out).1; omega)); obtain ⟨ve276_0, rfl, ge276_0⟩ := hMe276; have hv276_0 := hcc276 0 _ rfl; rw [Nat.add_zero, show ((Kd.slice 3 (Kd.int .i64))).sz = 1 from rfl, Nat.mul_one] at hv276_0; replace hv276_0 := Option.some.inj (hv276_0.symm.trans hx276_0); rw [hv276_0] at ge276_0; have HL276_0 := za (show Kd.R (Kd.int .i64) 3 _ _ _ _ (rd_L2 y273 (ji16)) from ge276_0); clear hv276_0 ge276_0; have HX276_0 := za hx276_0; clear hcc276 hce276; have HR276_0 := za hi276_0; have HC276_0 := za hl276_0; clear hi276_0 hl276_0; replace p276 := eq_true p276; replace q276 := eq_true q276; obtain ⟨go26, co26, eo26, gb26, gl26, cl26, HG26⟩ := Kd.S_form HO275.out (by have h_ : ((ji16) : Int) < ((y273.length : Int) : Int) := of_decide_eq_true q7b; have h2_ : 0 ≤ ((ji16) : Int) := (of_decide_eq_true q7b); omega); (first | cases eo26 | (injection eo26 with ea_ en_ ec_; (first | subst ea_ | (injection ea_ with ea_; subst ea_)); subst ec_; clear en_)); have GB26 := za gb26; have GG26 := za HG26; clear gb26 gl26 HG26; (first | simp only [add_plain] at hx276_0 | skip); obtain ⟨oki26, ce26, hcl26, hM26, hcc26, _, _, hH26⟩ := Kd.S_elem HO275.out [] ((ji16) : Int) (of_decide_eq_true q7b) (by have h_ : ((ji16) : Int) < ((y273.length : Int) : Int) := of_decide_eq_true q7b; first | exact h_ | (have e_ := (Kd.S_reads' HO275.out).1; omega) | simpa using h_); obtain ⟨ve26_0, rfl, ge26_0⟩ := hM26; have hv26 := hcc26 0 _ rfl; have hX26 := HX276_0.out; (try simp only [add_plain] at hX26); (try simp only [Nat.add_zero] at hv26); (try rw [show ((Kd.slice 3 (Kd.int .i64))).sz = 1 from rfl, Nat.mul_one] at hv26); replace hv26 := Option.some.inj (hv26.symm.trans hX26); subst hv26; clear hX26 hcc26 hcl26; have UU26 := za (show Kd.R (Kd.int .i64) 3 _ w.heap.size oki26 (.slice A276_0 (rd_L2 y273 (ji16)).length c276_0) (rd_L2 y273 (ji16)) from ge26_0); have HH26 := za hH26; have HN26 := za (Kd.S_reads' HO275.out).1; clear hH26 ge26_0) | ((with_reducible refine gate_builtin (b := .append) (xs := #[.tmp 41, .tmp 43]) rfl ?_); at_builtin; refine Kd.R_append (Kd.int .i64) (w0 := w) w.heap.size rfl (.tmp 41) (.tmp 43) 28 3 (.int .i64 0) 8 rfl Try.underlying28 info3 rfl (by decide) (by omega) (.slice A276_0 (rd_L2 y273 (ji16)).length c276_0) (rd_L2 y273 (ji16)) x6_1 [.int .i64 x6_1] (fun k_ => oki26 k_ ∨ ((fun _ => True)) k_ ∧ w24.heap.size ≤ k_) (fun _ => False) rfl rfl ?aP (fun _ hk => hk.elim) ?aF ?aO ?aB ?aS ?aL ?_; (case aP => exact rfl); (case aB => exact (zm HB)); (case aF => exact (fun k_ hk => .inr ⟨trivial, hk⟩)); (case aO => exact (by (with_reducible repeat (first | apply Kd.R_alloc | apply Kd.R_drewN | apply Kd.R_drew)); exact Kd.R_mono UU26.out (fun _ hk => .inl hk))); (case aS => exact (below_size (zm HB))); (case aL => have := LMc19.out; omega); intro v278 w27 ho hb hg hat; rw [← Ny277.out] at ho; have HO279 := za (ho); replace BK265 := (zw BK265 hg (Kd.R_ne HL276_0.out BK265.out (by decide))); replace BK266 := (zw BK266 hg (Kd.R_ne HL276_0.out BK266.out (by decide))); replace HB := za (hb); replace HH26 := za (Kd.H_grown (Kd.H_widen (by repeat (first | exact HH26.out | refine Kd.H_alloc ?_ _ | refine Kd.H_drewN ?_ _ | refine Kd.H_drew ?_))) hg (fun k_ e_ => .inl (UU26.out.1 k_ e_))); clear HO275 UU26 HL276_0 ho hb hg hat; have p20 : 0 ≤ ((ji16) : Int) := of_decide_eq_true q7b; have q20 : ((ji16) : Int) < ((y273.length : Int) : Int) := of_decide_eq_true q7b; replace p20 := eq_true p20; replace q20 := eq_true q20; obtain ⟨Ao30, co30, eo30⟩ := Kd.R_slice HO279.out; subst eo30; obtain ⟨_, _, hraw28, _, _, hcc28, _⟩ := Kd.H_raw HH26.out (of_decide_eq_true q7b) (by have h_ : ((ji16) : Int) < ((y273.length : Int) : Int) := of_decide_eq_true q7b; first | exact h_ | (have e_ := (HN26.out); omega) | simpa using h_); obtain ⟨_, hfr28⟩ := Kd.H_at HH26.out (of_decide_eq_true q7b) (by have h_ : ((ji16) : Int) < ((y273.length : Int) : Int) := of_decide_eq_true q7b; first | exact h_ | (have e_ := (HN26.out); omega) | simpa using h_); have hx28_0 := hcc28 0 _ rfl; have hf28_0 := hfr28 0; (try simp only [Nat.add_zero] at hx28_0 hf28_0); (try rw [show ((Kd.slice 3 (Kd.int .i64))).sz = 1 from rfl, Nat.mul_one] at hx28_0); (try rw [show ((Kd.slice 3 (Kd.int .i64))).sz = 1 from rfl, Nat.mul_one] at hf28_0); have HP28 := Kd.S_seg0 HH26.out (of_decide_eq_true q7b) (by have h_ : ((ji16) : Int) < ((y273.length : Int) : Int) := of_decide_eq_true q7b; first | exact h_ | (have e_ := (HN26.out); omega) | simpa using h_) (seg := [.slice Ao30 y277.length co30]) (j := 0) (show 1 ≤ 1 from by decide) (x' := y277) (Kd.M_row HO279.out) (fun _ hk => hk); (try simp only [show ((Kd.slice 3 (Kd.int .i64))).sz = 1 from rfl, Nat.mul_one, Nat.add_zero] at HP28); clear hcc28 hfr28) | ((with_reducible refine gate_store (t := 28) (p := 45) rfl ?_); refine store_event (t := 28) (p := 45) (v := ?vo_w29) (w1 := (w27.setCell ⟨go26, ((ji16) : Int).toNat, none⟩ (.slice Ao30 y277.length co30))) ?hg ?ho ?hn ?hr ?_; (case ho => rfl); (case hg => rfl); (case hn => rfl); (case hr => first | (go_simp; done) | (go_simp; rfl)); intro w29 hw; have hg : w27.grownBy w29 (some go26) := (by rw [hw]; exact HP28.2); have hp_ : Kd.S (Kd.slice 3 (Kd.int .i64)) 28 w29 w.heap.size (fun _ => True) (.slice (some ⟨go26, 0, none⟩) y273.length co25) y280 := (by rw [hw, Ny280.out]; exact HP28.1); clear HP28; have HO275 := za (hp_); replace BK265 := (zw BK265 hg (Kd.R_ne hraw28 BK265.out (by decide))); replace BK266 := (zw BK266 hg (Kd.R_ne hraw28 BK266.out (by decide))); replace HB := za ((by rw [hw]; exact below_set HB.out GB26.out : Below w.heap.size w w29)); clear HO279 HH26 hg hw hp_ hraw28))
           go_roundg k1
           case measure => have := HK1.out; omega
           case rel => exact ⟨(y280), (wrap64 (30 - t272)), (wrap64 (x6_1 + 1)), q7c, q7c, H', ⟨by have := HK1.out; omega⟩, ⟨by (with_reducible repeat (first | apply Kd.S_alloc | apply Kd.S_drewN | apply Kd.S_drew)); exact HO275.out⟩, ⟨q7a⟩, ⟨q7a⟩, ⟨zm HB⟩⟩
          ·rw [if_neg c19] at H
           exact absurd H (by simp)
         ·rw [if_neg c18] at H
          exact absurd H (by simp)
        ·rw [if_neg c17] at H
         exact absurd H (by simp)
       ·rw [if_neg c15] at H
        exact absurd H (by simp)
      ·rw [if_neg c14] at H
       have c14b0 : decide (x5_1 < t272) = false := decide_eq_false c14
       clear c14
       obtain ⟨ji31, hji31⟩ : ∃ j_ : Int, (wrap64 ((x4_1.length : Int) - 1)) = j_ := ⟨_, rfl⟩
       replace H : (if 0 ≤ (ji31) then (if (ji31) < (x4_1.length : Int) then (if (rd_L2 x4_1 (ji31)).length < 17592186044416 then (awardingbodyref12_Make.l0 k1 (x4_1.set ((ji31) : Int).toNat ((rd_L2 x4_1 (ji31)) ++ [x6_1])) (wrap64 (x5_1 - t272)) (wrap64 (x6_1 + 1)) a0_0 a0_1 l0_2) else (none)) else (none)) else (none)) = some (r1, r2) := by first | (rw [hji31] at H; exact H) | (simp only [hji31] at H ⊢; exact H)
       (try rw [hji31] at A13)
       have hji31w : (IntKind.i64.wrap ((x4_1.length : Int) - 1)) = ji31 := (i64_w _).trans hji31
       by_cases c32 : 0 ≤ (ji31)
       ·rw [if_pos c32] at H
        have c32b0 : decide (0 ≤ (ji31)) = true := decide_eq_true c32
        clear c32
        by_cases c33 : (ji31) < (x4_1.length : Int)
        ·rw [if_pos c33] at H
         have c33b0 : decide ((ji31) < (x4_1.length : Int)) = true := decide_eq_true c33
         clear c33
         by_cases c34 : (rd_L2 x4_1 (ji31)).length < 17592186044416
         ·rw [if_pos c34] at H
          have LMc34 := za c34; clear c34
          obtain ⟨y282, hy_⟩ : ∃ y_ : List Int, y_ = ((rd_L2 x4_1 (ji31)) ++ [x6_1]) := ⟨_, rfl⟩
          replace H : (awardingbodyref12_Make.l0 k1 (x4_1.set ((ji31) : Int).toNat y282) (wrap64 (x5_1 - t272)) (wrap64 (x6_1 + 1)) a0_0 a0_1 l0_2) = some (r1, r2) := q7f
          have Ny282 := za hy_; clear hy_
          obtain ⟨y285, hy_⟩ : ∃ y_ : List (List Int), y_ = (x4_1.set ((ji31) : Int).toNat y282) := ⟨_, rfl⟩
          replace H : (awardingbodyref12_Make.l0 k1 y285 (wrap64 (x5_1 - t272)) (wrap64 (x6_1 + 1)) a0_0 a0_1 l0_2) = some (r1, r2) := q7f
          have Ny285 := za hy_; clear hy_; have H' := za H; clear H
          have hnb36 := NB265_266.out
          have hnc36 := NB266_265.out
          obtain ⟨hcz37_0, hcz37_1, hcz37_2, hfz37_0, hfz37_1, hfz37_2⟩ := z3 BK265
          have p271 : 0 ≤ (x6_1 : Int) := of_decide_eq_true q7b
          have q271 : x6_1 < (l0_2.length : Int) := of_decide_eq_true q7b
          obtain ⟨ad271, e271, hx271_0, hx271_1, hx271_2, hx271_3, hx271_4, hx271_5⟩ := at_T65 HR0_2.out x6_1 p271 q271
          cases e271
          replace hx271_0 := zx HB hx271_0
          replace hx271_1 := zx HB hx271_1
          replace hx271_2 := zx HB hx271_2
          replace hx271_3 := zx HB hx271_3
          replace hx271_4 := zx HB hx271_4
          replace hx271_5 := zx HB hx271_5
          replace p271 := eq_true p271
          replace q271 := eq_true q271
          go_wp2_with (first | ((with_reducible refine gate_callee (f := 50) rfl ?_); refine zL (some 26) Try.func50 #[.agg #[.int .i64 ((rd_T65 l0_2 x6_1).f0), .int .i64 ((rd_T65 l0_2 x6_1).f1), .int .i64 ((rd_T65 l0_2 x6_1).f2), .int .i64 ((rd_T65 l0_2 x6_1).f3), .int .i64 ((rd_T65 l0_2 x6_1).f4), .int .i64 ((rd_T65 l0_2 x6_1).f5)]] ?_; (with_reducible refine (awardingbodyref12_Need.calls k1 ((rd_T65 l0_2 x6_1).f0) ((rd_T65 l0_2 x6_1).f1) ((rd_T65 l0_2 x6_1).f2) ((rd_T65 l0_2 x6_1).f3) ((rd_T65 l0_2 x6_1).f4) ((rd_T65 l0_2 x6_1).f5) t272 _ A13.out).mono ?_); rintro e w38 ⟨rfl, hb⟩; refine ⟨_, rfl, ?_⟩; replace HO_4 := zS HO_4 hb; replace BK265 := zb BK265 hb; replace BK266 := zb BK266 hb; replace HB := zs HB hb; (try clear hb); (try clear hb2); (try clear hk); (try clear hi); obtain ⟨Ao39, co39, eo39⟩ := Kd.S_slice HO_4.out; subst eo39; have p281 : 0 ≤ ((ji31) : Int) := of_decide_eq_true q7b; have q281 : (ji31) < (x4_1.length : Int) := of_decide_eq_true q7b; obtain ⟨ad281, A281_0, c281_0, e281, hx281_0, hl281_0, hi281_0⟩ := at_L2 (Kd.S_reads' HO_4.out).2.2 (ji31) p281 q281; cases e281; obtain ⟨ce281, hce281, hMe281, hcc281⟩ := Kd.S_get HO_4.out [] (ji31) p281 (by first | exact q281 | exact of_decide_eq_true q7b | (have e_ := (Kd.S_reads' HO_4.out).1; omega)); obtain ⟨ve281_0, rfl, ge281_0⟩ := hMe281; have hv281_0 := hcc281 0 _ rfl; rw [Nat.add_zero, show ((Kd.slice 3 (Kd.int .i64))).sz = 1 from rfl, Nat.mul_one] at hv281_0; replace hv281_0 := Option.some.inj (hv281_0.symm.trans hx281_0); rw [hv281_0] at ge281_0; have HL281_0 := za (show Kd.R (Kd.int .i64) 3 _ _ _ _ (rd_L2 x4_1 (ji31)) from ge281_0); clear hv281_0 ge281_0; have HX281_0 := za hx281_0; clear hcc281 hce281; have HR281_0 := za hi281_0; have HC281_0 := za hl281_0; clear hi281_0 hl281_0; replace p281 := eq_true p281; replace q281 := eq_true q281; obtain ⟨go40, co40, eo40, gb40, gl40, cl40, HG40⟩ := Kd.S_form HO_4.out (by have h_ : ((ji31) : Int) < ((x4_1.length : Int) : Int) := of_decide_eq_true q7b; have h2_ : 0 ≤ ((ji31) : Int) := (of_decide_eq_true q7b); omega); (first | cases eo40 | (injection eo40 with ea_ en_ ec_; (first | subst ea_ | (injection ea_ with ea_; subst ea_)); subst ec_; clear en_)); have GB40 := za gb40; have GG40 := za HG40; clear gb40 gl40 HG40; (first | simp only [add_plain] at hx281_0 | skip); obtain ⟨oki40, ce40, hcl40, hM40, hcc40, _, _, hH40⟩ := Kd.S_elem HO_4.out [] ((ji31) : Int) (of_decide_eq_true q7b) (by have h_ : ((ji31) : Int) < ((x4_1.length : Int) : Int) := of_decide_eq_true q7b; first | exact h_ | (have e_ := (Kd.S_reads' HO_4.out).1; omega) | simpa using h_); obtain ⟨ve40_0, rfl, ge40_0⟩ := hM40; have hv40 := hcc40 0 _ rfl; have hX40 := HX281_0.out; (try simp only [add_plain] at hX40); (try simp only [Nat.add_zero] at hv40); (try rw [show ((Kd.slice 3 (Kd.int .i64))).sz = 1 from rfl, Nat.mul_one] at hv40); replace hv40 := Option.some.inj (hv40.symm.trans hX40); subst hv40; clear hX40 hcc40 hcl40; have UU40 := za (show Kd.R (Kd.int .i64) 3 _ w.heap.size oki40 (.slice A281_0 (rd_L2 x4_1 (ji31)).length c281_0) (rd_L2 x4_1 (ji31)) from ge40_0); have HH40 := za hH40; have HN40 := za (Kd.S_reads' HO_4.out).1; clear hH40 ge40_0) | ((with_reducible refine gate_builtin (b := .append) (xs := #[.tmp 41, .tmp 43]) rfl ?_); at_builtin; refine Kd.R_append (Kd.int .i64) (w0 := w) w.heap.size rfl (.tmp 41) (.tmp 43) 28 3 (.int .i64 0) 8 rfl Try.underlying28 info3 rfl (by decide) (by omega) (.slice A281_0 (rd_L2 x4_1 (ji31)).length c281_0) (rd_L2 x4_1 (ji31)) x6_1 [.int .i64 x6_1] (fun k_ => oki40 k_ ∨ ((fun _ => True)) k_ ∧ w38.heap.size ≤ k_) (fun _ => False) rfl rfl ?aP (fun _ hk => hk.elim) ?aF ?aO ?aB ?aS ?aL ?_; (case aP => exact rfl); (case aB => exact (zm HB)); (case aF => exact (fun k_ hk => .inr ⟨trivial, hk⟩)); (case aO => exact (by (with_reducible repeat (first | apply Kd.R_alloc | apply Kd.R_drewN | apply Kd.R_drew)); exact Kd.R_mono UU40.out (fun _ hk => .inl hk))); (case aS => exact (below_size (zm HB))); (case aL => have := LMc34.out; omega); intro v283 w41 ho hb hg hat; rw [← Ny282.out] at ho; have HO284 := za (ho); replace BK265 := (zw BK265 hg (Kd.R_ne HL281_0.out BK265.out (by decide))); replace BK266 := (zw BK266 hg (Kd.R_ne HL281_0.out BK266.out (by decide))); replace HB := za (hb); replace HH40 := za (Kd.H_grown (Kd.H_widen (by repeat (first | exact HH40.out | refine Kd.H_alloc ?_ _ | refine Kd.H_drewN ?_ _ | refine Kd.H_drew ?_))) hg (fun k_ e_ => .inl (UU40.out.1 k_ e_))); clear HO_4 UU40 HL281_0 ho hb hg hat; have p35 : 0 ≤ ((ji31) : Int) := of_decide_eq_true q7b; have q35 : ((ji31) : Int) < ((x4_1.length : Int) : Int) := of_decide_eq_true q7b; replace p35 := eq_true p35; replace q35 := eq_true q35; obtain ⟨Ao44, co44, eo44⟩ := Kd.R_slice HO284.out; subst eo44; obtain ⟨_, _, hraw42, _, _, hcc42, _⟩ := Kd.H_raw HH40.out (of_decide_eq_true q7b) (by have h_ : ((ji31) : Int) < ((x4_1.length : Int) : Int) := of_decide_eq_true q7b; first | exact h_ | (have e_ := (HN40.out); omega) | simpa using h_); obtain ⟨_, hfr42⟩ := Kd.H_at HH40.out (of_decide_eq_true q7b) (by have h_ : ((ji31) : Int) < ((x4_1.length : Int) : Int) := of_decide_eq_true q7b; first | exact h_ | (have e_ := (HN40.out); omega) | simpa using h_); have hx42_0 := hcc42 0 _ rfl; have hf42_0 := hfr42 0; (try simp only [Nat.add_zero] at hx42_0 hf42_0); (try rw [show ((Kd.slice 3 (Kd.int .i64))).sz = 1 from rfl, Nat.mul_one] at hx42_0); (try rw [show ((Kd.slice 3 (Kd.int .i64))).sz = 1 from rfl, Nat.mul_one] at hf42_0); have HP42 := Kd.S_seg0 HH40.out (of_decide_eq_true q7b) (by have h_ : ((ji31) : Int) < ((x4_1.length : Int) : Int) := of_decide_eq_true q7b; first | exact h_ | (have e_ := (HN40.out); omega) | simpa using h_) (seg := [.slice Ao44 y282.length co44]) (j := 0) (show 1 ≤ 1 from by decide) (x' := y282) (Kd.M_row HO284.out) (fun _ hk => hk); (try simp only [show ((Kd.slice 3 (Kd.int .i64))).sz = 1 from rfl, Nat.mul_one, Nat.add_zero] at HP42); clear hcc42 hfr42) | ((with_reducible refine gate_store (t := 28) (p := 45) rfl ?_); refine store_event (t := 28) (p := 45) (v := ?vo_w43) (w1 := (w41.setCell ⟨go40, ((ji31) : Int).toNat, none⟩ (.slice Ao44 y282.length co44))) ?hg ?ho ?hn ?hr ?_; (case ho => rfl); (case hg => rfl); (case hn => rfl); (case hr => first | (go_simp; done) | (go_simp; rfl)); intro w43 hw; have hg : w41.grownBy w43 (some go40) := (by rw [hw]; exact HP42.2); have hp_ : Kd.S (Kd.slice 3 (Kd.int .i64)) 28 w43 w.heap.size (fun _ => True) (.slice (some ⟨go40, 0, none⟩) x4_1.length co39) y285 := (by rw [hw, Ny285.out]; exact HP42.1); clear HP42; have HO_4 := za (hp_); replace BK265 := (zw BK265 hg (Kd.R_ne hraw42 BK265.out (by decide))); replace BK266 := (zw BK266 hg (Kd.R_ne hraw42 BK266.out (by decide))); replace HB := za ((by rw [hw]; exact below_set HB.out GB40.out : Below w.heap.size w w43)); clear HO284 HH40 hg hw hp_ hraw42))
          go_roundg k1
          case measure => have := HK1.out; omega
          case rel => exact ⟨(y285), (wrap64 (x5_1 - t272)), (wrap64 (x6_1 + 1)), q7c, q7c, H', ⟨by have := HK1.out; omega⟩, ⟨by (with_reducible repeat (first | apply Kd.S_alloc | apply Kd.S_drewN | apply Kd.S_drew)); exact HO_4.out⟩, ⟨q7a⟩, ⟨q7a⟩, ⟨zm HB⟩⟩
         ·rw [if_neg c34] at H
          exact absurd H (by simp)
        ·rw [if_neg c33] at H
         exact absurd H (by simp)
       ·rw [if_neg c32] at H
        exact absurd H (by simp)
     ·rw [if_neg c12] at H
      exact absurd H (by simp)
    ·rw [if_neg c11] at H
     have c11b0 : decide (x6_1 < (l0_2.length : Int)) = false := decide_eq_false c11
     clear c11; have H' := za H; clear H
     have hnb45 := NB265_266.out
     have hnc45 := NB266_265.out
     obtain ⟨hcz46_0, hcz46_1, hcz46_2, hfz46_0, hfz46_1, hfz46_2⟩ := z3 BK265
     go_wp2
     go_loopg [4] k1 (fun kq v4 w' => ∃ (x4_2 : List (List Int)), Aside0 (awardingbodyref12_Make.l1 kq x4_2 = some (r1, r2)) ∧ Aside0 (kq ≤ k1) ∧ Aside0 (Kd.S (Kd.slice 3 (Kd.int .i64)) 28 w' w.heap.size (fun _ => True) v4 x4_2) ∧ Aside0 (w'.heap[gb265]? = some (.cells #[.int .i64 a0_0, .int .i64 a0_1, (.slice A0_2 l0_2.length c0_2)] 53 (0, 0))) ∧ Aside0 (w'.heap[gb266]? = some (.cells #[(.slice none 0 0)] 56 (0, 0))) ∧ Aside0 (Below w.heap.size w w'))
     case atStart => exact ⟨(x4_1), H', ⟨Nat.le_refl _⟩, ⟨by (with_reducible repeat (first | apply Kd.S_alloc | apply Kd.S_drewN | apply Kd.S_drew)); exact HO_4.out⟩, ⟨q7a⟩, ⟨q7a⟩, ⟨zm HB⟩⟩
     case round =>
      clear H'; (try clear c1); (try clear c2); (try clear p2); (try clear q2); (try clear hx2); (try clear hf2); (try clear c3); (try clear p3); (try clear q3); (try clear c4); (try clear hx4); (try clear hf4); (try clear c5); (try clear c6); (try clear p6); (try clear c11); (try clear c11b0); (try clear c12); (try clear c12b0); (try clear c14); (try clear c14b0); (try clear c15); (try clear c17); (try clear c17b0); (try clear c18); (try clear c18b0); (try clear c19); (try clear p20); (try clear q20); (try clear c21); (try clear c26); (try clear c27); (try clear p27); (try clear q27); (try clear hx27); (try clear c28); (try clear p28); (try clear q28); (try clear hx28); (try clear hf28); (try clear c29); (try clear c32); (try clear c32b0); (try clear c33); (try clear c33b0); (try clear c34); (try clear p35); (try clear q35); (try clear c36); (try clear c40); (try clear c42); (try clear hx42); (try clear hf42); (try clear c45); (try clear hcz22_0); (try clear hcz22_1); (try clear hcz22_2); (try clear hcz37_0); (try clear hcz37_1); (try clear hcz37_2); (try clear hcz46_0); (try clear hcz46_1); (try clear hcz46_2); (try clear hcz7_0); (try clear hcz7_1); (try clear hcz7_2); (try clear hfz22_0); (try clear hfz22_1); (try clear hfz22_2); (try clear hfz37_0); (try clear hfz37_1); (try clear hfz37_2); (try clear hfz46_0); (try clear hfz46_1); (try clear hfz46_2); (try clear hfz7_0); (try clear hfz7_1); (try clear hfz7_2); (try clear hx271_0); (try clear hx271_1); (try clear hx271_2); (try clear hx271_3); (try clear hx271_4); (try clear hx271_5); (try clear hx276_0); (try clear hx281_0); (try clear hx28_0); (try clear hx42_0); (try clear p2); (try clear p20); (try clear p271); (try clear p276); (try clear p281); (try clear p35); (try clear q20); (try clear q271); (try clear q276); (try clear q281); (try clear q35)
      obtain ⟨x4_2, HA, HK2, HO_4, BK265, BK266, HB⟩ := hrel
      cases gk with
      | zero => exact absurd HA.out (by simp [awardingbodyref12_Make.l1])
      | succ k2 =>
       have H := HA.out
       clear HA
       simp only [awardingbodyref12_Make.l1] at H
       by_cases c47 : ((x4_2.length : Int) % 4) = 0
       ·rw [if_pos c47] at H
        have c47b0 : (((x4_2.length : Int) % 4) == 0) = true := beq_iff_eq.mpr c47
        have c47b1 : (((x4_2.length : Int) % 4) != 0) = false := bne_eq_false_iff_eq.mpr c47
        clear c47
        by_cases c48 : (x4_2.length : Int) > 12
        ·rw [if_pos c48] at H
         have c48b0 : decide (12 < (x4_2.length : Int)) = true := decide_eq_true c48
         have c48b1 : decide (12 < x4_2.length) = true := decide_eq_true (by omega)
         clear c48
         simp only [Option.some.injEq, Prod.mk.injEq] at H
         obtain ⟨rfl, rfl⟩ := H
         obtain ⟨Ao49, co49, eo49⟩ := Kd.S_slice HO_4.out
         subst eo49
         have hnb50 := NB266_265.out
         have hnc50 := NB265_266.out
         obtain ⟨hcz51_0, hfz51_0⟩ := z1 BK266
         go_wp2
         refine bodyPost_ret (results_ct rfl _ _ gb266 56 #[.slice none 0 0] (0, 0) _ rfl q7d Try.underlying56 rfl (by kernel_rfl)) rfl ?_
         exact ⟨_, zf, by first | exact Kd.S_nil _ _ _ _ _ | exact Kd.N_nil _ _ _ _ _ | exact Kd.V_nil _ _ _ _ _ | exact Kd.Q_nil _ _ _ _ _ | exact Kd.R_nil _ _ _ _ _, zm HB⟩
        ·rw [if_neg c48] at H
         have c48b0 : decide (12 < (x4_2.length : Int)) = false := decide_eq_false c48
         have c48b1 : decide (12 < x4_2.length) = false := decide_eq_false (by omega)
         clear c48
         simp only [Option.some.injEq, Prod.mk.injEq] at H
         obtain ⟨rfl, rfl⟩ := H
         obtain ⟨Ao52, co52, eo52⟩ := Kd.S_slice HO_4.out
         subst eo52
         have hnb53 := NB266_265.out
         have hnc53 := NB265_266.out
         obtain ⟨hcz54_0, hfz54_0⟩ := z1 BK266
         go_wp2
         refine bodyPost_ret (results_ct rfl _ _ gb266 56 #[.slice Ao52 x4_2.length co52] (0, 0) _ rfl q7d Try.underlying56 rfl (by kernel_rfl)) rfl ?_
         exact ⟨_, zf, by (with_reducible repeat (first | apply Kd.S_alloc | apply Kd.S_drewN | apply Kd.S_drew)); exact Kd.S_mono (Kd.S_far (p := ⟨gb266, 0, none⟩) (Kd.S_types HO_4.out BK266.out (by decide)) (fun _ hk => hk.2) (.slice Ao52 x4_2.length co52)) (fun _ hk => trivial), zm HB⟩
       ·rw [if_neg c47] at H
        have c47b0 : (((x4_2.length : Int) % 4) == 0) = false := beq_eq_false_iff_ne.mpr c47
        have c47b1 : (((x4_2.length : Int) % 4) != 0) = true := bne_iff_ne.mpr c47
        by_cases c55 : x4_2.length < 5864062014805
        ·rw [if_pos c55] at H
         have LMc55 := za c55; clear c55
         obtain ⟨y286, hy_⟩ : ∃ y_ : List (List Int), y_ = (x4_2 ++ [[]]) := ⟨_, rfl⟩
         replace H : (awardingbodyref12_Make.l1 k2 y286) = some (r1, r2) := q7f
         have Ny286 := za hy_; clear hy_; have H' := za H; clear H
         obtain ⟨Ao56, co56, eo56⟩ := Kd.S_slice HO_4.out
         subst eo56
         go_wp2_with (first | ((with_reducible refine gate_builtin (b := .append) (xs := #[.tmp 53, .tmp 54]) rfl ?_); at_builtin; refine Kd.S_append (Kd.slice 3 (Kd.int .i64)) (w0 := w) w.heap.size rfl (.tmp 53) (.tmp 54) 47 28 (.slice none 0 0) 24 rfl Try.underlying47 info28 rfl (by decide) (by omega) (.slice Ao56 x4_2.length co56) x4_2 ([] : List Int) [.slice none 0 0] (fun _ => True) (fun _ => False) rfl rfl ?aP (fun k_ hk_ => hk_.elim) ?aF ?aO ?aB ?aS ?aL ?_; (case aP => exact Kd.M_row (Kd.R_nil _ _ _ _ _)); (case aB => exact (zm HB)); (case aF => exact (fun _ _ => trivial)); (case aO => exact q7e); (case aS => exact (below_size (zm HB))); (case aL => have := LMc55.out; omega); intro v287 w57 ho hb hg hat; rw [← Ny286.out] at ho; have HO288 := za (ho); replace BK265 := (zw BK265 hg (Kd.S_ne HO_4.out BK265.out (by decide))); replace BK266 := (zw BK266 hg (Kd.S_ne HO_4.out BK266.out (by decide))); replace HB := za (hb); clear HO_4 ho hb hg hat))
         go_roundg k2
         case measure => have := HK1.out; have := HK2.out; omega
         case rel => exact ⟨(y286), H', ⟨by have := HK1.out; have := HK2.out; omega⟩, ⟨by (with_reducible repeat (first | apply Kd.S_alloc | apply Kd.S_drewN | apply Kd.S_drew)); exact HO288.out⟩, ⟨q7a⟩, ⟨q7a⟩, ⟨zm HB⟩⟩
        ·rw [if_neg c55] at H
         exact absurd H (by simp)
 ·replace c3 := Bool.eq_false_iff.mpr c3
  subst c3
  have H1 : (some (([] : List (List Int)), 1)) = some (r1, r2) := by rw [if_neg (show ¬ (false = true) by decide)] at H; exact H
  clear H; have H := H1; clear H1
  simp only [Option.some.injEq, Prod.mk.injEq] at H
  obtain ⟨rfl, rfl⟩ := H
  go_enter Try.func29, Try.ntmps29
  go_wp2_with (first | ((with_reducible refine gate_dst (N := 1) rfl ?_); refine zE 1 #[.int .i64 a0_0, .int .i64 a0_1, .slice A0_2 l0_2.length c0_2] 53 ?_; intro gb265 hg w58 hbox hb; have BK265 := za (hbox); have GW265 := zg HB hg; have GE265 := zg HB hg; replace HB := zs HB hb; clear hb hbox hg) | ((with_reducible refine gate_dst (N := 2) rfl ?_); refine zE 2 #[.slice none 0 0] 56 ?_; intro gb266 hg w59 hbox hb; have BK266 := za (hbox); have GW266 := zg HB hg; have GE266 := zg HB hg; have NB265_266 := zl BK265 hg; have NB266_265 := zr BK265 hg; replace BK265 := zb BK265 hb; replace HB := zs HB hb; clear hb hbox hg; have hnb60 := NB265_266.out; have hnc60 := NB266_265.out; obtain ⟨hcz61_0, hcz61_1, hcz61_2, hfz61_0, hfz61_1, hfz61_2⟩ := z3 BK265) | ((with_reducible refine gate_callee (f := 49) rfl ?_); refine zL (some 10) Try.func49 #[.agg #[.int .i64 a0_0, .int .i64 a0_1, .slice A0_2 l0_2.length c0_2]] ?_; (with_reducible refine (awardingbodyref06_ValidPaper.calls k a0_0 a0_1 _ _ l0_2 false _ ?side1 ?side2 A2.out).mono ?_); (case side1 => exact zC HR0_2 HB); (case side2 => exact HC0_2.out); rintro e w62 ⟨rfl, hb⟩; refine ⟨_, rfl, ?_⟩; replace BK265 := zb BK265 hb; replace BK266 := zb BK266 hb; replace HB := zs HB hb; (try clear hb); (try clear hb2); (try clear hk); (try clear hi); obtain ⟨hcz63_0, hfz63_0⟩ := z1 BK266))
  refine bodyPost_ret (results_ct rfl _ _ gb266 56 #[.slice none 0 0] (0, 0) _ rfl q7d Try.underlying56 rfl (by kernel_rfl)) rfl ?_
  exact ⟨_, zf, by first | exact Kd.S_nil _ _ _ _ _ | exact Kd.N_nil _ _ _ _ _ | exact Kd.V_nil _ _ _ _ _ | exact Kd.Q_nil _ _ _ _ _ | exact Kd.R_nil _ _ _ _ _, zm HB⟩

/-! ### awardingbodyref12_Valid: function 51 -/
mutual
def awardingbodyref12_Valid.j0 : Nat → Bool → Int → Int → List (S65) → List (List Int) → Option (Bool)
  | 0, _, _, _, _, _ => none
  | k + 1, x38, x290000, x290001, x290002, x291000 => if x38 = true then (some false) else (awardingbodyref12_Valid.l0 k 0 0 x290000 x290001 x290002 x291000)
def awardingbodyref12_Valid.l0 : Nat → Int → Int → Int → Int → List (S65) → List (List Int) → Option (Bool)
  | 0, _, _, _, _, _, _ => none
  | k + 1, x5, x6, x290000, x290001, x290002, x291000 => if x6 < (x291000.length : Int) then (awardingbodyref12_Valid.l1 k x5 x6 0 0 x290000 x290001 x290002 x291000) else (some (x5 == (x290002.length : Int)))
def awardingbodyref12_Valid.l1 : Nat → Int → Int → Int → Int → Int → Int → List (S65) → List (List Int) → Option (Bool)
  | 0, _, _, _, _, _, _, _, _ => none
  | k + 1, x5, x6, x7, x8, x290000, x290001, x290002, x291000 => if 0 ≤ x6 then (if x6 < (x291000.length : Int) then (if x8 < ((rd_L2 x291000 x6).length : Int) then (if x5 ≥ (x290002.length : Int) then (some false) else (if 0 ≤ x8 then (if (rd (rd_L2 x291000 x6) x8) = x5 then (if 0 ≤ x5 then (if x5 < (x290002.length : Int) then ((awardingbodyref12_Need.f k ((rd_T65 x290002 x5).f0) ((rd_T65 x290002 x5).f1) ((rd_T65 x290002 x5).f2) ((rd_T65 x290002 x5).f3) ((rd_T65 x290002 x5).f4) ((rd_T65 x290002 x5).f5)).bind fun t297 => (awardingbodyref12_Valid.l1 k (wrap64 (x5 + 1)) x6 (wrap64 (x7 + t297)) (wrap64 (x8 + 1)) x290000 x290001 x290002 x291000)) else (none)) else (none)) else (some false)) else (none))) else (if x7 > 30 then (some false) else (awardingbodyref12_Valid.l0 k x5 (wrap64 (x6 + 1)) x290000 x290001 x290002 x291000))) else (none)) else (none)
end
def awardingbodyref12_Valid.f (k : Nat) (a0_0 : Int) (a0_1 : Int) (l0_2 : List (S65)) (l1_0 : List (List Int)) : Option (Bool) := (awardingbodyref06_ValidPaper.f k a0_0 a0_1 l0_2).bind fun t291 => (if t291 = true then (if (l1_0.length : Int) < 1 then (awardingbodyref12_Valid.j0 k true a0_0 a0_1 l0_2 l1_0) else (if (l1_0.length : Int) > 12 then (awardingbodyref12_Valid.j0 k true a0_0 a0_1 l0_2 l1_0) else (if ((l1_0.length : Int) % 4) = 0 then (if 0 < (l1_0.length : Int) then (awardingbodyref12_Valid.j0 k (decide (((rd_L2 l1_0 0).length : Int) > 0)) a0_0 a0_1 l0_2 l1_0) else (none)) else (awardingbodyref12_Valid.j0 k true a0_0 a0_1 l0_2 l1_0)))) else (awardingbodyref12_Valid.j0 k true a0_0 a0_1 l0_2 l1_0))
theorem awardingbodyref12_Valid.mono_l : ∀ k, (∀ y0 y1 y2 y3 y4, LeO (awardingbodyref12_Valid.j0 k y0 y1 y2 y3 y4) (awardingbodyref12_Valid.j0 (k + 1) y0 y1 y2 y3 y4)) ∧ (∀ y0 y1 y2 y3 y4 y5, LeO (awardingbodyref12_Valid.l0 k y0 y1 y2 y3 y4 y5) (awardingbodyref12_Valid.l0 (k + 1) y0 y1 y2 y3 y4 y5)) ∧ (∀ y0 y1 y2 y3 y4 y5 y6 y7, LeO (awardingbodyref12_Valid.l1 k y0 y1 y2 y3 y4 y5 y6 y7) (awardingbodyref12_Valid.l1 (k + 1) y0 y1 y2 y3 y4 y5 y6 y7))
  | 0 => ⟨fun _ _ _ _ _ r h => by simp [awardingbodyref12_Valid.j0] at h, fun _ _ _ _ _ _ r h => by simp [awardingbodyref12_Valid.l0] at h, fun _ _ _ _ _ _ _ _ r h => by simp [awardingbodyref12_Valid.l1] at h⟩
  | k + 1 => by
    obtain ⟨ih0, ih1, ih2⟩ := awardingbodyref12_Valid.mono_l k
    refine ⟨?_, ?_, ?_⟩
    · intro y0 y1 y2 y3 y4
      unfold awardingbodyref12_Valid.j0
      repeat' first
      | (with_reducible exact ih0 _ _ _ _ _)
      | (with_reducible exact ih1 _ _ _ _ _ _)
      | (with_reducible exact ih2 _ _ _ _ _ _ _ _)
      | (with_reducible exact awardingbodyref06_ValidPaper.mono _ _ _ _)
      | (with_reducible exact awardingbodyref12_Need.mono _ _ _ _ _ _ _)
      | (with_reducible exact LeO.refl _)
      | (with_reducible exact LeO.none _)
      | (with_reducible refine LeO.ite ?_ ?_)
      | (with_reducible refine LeO.bind ?_ (fun _ => ?_))
      | exact ih0 _ _ _ _ _
      | exact ih1 _ _ _ _ _ _
      | exact ih2 _ _ _ _ _ _ _ _
      | exact awardingbodyref06_ValidPaper.mono _ _ _ _
      | exact awardingbodyref12_Need.mono _ _ _ _ _ _ _
      | exact LeO.none _
      | refine LeO.ite ?_ ?_
      | refine LeO.bind ?_ (fun _ => ?_)
    · intro y0 y1 y2 y3 y4 y5
      unfold awardingbodyref12_Valid.l0
      repeat' first
      | (with_reducible exact ih0 _ _ _ _ _)
      | (with_reducible exact ih1 _ _ _ _ _ _)
      | (with_reducible exact ih2 _ _ _ _ _ _ _ _)
      | (with_reducible exact awardingbodyref06_ValidPaper.mono _ _ _ _)
      | (with_reducible exact awardingbodyref12_Need.mono _ _ _ _ _ _ _)
      | (with_reducible exact LeO.refl _)
      | (with_reducible exact LeO.none _)
      | (with_reducible refine LeO.ite ?_ ?_)
      | (with_reducible refine LeO.bind ?_ (fun _ => ?_))
      | exact ih0 _ _ _ _ _
      | exact ih1 _ _ _ _ _ _
      | exact ih2 _ _ _ _ _ _ _ _
      | exact awardingbodyref06_ValidPaper.mono _ _ _ _
      | exact awardingbodyref12_Need.mono _ _ _ _ _ _ _
      | exact LeO.none _
      | refine LeO.ite ?_ ?_
      | refine LeO.bind ?_ (fun _ => ?_)
    · intro y0 y1 y2 y3 y4 y5 y6 y7
      unfold awardingbodyref12_Valid.l1
      repeat' first
      | (with_reducible exact ih0 _ _ _ _ _)
      | (with_reducible exact ih1 _ _ _ _ _ _)
      | (with_reducible exact ih2 _ _ _ _ _ _ _ _)
      | (with_reducible exact awardingbodyref06_ValidPaper.mono _ _ _ _)
      | (with_reducible exact awardingbodyref12_Need.mono _ _ _ _ _ _ _)
      | (with_reducible exact LeO.refl _)
      | (with_reducible exact LeO.none _)
      | (with_reducible refine LeO.ite ?_ ?_)
      | (with_reducible refine LeO.bind ?_ (fun _ => ?_))
      | exact ih0 _ _ _ _ _
      | exact ih1 _ _ _ _ _ _
      | exact ih2 _ _ _ _ _ _ _ _
      | exact awardingbodyref06_ValidPaper.mono _ _ _ _
      | exact awardingbodyref12_Need.mono _ _ _ _ _ _ _
      | exact LeO.none _
      | refine LeO.ite ?_ ?_
      | refine LeO.bind ?_ (fun _ => ?_)
theorem awardingbodyref12_Valid.mono : ∀ a0 a1 a2 a3 k, LeO (awardingbodyref12_Valid.f k a0 a1 a2 a3) (awardingbodyref12_Valid.f (k + 1) a0 a1 a2 a3) := by
  intro a0 a1 a2 a3 k
  obtain ⟨ih0, ih1, ih2⟩ := awardingbodyref12_Valid.mono_l k
  unfold awardingbodyref12_Valid.f
  repeat' first
      | (with_reducible exact ih0 _ _ _ _ _)
      | (with_reducible exact ih1 _ _ _ _ _ _)
      | (with_reducible exact ih2 _ _ _ _ _ _ _ _)
      | (with_reducible exact awardingbodyref06_ValidPaper.mono _ _ _ _)
      | (with_reducible exact awardingbodyref12_Need.mono _ _ _ _ _ _ _)
      | (with_reducible exact LeO.refl _)
      | (with_reducible exact LeO.none _)
      | (with_reducible refine LeO.ite ?_ ?_)
      | (with_reducible refine LeO.bind ?_ (fun _ => ?_))
      | exact ih0 _ _ _ _ _
      | exact ih1 _ _ _ _ _ _
      | exact ih2 _ _ _ _ _ _ _ _
      | exact awardingbodyref06_ValidPaper.mono _ _ _ _
      | exact awardingbodyref12_Need.mono _ _ _ _ _ _ _
      | exact LeO.none _
      | refine LeO.ite ?_ ?_
      | refine LeO.bind ?_ (fun _ => ?_)
set_option maxHeartbeats 8000000 in
set_option maxRecDepth 100000 in
theorem awardingbodyref12_Valid.calls (k : Nat) (a0_0 : Int) (a0_1 : Int) (A0_2 : Option Addr) (c0_2 : Nat) (l0_2 : List (S65)) (A1_0 : Option Addr) (c1_0 : Nat) (l1_0 : List (List Int)) (r : Bool) (w : World) (hr0_2 : Kd.C k65 w A0_2 l0_2.length l0_2) (hc0_2 : l0_2.length ≤ c0_2) (hr1_0 : Kd.C (Kd.slice 3 (Kd.int .i64)) w A1_0 l1_0.length l1_0) (hc1_0 : l1_0.length ≤ c1_0) (h : awardingbodyref12_Valid.f k a0_0 a0_1 l0_2 l1_0 = some r) :
    Calls Try.prog 51 #[.agg #[.int .i64 a0_0, .int .i64 a0_1, .slice A0_2 l0_2.length c0_2], .agg #[.slice A1_0 l1_0.length c1_0]] w fun e w' => e = .returned (.bool r) ∧ Below w.heap.size w w' := by
 have hu53 := Try.underlying53
 have hu56 := Try.underlying56
 have hu65 := Try.underlying65
 have HR0_2 := za hr0_2; have HC0_2 := za hc0_2; clear hr0_2 hc0_2; have HR1_0 := za hr1_0; have HC1_0 := za hc1_0; clear hr1_0 hc1_0
 have HB := za (Below.refl w.heap.size w)
 have H : ((awardingbodyref06_ValidPaper.f k a0_0 a0_1 l0_2).bind fun t291 => (if t291 = true then (if (l1_0.length : Int) < 1 then (awardingbodyref12_Valid.j0 k true a0_0 a0_1 l0_2 l1_0) else (if (l1_0.length : Int) > 12 then (awardingbodyref12_Valid.j0 k true a0_0 a0_1 l0_2 l1_0) else (if ((l1_0.length : Int) % 4) = 0 then (if 0 < (l1_0.length : Int) then (awardingbodyref12_Valid.j0 k (decide (((rd_L2 l1_0 0).length : Int) > 0)) a0_0 a0_1 l0_2 l1_0) else (none)) else (awardingbodyref12_Valid.j0 k true a0_0 a0_1 l0_2 l1_0)))) else (awardingbodyref12_Valid.j0 k true a0_0 a0_1 l0_2 l1_0))) = some r := h
 clear h; have HC3 := za H; clear H
 go_enter Try.func51, Try.ntmps51
 go_upto_region 1 with (first | ((with_reducible refine gate_dst (N := 2) rfl ?_); (try (refine gate_guard (by rfl) ?_; dsimp only)); refine zE 2 #[.int .i64 a0_0, .int .i64 a0_1, .slice A0_2 l0_2.length c0_2] 53 ?_; intro gb289 hg w4 hbox hb; have BK289 := za (hbox); have GW289 := zg HB hg; have GE289 := zg HB hg; replace HB := zs HB hb; clear hb hbox hg) | ((with_reducible refine gate_dst (N := 3) rfl ?_); (try (refine gate_guard (by rfl) ?_; dsimp only)); refine zE 3 #[.slice A1_0 l1_0.length c1_0] 56 ?_; intro gb290 hg w5 hbox hb; have BK290 := za (hbox); have GW290 := zg HB hg; have GE290 := zg HB hg; have NB289_290 := zl BK289 hg; have NB290_289 := zr BK289 hg; replace BK289 := zb BK289 hb; replace HB := zs HB hb; clear hb hbox hg))
 (try simp only [Act.put, List.setIfInBounds_toArray, List.set_cons_zero, List.set_cons_succ])
 go_cut [38] (fun v38 wc => ∃ (kq : Nat) (x38_2 : Bool), v38 = .bool x38_2 ∧ Aside0 (awardingbodyref12_Valid.j0 kq x38_2 a0_0 a0_1 l0_2 l1_0 = some r) ∧ Aside0 (kq ≤ k) ∧ Aside0 (wc.heap[gb289]? = some (.cells #[.int .i64 a0_0, .int .i64 a0_1, (.slice A0_2 l0_2.length c0_2)] 53 (0, 0))) ∧ Aside0 (wc.heap[gb290]? = some (.cells #[(.slice A1_0 l1_0.length c1_0)] 56 (0, 0))) ∧ Aside0 (Below w.heap.size w wc))
 case first =>
  have H := HC3.out
  clear HC3
  replace H := Option.bind_eq_some_iff.mp H
  obtain ⟨t291, A60, H⟩ := H
  replace H : (if t291 = true then (if (l1_0.length : Int) < 1 then (awardingbodyref12_Valid.j0 k true a0_0 a0_1 l0_2 l1_0) else (if (l1_0.length : Int) > 12 then (awardingbodyref12_Valid.j0 k true a0_0 a0_1 l0_2 l1_0) else (if ((l1_0.length : Int) % 4) = 0 then (if 0 < (l1_0.length : Int) then (awardingbodyref12_Valid.j0 k (decide (((rd_L2 l1_0 0).length : Int) > 0)) a0_0 a0_1 l0_2 l1_0) else (none)) else (awardingbodyref12_Valid.j0 k true a0_0 a0_1 l0_2 l1_0)))) else (awardingbodyref12_Valid.j0 k true a0_0 a0_1 l0_2 l1_0)) = some r := H
  have A6 := za A60; clear A60
  by_cases c7 : t291 = true
  ·subst c7
   have H1 : (if (l1_0.length : Int) < 1 then (awardingbodyref12_Valid.j0 k true a0_0 a0_1 l0_2 l1_0) else (if (l1_0.length : Int) > 12 then (awardingbodyref12_Valid.j0 k true a0_0 a0_1 l0_2 l1_0) else (if ((l1_0.length : Int) % 4) = 0 then (if 0 < (l1_0.length : Int) then (awardingbodyref12_Valid.j0 k (decide (((rd_L2 l1_0 0).length : Int) > 0)) a0_0 a0_1 l0_2 l1_0) else (none)) else (awardingbodyref12_Valid.j0 k true a0_0 a0_1 l0_2 l1_0)))) = some r := by rw [if_pos rfl] at H; exact H
   clear H; have H := H1; clear H1
   by_cases c8 : (l1_0.length : Int) < 1
   ·rw [if_pos c8] at H
    have c8b0 : decide ((l1_0.length : Int) < 1) = true := decide_eq_true c8
    have c8b1 : decide (l1_0.length < 1) = true := decide_eq_true (by omega)
    clear c8
    (first | rw [c8b0] | (simp only [i64_w, i32_w]; rw [c8b0]) | skip)
    have H' := za H; clear H
    have hnb9 := NB289_290.out
    have hnc9 := NB290_289.out
    obtain ⟨hcz10_0, hcz10_1, hcz10_2, hfz10_0, hfz10_1, hfz10_2⟩ := z3 BK289
    go_wp2_with (first | ((with_reducible refine gate_callee (f := 49) rfl ?_); refine zL (some 10) Try.func49 #[.agg #[.int .i64 a0_0, .int .i64 a0_1, .slice A0_2 l0_2.length c0_2]] ?_; (with_reducible refine (awardingbodyref06_ValidPaper.calls k a0_0 a0_1 _ _ l0_2 true _ ?side1 ?side2 A6.out).mono ?_); (case side1 => exact zC HR0_2 HB); (case side2 => exact HC0_2.out); rintro e w11 ⟨rfl, hb⟩; refine ⟨_, rfl, ?_⟩; replace BK289 := zb BK289 hb; replace BK290 := zb BK290 hb; replace HB := zs HB hb; (try clear hb); (try clear hb2); (try clear hk); (try clear hi); obtain ⟨hcz12_0, hfz12_0⟩ := z1 BK290))
    go_meet
    case rel => exact ⟨_, (true), q7c, H', ⟨by first | omega | exact Nat.le_refl _⟩, ⟨q7a⟩, ⟨q7a⟩, ⟨zm HB⟩⟩
   ·rw [if_neg c8] at H
    have c8b0 : decide ((l1_0.length : Int) < 1) = false := decide_eq_false c8
    have c8b1 : decide (l1_0.length < 1) = false := decide_eq_false (by omega)
    clear c8
    (first | rw [c8b0] | (simp only [i64_w, i32_w]; rw [c8b0]) | skip)
    by_cases c13 : (l1_0.length : Int) > 12
    ·rw [if_pos c13] at H
     have c13b0 : decide (12 < (l1_0.length : Int)) = true := decide_eq_true c13
     have c13b1 : decide (12 < l1_0.length) = true := decide_eq_true (by omega)
     clear c13; have H' := za H; clear H
     have hnb14 := NB289_290.out
     have hnc14 := NB290_289.out
     obtain ⟨hcz15_0, hcz15_1, hcz15_2, hfz15_0, hfz15_1, hfz15_2⟩ := z3 BK289
     go_wp2_with (first | ((with_reducible refine gate_callee (f := 49) rfl ?_); refine zL (some 10) Try.func49 #[.agg #[.int .i64 a0_0, .int .i64 a0_1, .slice A0_2 l0_2.length c0_2]] ?_; (with_reducible refine (awardingbodyref06_ValidPaper.calls k a0_0 a0_1 _ _ l0_2 true _ ?side1 ?side2 A6.out).mono ?_); (case side1 => exact zC HR0_2 HB); (case side2 => exact HC0_2.out); rintro e w16 ⟨rfl, hb⟩; refine ⟨_, rfl, ?_⟩; replace BK289 := zb BK289 hb; replace BK290 := zb BK290 hb; replace HB := zs HB hb; (try clear hb); (try clear hb2); (try clear hk); (try clear hi); obtain ⟨hcz17_0, hfz17_0⟩ := z1 BK290))
     go_meet
     case rel => exact ⟨_, (true), q7c, H', ⟨by first | omega | exact Nat.le_refl _⟩, ⟨q7a⟩, ⟨q7a⟩, ⟨zm HB⟩⟩
    ·rw [if_neg c13] at H
     have c13b0 : decide (12 < (l1_0.length : Int)) = false := decide_eq_false c13
     have c13b1 : decide (12 < l1_0.length) = false := decide_eq_false (by omega)
     clear c13
     by_cases c18 : ((l1_0.length : Int) % 4) = 0
     ·rw [if_pos c18] at H
      have c18b0 : (((l1_0.length : Int) % 4) == 0) = true := beq_iff_eq.mpr c18
      have c18b1 : (((l1_0.length : Int) % 4) != 0) = false := bne_eq_false_iff_eq.mpr c18
      clear c18
      by_cases c19 : 0 < (l1_0.length : Int)
      ·rw [if_pos c19] at H
       have c19b0 : decide (0 < (l1_0.length : Int)) = true := decide_eq_true c19
       have c19b1 : decide (0 < l1_0.length) = true := decide_eq_true (by omega)
       clear c19; have H' := za H; clear H
       have hnb20 := NB289_290.out
       have hnc20 := NB290_289.out
       obtain ⟨hcz21_0, hcz21_1, hcz21_2, hfz21_0, hfz21_1, hfz21_2⟩ := z3 BK289
       go_wp2_with (first | ((with_reducible refine gate_callee (f := 49) rfl ?_); refine zL (some 10) Try.func49 #[.agg #[.int .i64 a0_0, .int .i64 a0_1, .slice A0_2 l0_2.length c0_2]] ?_; (with_reducible refine (awardingbodyref06_ValidPaper.calls k a0_0 a0_1 _ _ l0_2 true _ ?side1 ?side2 A6.out).mono ?_); (case side1 => exact zC HR0_2 HB); (case side2 => exact HC0_2.out); rintro e w22 ⟨rfl, hb⟩; refine ⟨_, rfl, ?_⟩; replace BK289 := zb BK289 hb; replace BK290 := zb BK290 hb; replace HB := zs HB hb; (try clear hb); (try clear hb2); (try clear hk); (try clear hi); obtain ⟨hcz23_0, hfz23_0⟩ := z1 BK290; have p292 : 0 ≤ (0 : Int) := (by omega); have q292 : 0 < (l1_0.length : Int) := of_decide_eq_true q7b; obtain ⟨ad292, A292_0, c292_0, e292, hx292_0, hl292_0, hi292_0⟩ := at_L2 HR1_0.out 0 p292 q292; cases e292; have qi292 : (0 < l1_0.length) = True := eq_true (by omega); (try rw [show ((0 : Int)).toNat = 0 from rfl] at hx292_0); (try rw [Addr.add_zero'] at hx292_0); replace hx292_0 := zx HB hx292_0; have HR292_0 := za hi292_0; have HC292_0 := za hl292_0; clear hi292_0 hl292_0; replace p292 := eq_true p292; replace q292 := eq_true q292))
       go_meet
       case rel => exact ⟨_, (decide (((rd_L2 l1_0 0).length : Int) > 0)), q7c, H', ⟨by first | omega | exact Nat.le_refl _⟩, ⟨q7a⟩, ⟨q7a⟩, ⟨zm HB⟩⟩
      ·rw [if_neg c19] at H
       exact absurd H (by simp)
     ·rw [if_neg c18] at H
      have c18b0 : (((l1_0.length : Int) % 4) == 0) = false := beq_eq_false_iff_ne.mpr c18
      have c18b1 : (((l1_0.length : Int) % 4) != 0) = true := bne_iff_ne.mpr c18
      have H' := za H; clear H
      have hnb24 := NB289_290.out
      have hnc24 := NB290_289.out
      obtain ⟨hcz25_0, hcz25_1, hcz25_2, hfz25_0, hfz25_1, hfz25_2⟩ := z3 BK289
      go_wp2_with (first | ((with_reducible refine gate_callee (f := 49) rfl ?_); refine zL (some 10) Try.func49 #[.agg #[.int .i64 a0_0, .int .i64 a0_1, .slice A0_2 l0_2.length c0_2]] ?_; (with_reducible refine (awardingbodyref06_ValidPaper.calls k a0_0 a0_1 _ _ l0_2 true _ ?side1 ?side2 A6.out).mono ?_); (case side1 => exact zC HR0_2 HB); (case side2 => exact HC0_2.out); rintro e w26 ⟨rfl, hb⟩; refine ⟨_, rfl, ?_⟩; replace BK289 := zb BK289 hb; replace BK290 := zb BK290 hb; replace HB := zs HB hb; (try clear hb); (try clear hb2); (try clear hk); (try clear hi); obtain ⟨hcz27_0, hfz27_0⟩ := z1 BK290))
      go_meet
      case rel => exact ⟨_, (true), q7c, H', ⟨by first | omega | exact Nat.le_refl _⟩, ⟨q7a⟩, ⟨q7a⟩, ⟨zm HB⟩⟩
  ·replace c7 := Bool.eq_false_iff.mpr c7
   subst c7
   have H1 : (awardingbodyref12_Valid.j0 k true a0_0 a0_1 l0_2 l1_0) = some r := by rw [if_neg (show ¬ (false = true) by decide)] at H; exact H
   clear H; have H := H1; clear H1; have H' := za H; clear H
   have hnb28 := NB289_290.out
   have hnc28 := NB290_289.out
   obtain ⟨hcz29_0, hcz29_1, hcz29_2, hfz29_0, hfz29_1, hfz29_2⟩ := z3 BK289
   go_wp2_with (first | ((with_reducible refine gate_callee (f := 49) rfl ?_); refine zL (some 10) Try.func49 #[.agg #[.int .i64 a0_0, .int .i64 a0_1, .slice A0_2 l0_2.length c0_2]] ?_; (with_reducible refine (awardingbodyref06_ValidPaper.calls k a0_0 a0_1 _ _ l0_2 false _ ?side1 ?side2 A6.out).mono ?_); (case side1 => exact zC HR0_2 HB); (case side2 => exact HC0_2.out); rintro e w30 ⟨rfl, hb⟩; refine ⟨_, rfl, ?_⟩; replace BK289 := zb BK289 hb; replace BK290 := zb BK290 hb; replace HB := zs HB hb; (try clear hb); (try clear hb2); (try clear hk); (try clear hi)))
   go_meet
   case rel => exact ⟨_, (true), q7c, H', ⟨by first | omega | exact Nat.le_refl _⟩, ⟨q7a⟩, ⟨q7a⟩, ⟨zm HB⟩⟩
 case rest =>
  clear HC3; (try clear c1); (try clear c2); (try clear p2); (try clear q2); (try clear hx2); (try clear qi2); (try clear c4); (try clear c5); (try clear c7); (try clear c8); (try clear c8b0); (try clear c8b1); (try clear c9); (try clear c13); (try clear c13b0); (try clear c13b1); (try clear c14); (try clear c18); (try clear c18b0); (try clear c18b1); (try clear c19); (try clear c19b0); (try clear c19b1); (try clear c20); (try clear c24); (try clear c28); (try clear c29); (try clear p29); (try clear q29); (try clear hx29); (try clear qi29); (try clear hcz10_0); (try clear hcz10_1); (try clear hcz10_2); (try clear hcz12_0); (try clear hcz15_0); (try clear hcz15_1); (try clear hcz15_2); (try clear hcz17_0); (try clear hcz21_0); (try clear hcz21_1); (try clear hcz21_2); (try clear hcz23_0); (try clear hcz25_0); (try clear hcz25_1); (try clear hcz25_2); (try clear hcz27_0); (try clear hcz29_0); (try clear hcz29_1); (try clear hcz29_2); (try clear hfz10_0); (try clear hfz10_1); (try clear hfz10_2); (try clear hfz12_0); (try clear hfz15_0); (try clear hfz15_1); (try clear hfz15_2); (try clear hfz17_0); (try clear hfz21_0); (try clear hfz21_1); (try clear hfz21_2); (try clear hfz23_0); (try clear hfz25_0); (try clear hfz25_1); (try clear hfz25_2); (try clear hfz27_0); (try clear hfz29_0); (try clear hfz29_1); (try clear hfz29_2); (try clear hx292_0); (try clear p292); (try clear q292)
  obtain ⟨kq, x38_2, rfl, HA, HJ2, BK289, BK290, HB⟩ := hcut
  cases kq with
  | zero => exact absurd HA.out (by simp [awardingbodyref12_Valid.j0])
  | succ kj2 =>
   have H := HA.out
   clear HA
   simp only [awardingbodyref12_Valid.j0] at H
   by_cases c31 : x38_2 = true
   ·subst c31
    have H1 : (some false) = some r := by rw [if_pos rfl] at H; exact H
    clear H; have H := H1; clear H1
    obtain rfl := Option.some.inj H
    go_wp2
    go_ret
    exact ⟨zf, zm HB⟩
   ·replace c31 := Bool.eq_false_iff.mpr c31
    subst c31
    have H1 : (awardingbodyref12_Valid.l0 kj2 0 0 a0_0 a0_1 l0_2 l1_0) = some r := by rw [if_neg (show ¬ (false = true) by decide)] at H; exact H
    clear H; have H := H1; clear H1; have H' := za H; clear H
    go_wp2
    go_loopg [5, 6] kj2 (fun kq v5 v6 w' => ∃ (x5_2 : Int) (x6_2 : Int), v5 = .int .i64 x5_2 ∧ v6 = .int .i64 x6_2 ∧ Aside0 (awardingbodyref12_Valid.l0 kq x5_2 x6_2 a0_0 a0_1 l0_2 l1_0 = some r) ∧ Aside0 (kq ≤ kj2) ∧ Aside0 (w'.heap[gb289]? = some (.cells #[.int .i64 a0_0, .int .i64 a0_1, (.slice A0_2 l0_2.length c0_2)] 53 (0, 0))) ∧ Aside0 (w'.heap[gb290]? = some (.cells #[(.slice A1_0 l1_0.length c1_0)] 56 (0, 0))) ∧ Aside0 (Below w.heap.size w w'))
    case atStart => exact ⟨(0), (0), q7c, q7c, H', ⟨Nat.le_refl _⟩, ⟨q7a⟩, ⟨q7a⟩, ⟨zm HB⟩⟩
    case round =>
     clear H'; (try clear c1); (try clear c2); (try clear p2); (try clear q2); (try clear hx2); (try clear qi2); (try clear c3); (try clear c4); (try clear c5); (try clear c7); (try clear c8); (try clear c8b0); (try clear c8b1); (try clear c9); (try clear c13); (try clear c13b0); (try clear c13b1); (try clear c14); (try clear c18); (try clear c18b0); (try clear c18b1); (try clear c19); (try clear c19b0); (try clear c19b1); (try clear c20); (try clear c24); (try clear c28); (try clear c29); (try clear p29); (try clear q29); (try clear hx29); (try clear qi29); (try clear c31); (try clear hcz10_0); (try clear hcz10_1); (try clear hcz10_2); (try clear hcz12_0); (try clear hcz15_0); (try clear hcz15_1); (try clear hcz15_2); (try clear hcz17_0); (try clear hcz21_0); (try clear hcz21_1); (try clear hcz21_2); (try clear hcz23_0); (try clear hcz25_0); (try clear hcz25_1); (try clear hcz25_2); (try clear hcz27_0); (try clear hcz29_0); (try clear hcz29_1); (try clear hcz29_2); (try clear hfz10_0); (try clear hfz10_1); (try clear hfz10_2); (try clear hfz12_0); (try clear hfz15_0); (try clear hfz15_1); (try clear hfz15_2); (try clear hfz17_0); (try clear hfz21_0); (try clear hfz21_1); (try clear hfz21_2); (try clear hfz23_0); (try clear hfz25_0); (try clear hfz25_1); (try clear hfz25_2); (try clear hfz27_0); (try clear hfz29_0); (try clear hfz29_1); (try clear hfz29_2); (try clear hx292_0); (try clear p2); (try clear p29); (try clear p292); (try clear q2); (try clear q29); (try clear q292)
     obtain ⟨x5_2, x6_2, rfl, rfl, HA, HK2, BK289, BK290, HB⟩ := hrel
     cases gk with
     | zero => exact absurd HA.out (by simp [awardingbodyref12_Valid.l0])
     | succ k2 =>
      have H := HA.out
      clear HA
      simp only [awardingbodyref12_Valid.l0] at H
      by_cases c32 : x6_2 < (l1_0.length : Int)
      ·rw [if_pos c32] at H
       have c32b0 : decide (x6_2 < (l1_0.length : Int)) = true := decide_eq_true c32
       clear c32; have H' := za H; clear H
       have hnb33 := NB290_289.out
       have hnc33 := NB289_290.out
       obtain ⟨hcz34_0, hfz34_0⟩ := z1 BK290
       go_wp2
       go_loopg [5, 7, 8] k2 (fun kq v5 v7 v8 w' => ∃ (x5_3 : Int) (x7_3 : Int) (x8_3 : Int), v5 = .int .i64 x5_3 ∧ v7 = .int .i64 x7_3 ∧ v8 = .int .i64 x8_3 ∧ Aside0 (awardingbodyref12_Valid.l1 kq x5_3 x6_2 x7_3 x8_3 a0_0 a0_1 l0_2 l1_0 = some r) ∧ Aside0 (kq ≤ k2) ∧ Aside0 (w'.heap[gb289]? = some (.cells #[.int .i64 a0_0, .int .i64 a0_1, (.slice A0_2 l0_2.length c0_2)] 53 (0, 0))) ∧ Aside0 (w'.heap[gb290]? = some (.cells #[(.slice A1_0 l1_0.length c1_0)] 56 (0, 0))) ∧ Aside0 (Below w.heap.size w w'))
       case atStart => exact ⟨(x5_2), (0), (0), q7c, q7c, q7c, H', ⟨Nat.le_refl _⟩, ⟨q7a⟩, ⟨q7a⟩, ⟨zm HB⟩⟩
       case round =>
        clear H'; (try clear c1); (try clear c2); (try clear p2); (try clear q2); (try clear hx2); (try clear qi2); (try clear c3); (try clear c4); (try clear c5); (try clear c7); (try clear c8); (try clear c8b0); (try clear c8b1); (try clear c9); (try clear c13); (try clear c13b0); (try clear c13b1); (try clear c14); (try clear c18); (try clear c18b0); (try clear c18b1); (try clear c19); (try clear c19b0); (try clear c19b1); (try clear c20); (try clear c24); (try clear c28); (try clear c29); (try clear p29); (try clear q29); (try clear hx29); (try clear qi29); (try clear c31); (try clear c32); (try clear c32b0); (try clear c33); (try clear hcz10_0); (try clear hcz10_1); (try clear hcz10_2); (try clear hcz12_0); (try clear hcz15_0); (try clear hcz15_1); (try clear hcz15_2); (try clear hcz17_0); (try clear hcz21_0); (try clear hcz21_1); (try clear hcz21_2); (try clear hcz23_0); (try clear hcz25_0); (try clear hcz25_1); (try clear hcz25_2); (try clear hcz27_0); (try clear hcz29_0); (try clear hcz29_1); (try clear hcz29_2); (try clear hcz34_0); (try clear hfz10_0); (try clear hfz10_1); (try clear hfz10_2); (try clear hfz12_0); (try clear hfz15_0); (try clear hfz15_1); (try clear hfz15_2); (try clear hfz17_0); (try clear hfz21_0); (try clear hfz21_1); (try clear hfz21_2); (try clear hfz23_0); (try clear hfz25_0); (try clear hfz25_1); (try clear hfz25_2); (try clear hfz27_0); (try clear hfz29_0); (try clear hfz29_1); (try clear hfz29_2); (try clear hfz34_0); (try clear hx292_0); (try clear p2); (try clear p29); (try clear p292); (try clear q2); (try clear q29); (try clear q292)
        obtain ⟨x5_3, x7_3, x8_3, rfl, rfl, rfl, HA, HK3, BK289, BK290, HB⟩ := hrel
        cases gk with
        | zero => exact absurd HA.out (by simp [awardingbodyref12_Valid.l1])
        | succ k3 =>
         have H := HA.out
         clear HA
         simp only [awardingbodyref12_Valid.l1] at H
         by_cases c35 : 0 ≤ x6_2
         ·rw [if_pos c35] at H
          have c35b0 : decide (0 ≤ x6_2) = true := decide_eq_true c35
          clear c35
          by_cases c36 : x6_2 < (l1_0.length : Int)
          ·rw [if_pos c36] at H
           have c36b0 : decide (x6_2 < (l1_0.length : Int)) = true := decide_eq_true c36
           clear c36
           by_cases c37 : x8_3 < ((rd_L2 l1_0 x6_2).length : Int)
           ·rw [if_pos c37] at H
            have c37b0 : decide (x8_3 < ((rd_L2 l1_0 x6_2).length : Int)) = true := decide_eq_true c37
            clear c37
            by_cases c38 : x5_3 ≥ (l0_2.length : Int)
            ·rw [if_pos c38] at H
             have c38b0 : decide ((l0_2.length : Int) ≤ x5_3) = true := decide_eq_true c38
             clear c38
             obtain rfl := Option.some.inj H
             have hnb39 := NB290_289.out
             have hnc39 := NB289_290.out
             obtain ⟨hcz40_0, hfz40_0⟩ := z1 BK290
             have p293 : 0 ≤ (x6_2 : Int) := of_decide_eq_true q7b
             have q293 : x6_2 < (l1_0.length : Int) := of_decide_eq_true q7b
             obtain ⟨ad293, A293_0, c293_0, e293, hx293_0, hl293_0, hi293_0⟩ := at_L2 HR1_0.out x6_2 p293 q293
             cases e293
             replace hx293_0 := zx HB hx293_0
             have HR293_0 := za hi293_0; have HC293_0 := za hl293_0; clear hi293_0 hl293_0
             replace p293 := eq_true p293
             replace q293 := eq_true q293
             obtain ⟨hcz41_0, hcz41_1, hcz41_2, hfz41_0, hfz41_1, hfz41_2⟩ := z3 BK289
             go_wp2
             go_ret
             exact ⟨zf, zm HB⟩
            ·rw [if_neg c38] at H
             have c38b0 : decide ((l0_2.length : Int) ≤ x5_3) = false := decide_eq_false c38
             clear c38
             by_cases c42 : 0 ≤ x8_3
             ·rw [if_pos c42] at H
              have c42b0 : decide (0 ≤ x8_3) = true := decide_eq_true c42
              clear c42
              by_cases c43 : (rd (rd_L2 l1_0 x6_2) x8_3) = x5_3
              ·rw [if_pos c43] at H
               have c43b0 : ((rd (rd_L2 l1_0 x6_2) x8_3) == x5_3) = true := beq_iff_eq.mpr c43
               have c43b1 : ((rd (rd_L2 l1_0 x6_2) x8_3) != x5_3) = false := bne_eq_false_iff_eq.mpr c43
               clear c43
               by_cases c44 : 0 ≤ x5_3
               ·rw [if_pos c44] at H
                have c44b0 : decide (0 ≤ x5_3) = true := decide_eq_true c44
                clear c44
                by_cases c45 : x5_3 < (l0_2.length : Int)
                ·rw [if_pos c45] at H
                 have c45b0 : decide (x5_3 < (l0_2.length : Int)) = true := decide_eq_true c45
                 clear c45
                 replace H := Option.bind_eq_some_iff.mp H
                 obtain ⟨t297, A460, H⟩ := H
                 replace H : (awardingbodyref12_Valid.l1 k3 (wrap64 (x5_3 + 1)) x6_2 (wrap64 (x7_3 + t297)) (wrap64 (x8_3 + 1)) a0_0 a0_1 l0_2 l1_0) = some r := H
                 have A46 := za A460; clear A460; have H' := za H; clear H
                 have hnb47 := NB290_289.out
                 have hnc47 := NB289_290.out
                 obtain ⟨hcz48_0, hfz48_0⟩ := z1 BK290
                 have p293 : 0 ≤ (x6_2 : Int) := of_decide_eq_true q7b
                 have q293 : x6_2 < (l1_0.length : Int) := of_decide_eq_true q7b
                 obtain ⟨ad293, A293_0, c293_0, e293, hx293_0, hl293_0, hi293_0⟩ := at_L2 HR1_0.out x6_2 p293 q293
                 cases e293
                 replace hx293_0 := zx HB hx293_0
                 have HR293_0 := za hi293_0; have HC293_0 := za hl293_0; clear hi293_0 hl293_0
                 replace p293 := eq_true p293
                 replace q293 := eq_true q293
                 obtain ⟨hcz49_0, hcz49_1, hcz49_2, hfz49_0, hfz49_1, hfz49_2⟩ := z3 BK289
                 have p294 : 0 ≤ (x6_2 : Int) := of_decide_eq_true q7b
                 have q294 : x6_2 < (l1_0.length : Int) := of_decide_eq_true q7b
                 obtain ⟨ad294, A294_0, c294_0, e294, hx294_0, hl294_0, hi294_0⟩ := at_L2 HR1_0.out x6_2 p294 q294
                 obtain rfl : ad293 = ad294 := (by injection e294)
                 replace hx294_0 := zx HB hx294_0
                 have HR294_0 := za hi294_0; have HC294_0 := za hl294_0; clear hi294_0 hl294_0
                 replace p294 := eq_true p294
                 replace q294 := eq_true q294
                 have ea_ := Option.some.inj (hx293_0.symm.trans hx294_0)
                 injection ea_ with ea_ en_ ec_
                 subst ea_
                 subst ec_
                 clear en_
                 have p295 : 0 ≤ (x8_3 : Int) := of_decide_eq_true q7b
                 have q295 : x8_3 < ((rd_L2 l1_0 x6_2).length : Int) := of_decide_eq_true q7b
                 obtain ⟨ad295, e295, hx295_0⟩ := Kd.at_int HR294_0.out x8_3 p295 q295
                 cases e295
                 replace hx295_0 := zx HB hx295_0
                 replace p295 := eq_true p295
                 replace q295 := eq_true q295
                 have p296 : 0 ≤ (x5_3 : Int) := of_decide_eq_true q7b
                 have q296 : x5_3 < (l0_2.length : Int) := of_decide_eq_true q7b
                 obtain ⟨ad296, e296, hx296_0, hx296_1, hx296_2, hx296_3, hx296_4, hx296_5⟩ := at_T65 HR0_2.out x5_3 p296 q296
                 cases e296
                 replace hx296_0 := zx HB hx296_0
                 replace hx296_1 := zx HB hx296_1
                 replace hx296_2 := zx HB hx296_2
                 replace hx296_3 := zx HB hx296_3
                 replace hx296_4 := zx HB hx296_4
                 replace hx296_5 := zx HB hx296_5
                 replace p296 := eq_true p296
                 replace q296 := eq_true q296
                 go_wp2_with (first | ((with_reducible refine gate_callee (f := 50) rfl ?_); refine zL (some 79) Try.func50 #[.agg #[.int .i64 ((rd_T65 l0_2 x5_3).f0), .int .i64 ((rd_T65 l0_2 x5_3).f1), .int .i64 ((rd_T65 l0_2 x5_3).f2), .int .i64 ((rd_T65 l0_2 x5_3).f3), .int .i64 ((rd_T65 l0_2 x5_3).f4), .int .i64 ((rd_T65 l0_2 x5_3).f5)]] ?_; (with_reducible refine (awardingbodyref12_Need.calls k3 ((rd_T65 l0_2 x5_3).f0) ((rd_T65 l0_2 x5_3).f1) ((rd_T65 l0_2 x5_3).f2) ((rd_T65 l0_2 x5_3).f3) ((rd_T65 l0_2 x5_3).f4) ((rd_T65 l0_2 x5_3).f5) t297 _ A46.out).mono ?_); rintro e w50 ⟨rfl, hb⟩; refine ⟨_, rfl, ?_⟩; replace BK289 := zb BK289 hb; replace BK290 := zb BK290 hb; replace HB := zs HB hb; (try clear hb); (try clear hb2); (try clear hk); (try clear hi)))
                 go_roundg k3
                 case measure => have := HJ2.out; have := HK2.out; have := HK3.out; omega
                 case rel => exact ⟨(wrap64 (x5_3 + 1)), (wrap64 (x7_3 + t297)), (wrap64 (x8_3 + 1)), q7c, q7c, q7c, H', ⟨by have := HJ2.out; have := HK2.out; have := HK3.out; omega⟩, ⟨q7a⟩, ⟨q7a⟩, ⟨zm HB⟩⟩
                ·rw [if_neg c45] at H
                 exact absurd H (by simp)
               ·rw [if_neg c44] at H
                exact absurd H (by simp)
              ·rw [if_neg c43] at H
               have c43b0 : ((rd (rd_L2 l1_0 x6_2) x8_3) == x5_3) = false := beq_eq_false_iff_ne.mpr c43
               have c43b1 : ((rd (rd_L2 l1_0 x6_2) x8_3) != x5_3) = true := bne_iff_ne.mpr c43
               obtain rfl := Option.some.inj H
               have hnb51 := NB290_289.out
               have hnc51 := NB289_290.out
               obtain ⟨hcz52_0, hfz52_0⟩ := z1 BK290
               have p293 : 0 ≤ (x6_2 : Int) := of_decide_eq_true q7b
               have q293 : x6_2 < (l1_0.length : Int) := of_decide_eq_true q7b
               obtain ⟨ad293, A293_0, c293_0, e293, hx293_0, hl293_0, hi293_0⟩ := at_L2 HR1_0.out x6_2 p293 q293
               cases e293
               replace hx293_0 := zx HB hx293_0
               have HR293_0 := za hi293_0; have HC293_0 := za hl293_0; clear hi293_0 hl293_0
               replace p293 := eq_true p293
               replace q293 := eq_true q293
               obtain ⟨hcz53_0, hcz53_1, hcz53_2, hfz53_0, hfz53_1, hfz53_2⟩ := z3 BK289
               have p294 : 0 ≤ (x6_2 : Int) := of_decide_eq_true q7b
               have q294 : x6_2 < (l1_0.length : Int) := of_decide_eq_true q7b
               obtain ⟨ad294, A294_0, c294_0, e294, hx294_0, hl294_0, hi294_0⟩ := at_L2 HR1_0.out x6_2 p294 q294
               obtain rfl : ad293 = ad294 := (by injection e294)
               replace hx294_0 := zx HB hx294_0
               have HR294_0 := za hi294_0; have HC294_0 := za hl294_0; clear hi294_0 hl294_0
               replace p294 := eq_true p294
               replace q294 := eq_true q294
               have ea_ := Option.some.inj (hx293_0.symm.trans hx294_0)
               injection ea_ with ea_ en_ ec_
               subst ea_
               subst ec_
               clear en_
               have p295 : 0 ≤ (x8_3 : Int) := of_decide_eq_true q7b
               have q295 : x8_3 < ((rd_L2 l1_0 x6_2).length : Int) := of_decide_eq_true q7b
               obtain ⟨ad295, e295, hx295_0⟩ := Kd.at_int HR294_0.out x8_3 p295 q295
               cases e295
               replace hx295_0 := zx HB hx295_0
               replace p295 := eq_true p295
               replace q295 := eq_true q295
               go_wp2
               go_ret
               exact ⟨zf, zm HB⟩
             ·rw [if_neg c42] at H
              exact absurd H (by simp)
           ·rw [if_neg c37] at H
            have c37b0 : decide (x8_3 < ((rd_L2 l1_0 x6_2).length : Int)) = false := decide_eq_false c37
            clear c37
            by_cases c54 : x7_3 > 30
            ·rw [if_pos c54] at H
             have c54b0 : decide (30 < x7_3) = true := decide_eq_true c54
             clear c54
             obtain rfl := Option.some.inj H
             have hnb55 := NB290_289.out
             have hnc55 := NB289_290.out
             obtain ⟨hcz56_0, hfz56_0⟩ := z1 BK290
             have p293 : 0 ≤ (x6_2 : Int) := of_decide_eq_true q7b
             have q293 : x6_2 < (l1_0.length : Int) := of_decide_eq_true q7b
             obtain ⟨ad293, A293_0, c293_0, e293, hx293_0, hl293_0, hi293_0⟩ := at_L2 HR1_0.out x6_2 p293 q293
             cases e293
             replace hx293_0 := zx HB hx293_0
             have HR293_0 := za hi293_0; have HC293_0 := za hl293_0; clear hi293_0 hl293_0
             replace p293 := eq_true p293
             replace q293 := eq_true q293
             go_wp2
             go_ret
             exact ⟨zf, zm HB⟩
            ·rw [if_neg c54] at H
             have c54b0 : decide (30 < x7_3) = false := decide_eq_false c54
             clear c54; have H' := za H; clear H
             have hnb57 := NB290_289.out
             have hnc57 := NB289_290.out
             obtain ⟨hcz58_0, hfz58_0⟩ := z1 BK290
             have p293 : 0 ≤ (x6_2 : Int) := of_decide_eq_true q7b
             have q293 : x6_2 < (l1_0.length : Int) := of_decide_eq_true q7b
             obtain ⟨ad293, A293_0, c293_0, e293, hx293_0, hl293_0, hi293_0⟩ := at_L2 HR1_0.out x6_2 p293 q293
             cases e293
             replace hx293_0 := zx HB hx293_0
             have HR293_0 := za hi293_0; have HC293_0 := za hl293_0; clear hi293_0 hl293_0
             replace p293 := eq_true p293
             replace q293 := eq_true q293
             go_wp2
             go_roundg k3
             case measure => have := HJ2.out; have := HK2.out; have := HK3.out; omega
             case rel => exact ⟨(x5_3), (wrap64 (x6_2 + 1)), q7c, q7c, H', ⟨by have := HJ2.out; have := HK2.out; have := HK3.out; omega⟩, ⟨q7a⟩, ⟨q7a⟩, ⟨zm HB⟩⟩
          ·rw [if_neg c36] at H
           exact absurd H (by simp)
         ·rw [if_neg c35] at H
          exact absurd H (by simp)
      ·rw [if_neg c32] at H
       have c32b0 : decide (x6_2 < (l1_0.length : Int)) = false := decide_eq_false c32
       clear c32
       obtain rfl := Option.some.inj H
       have hnb59 := NB290_289.out
       have hnc59 := NB289_290.out
       obtain ⟨hcz60_0, hfz60_0⟩ := z1 BK290
       obtain ⟨hcz61_0, hcz61_1, hcz61_2, hfz61_0, hfz61_1, hfz61_2⟩ := z3 BK289
       go_wp2
       go_ret
       exact ⟨zf, zm HB⟩

/-! ### awardingbodyref12_Fields: function 31 -/
mutual
def awardingbodyref12_Fields.j0 : Nat → Int → Bool → Int → Int → List (S65) → List (List Int) → Option ((List (S46)))
  | 0, _, _, _, _, _, _ => none
  | k + 1, x2, x25, x299000, x299001, x299002, x300000 => if x25 = true then (some ([] : List (S46))) else (awardingbodyref12_Fields.l0 k x2 ([] : List (S46)) 0 x299000 x299001 x299002 x300000)
def awardingbodyref12_Fields.l0 : Nat → Int → List (S46) → Int → Int → Int → List (S65) → List (List Int) → Option ((List (S46)))
  | 0, _, _, _, _, _, _, _ => none
  | k + 1, x2, x7, x8, x299000, x299001, x299002, x300000 => if 0 ≤ x2 then (if x2 < (x300000.length : Int) then (if x8 < ((rd_L2 x300000 x2).length : Int) then (if 0 ≤ x8 then (if 0 ≤ (rd (rd_L2 x300000 x2) x8) then (if (rd (rd_L2 x300000 x2) x8) < (x299002.length : Int) then (if ((rd_T65 x299002 (rd (rd_L2 x300000 x2) x8)).f0) = 2 then (awardingbodyref12_Fields.l1 k x2 x7 x8 (rd (rd_L2 x300000 x2) x8) 0 x299000 x299001 x299002 x300000) else (awardingbodyref12_Fields.l0 k x2 x7 (wrap64 (x8 + 1)) x299000 x299001 x299002 x300000)) else (none)) else (none)) else (none)) else (some x7)) else (none)) else (none)
def awardingbodyref12_Fields.l1 : Nat → Int → List (S46) → Int → Int → Int → Int → Int → List (S65) → List (List Int) → Option ((List (S46)))
  | 0, _, _, _, _, _, _, _, _, _ => none
  | k + 1, x2, x7, x8, x9, x10, x299000, x299001, x299002, x300000 => if 0 ≤ x9 then (if x9 < (x299002.length : Int) then (if x10 < ((rd_T65 x299002 x9).f4) then (if x7.length < 8796093022208 then (awardingbodyref12_Fields.l1 k x2 (x7 ++ [(⟨x9, x10⟩ : S46)]) x8 x9 (wrap64 (x10 + 1)) x299000 x299001 x299002 x300000) else (none)) else (awardingbodyref12_Fields.l0 k x2 x7 (wrap64 (x8 + 1)) x299000 x299001 x299002 x300000)) else (none)) else (none)
end
def awardingbodyref12_Fields.f (k : Nat) (a0_0 : Int) (a0_1 : Int) (l0_2 : List (S65)) (l1_0 : List (List Int)) (a2 : Int) : Option ((List (S46))) := (awardingbodyref12_Valid.f k a0_0 a0_1 l0_2 l1_0).bind fun t300 => (if t300 = true then (if a2 < 0 then (awardingbodyref12_Fields.j0 k a2 true a0_0 a0_1 l0_2 l1_0) else (awardingbodyref12_Fields.j0 k a2 (decide (a2 ≥ (l1_0.length : Int))) a0_0 a0_1 l0_2 l1_0)) else (awardingbodyref12_Fields.j0 k a2 true a0_0 a0_1 l0_2 l1_0))
theorem awardingbodyref12_Fields.mono_l : ∀ k, (∀ y0 y1 y2 y3 y4 y5, LeO (awardingbodyref12_Fields.j0 k y0 y1 y2 y3 y4 y5) (awardingbodyref12_Fields.j0 (k + 1) y0 y1 y2 y3 y4 y5)) ∧ (∀ y0 y1 y2 y3 y4 y5 y6, LeO (awardingbodyref12_Fields.l0 k y0 y1 y2 y3 y4 y5 y6) (awardingbodyref12_Fields.l0 (k + 1) y0 y1 y2 y3 y4 y5 y6)) ∧ (∀ y0 y1 y2 y3 y4 y5 y6 y7 y8, LeO (awardingbodyref12_Fields.l1 k y0 y1 y2 y3 y4 y5 y6 y7 y8) (awardingbodyref12_Fields.l1 (k + 1) y0 y1 y2 y3 y4 y5 y6 y7 y8))
  | 0 => ⟨fun _ _ _ _ _ _ r h => by simp [awardingbodyref12_Fields.j0] at h, fun _ _ _ _ _ _ _ r h => by simp [awardingbodyref12_Fields.l0] at h, fun _ _ _ _ _ _ _ _ _ r h => by simp [awardingbodyref12_Fields.l1] at h⟩
  | k + 1 => by
    obtain ⟨ih0, ih1, ih2⟩ := awardingbodyref12_Fields.mono_l k
    refine ⟨?_, ?_, ?_⟩
    · intro y0 y1 y2 y3 y4 y5
      unfold awardingbodyref12_Fields.j0
      repeat' first
      | (with_reducible exact ih0 _ _ _ _ _ _)
      | (with_reducible exact ih1 _ _ _ _ _ _ _)
      | (with_reducible exact ih2 _ _ _ _ _ _ _ _ _)
      | (with_reducible exact awardingbodyref12_Valid.mono _ _ _ _ _)
      | (with_reducible exact LeO.refl _)
      | (with_reducible exact LeO.none _)
      | (with_reducible refine LeO.ite ?_ ?_)
      | (with_reducible refine LeO.bind ?_ (fun _ => ?_))
      | exact ih0 _ _ _ _ _ _
      | exact ih1 _ _ _ _ _ _ _
      | exact ih2 _ _ _ _ _ _ _ _ _
      | exact awardingbodyref12_Valid.mono _ _ _ _ _
      | exact LeO.none _
      | refine LeO.ite ?_ ?_
      | refine LeO.bind ?_ (fun _ => ?_)
    · intro y0 y1 y2 y3 y4 y5 y6
      unfold awardingbodyref12_Fields.l0
      repeat' first
      | (with_reducible exact ih0 _ _ _ _ _ _)
      | (with_reducible exact ih1 _ _ _ _ _ _ _)
      | (with_reducible exact ih2 _ _ _ _ _ _ _ _ _)
      | (with_reducible exact awardingbodyref12_Valid.mono _ _ _ _ _)
      | (with_reducible exact LeO.refl _)
      | (with_reducible exact LeO.none _)
      | (with_reducible refine LeO.ite ?_ ?_)
      | (with_reducible refine LeO.bind ?_ (fun _ => ?_))
      | exact ih0 _ _ _ _ _ _
      | exact ih1 _ _ _ _ _ _ _
      | exact ih2 _ _ _ _ _ _ _ _ _
      | exact awardingbodyref12_Valid.mono _ _ _ _ _
      | exact LeO.none _
      | refine LeO.ite ?_ ?_
      | refine LeO.bind ?_ (fun _ => ?_)
    · intro y0 y1 y2 y3 y4 y5 y6 y7 y8
      unfold awardingbodyref12_Fields.l1
      repeat' first
      | (with_reducible exact ih0 _ _ _ _ _ _)
      | (with_reducible exact ih1 _ _ _ _ _ _ _)
      | (with_reducible exact ih2 _ _ _ _ _ _ _ _ _)
      | (with_reducible exact awardingbodyref12_Valid.mono _ _ _ _ _)
      | (with_reducible exact LeO.refl _)
      | (with_reducible exact LeO.none _)
      | (with_reducible refine LeO.ite ?_ ?_)
      | (with_reducible refine LeO.bind ?_ (fun _ => ?_))
      | exact ih0 _ _ _ _ _ _
      | exact ih1 _ _ _ _ _ _ _
      | exact ih2 _ _ _ _ _ _ _ _ _
      | exact awardingbodyref12_Valid.mono _ _ _ _ _
      | exact LeO.none _
      | refine LeO.ite ?_ ?_
      | refine LeO.bind ?_ (fun _ => ?_)
theorem awardingbodyref12_Fields.mono : ∀ a0 a1 a2 a3 a4 k, LeO (awardingbodyref12_Fields.f k a0 a1 a2 a3 a4) (awardingbodyref12_Fields.f (k + 1) a0 a1 a2 a3 a4) := by
  intro a0 a1 a2 a3 a4 k
  obtain ⟨ih0, ih1, ih2⟩ := awardingbodyref12_Fields.mono_l k
  unfold awardingbodyref12_Fields.f
  repeat' first
      | (with_reducible exact ih0 _ _ _ _ _ _)
      | (with_reducible exact ih1 _ _ _ _ _ _ _)
      | (with_reducible exact ih2 _ _ _ _ _ _ _ _ _)
      | (with_reducible exact awardingbodyref12_Valid.mono _ _ _ _ _)
      | (with_reducible exact LeO.refl _)
      | (with_reducible exact LeO.none _)
      | (with_reducible refine LeO.ite ?_ ?_)
      | (with_reducible refine LeO.bind ?_ (fun _ => ?_))
      | exact ih0 _ _ _ _ _ _
      | exact ih1 _ _ _ _ _ _ _
      | exact ih2 _ _ _ _ _ _ _ _ _
      | exact awardingbodyref12_Valid.mono _ _ _ _ _
      | exact LeO.none _
      | refine LeO.ite ?_ ?_
      | refine LeO.bind ?_ (fun _ => ?_)
set_option maxHeartbeats 8000000 in
set_option maxRecDepth 100000 in
theorem awardingbodyref12_Fields.calls (k : Nat) (a0_0 : Int) (a0_1 : Int) (A0_2 : Option Addr) (c0_2 : Nat) (l0_2 : List (S65)) (A1_0 : Option Addr) (c1_0 : Nat) (l1_0 : List (List Int)) (a2 : Int) (r : List (S46)) (w : World) (hr0_2 : Kd.C k65 w A0_2 l0_2.length l0_2) (hc0_2 : l0_2.length ≤ c0_2) (hr1_0 : Kd.C (Kd.slice 3 (Kd.int .i64)) w A1_0 l1_0.length l1_0) (hc1_0 : l1_0.length ≤ c1_0) (h : awardingbodyref12_Fields.f k a0_0 a0_1 l0_2 l1_0 a2 = some r) :
    Calls Try.prog 31 #[.agg #[.int .i64 a0_0, .int .i64 a0_1, .slice A0_2 l0_2.length c0_2], .agg #[.slice A1_0 l1_0.length c1_0], .int .i64 a2] w fun e w' => ∃ v0_ : Value, e = .returned (v0_) ∧ Kd.R k46 46 w' w.heap.size (fun _ => True) v0_ r ∧ Below w.heap.size w w' := by
 have hu53 := Try.underlying53
 have hu56 := Try.underlying56
 have hu46 := Try.underlying46
 have HR0_2 := za hr0_2; have HC0_2 := za hc0_2; clear hr0_2 hc0_2; have HR1_0 := za hr1_0; have HC1_0 := za hc1_0; clear hr1_0 hc1_0
 have HB := za (Below.refl w.heap.size w)
 have H : ((awardingbodyref12_Valid.f k a0_0 a0_1 l0_2 l1_0).bind fun t300 => (if t300 = true then (if a2 < 0 then (awardingbodyref12_Fields.j0 k a2 true a0_0 a0_1 l0_2 l1_0) else (awardingbodyref12_Fields.j0 k a2 (decide (a2 ≥ (l1_0.length : Int))) a0_0 a0_1 l0_2 l1_0)) else (awardingbodyref12_Fields.j0 k a2 true a0_0 a0_1 l0_2 l1_0))) = some r := h
 clear h; have HC4 := za H; clear H
 go_enter Try.func31, Try.ntmps31
 go_upto_region 1 with (first | ((with_reducible refine gate_dst (N := 3) rfl ?_); (try (refine gate_guard (by rfl) ?_; dsimp only)); refine zE 3 #[.int .i64 a0_0, .int .i64 a0_1, .slice A0_2 l0_2.length c0_2] 53 ?_; intro gb298 hg w5 hbox hb; have BK298 := za (hbox); have GW298 := zg HB hg; have GE298 := zg HB hg; replace HB := zs HB hb; clear hb hbox hg) | ((with_reducible refine gate_dst (N := 4) rfl ?_); (try (refine gate_guard (by rfl) ?_; dsimp only)); refine zE 4 #[.slice A1_0 l1_0.length c1_0] 56 ?_; intro gb299 hg w6 hbox hb; have BK299 := za (hbox); have GW299 := zg HB hg; have GE299 := zg HB hg; have NB298_299 := zl BK298 hg; have NB299_298 := zr BK298 hg; replace BK298 := zb BK298 hb; replace HB := zs HB hb; clear hb hbox hg))
 (try simp only [Act.put, List.setIfInBounds_toArray, List.set_cons_zero, List.set_cons_succ])
 go_cut [25] (fun v25 wc => ∃ (kq : Nat) (x25_3 : Bool), v25 = .bool x25_3 ∧ Aside0 (awardingbodyref12_Fields.j0 kq a2 x25_3 a0_0 a0_1 l0_2 l1_0 = some r) ∧ Aside0 (kq ≤ k) ∧ Aside0 (wc.heap[gb298]? = some (.cells #[.int .i64 a0_0, .int .i64 a0_1, (.slice A0_2 l0_2.length c0_2)] 53 (0, 0))) ∧ Aside0 (wc.heap[gb299]? = some (.cells #[(.slice A1_0 l1_0.length c1_0)] 56 (0, 0))) ∧ Aside0 (Below w.heap.size w wc))
 case first =>
  have H := HC4.out
  clear HC4
  replace H := Option.bind_eq_some_iff.mp H
  obtain ⟨t300, A70, H⟩ := H
  replace H : (if t300 = true then (if a2 < 0 then (awardingbodyref12_Fields.j0 k a2 true a0_0 a0_1 l0_2 l1_0) else (awardingbodyref12_Fields.j0 k a2 (decide (a2 ≥ (l1_0.length : Int))) a0_0 a0_1 l0_2 l1_0)) else (awardingbodyref12_Fields.j0 k a2 true a0_0 a0_1 l0_2 l1_0)) = some r := H
  have A7 := za A70; clear A70
  by_cases c8 : t300 = true
  ·subst c8
   have H1 : (if a2 < 0 then (awardingbodyref12_Fields.j0 k a2 true a0_0 a0_1 l0_2 l1_0) else (awardingbodyref12_Fields.j0 k a2 (decide (a2 ≥ (l1_0.length : Int))) a0_0 a0_1 l0_2 l1_0)) = some r := by rw [if_pos rfl] at H; exact H
   clear H; have H := H1; clear H1
   by_cases c9 : a2 < 0
   ·rw [if_pos c9] at H
    have c9b0 : decide (a2 < 0) = true := decide_eq_true c9
    clear c9
    (first | rw [c9b0] | (simp only [i64_w, i32_w]; rw [c9b0]) | skip)
    have H' := za H; clear H
    have hnb10 := NB298_299.out
    have hnc10 := NB299_298.out
    obtain ⟨hcz11_0, hcz11_1, hcz11_2, hfz11_0, hfz11_1, hfz11_2⟩ := z3 BK298
    obtain ⟨hcz12_0, hfz12_0⟩ := z1 BK299
    go_wp2_with (first | ((with_reducible refine gate_callee (f := 51) rfl ?_); refine zL (some 13) Try.func51 #[.agg #[.int .i64 a0_0, .int .i64 a0_1, .slice A0_2 l0_2.length c0_2], .agg #[.slice A1_0 l1_0.length c1_0]] ?_; (with_reducible refine (awardingbodyref12_Valid.calls k a0_0 a0_1 _ _ l0_2 _ _ l1_0 true _ ?side1 ?side2 ?side3 ?side4 A7.out).mono ?_); (case side1 => exact zC HR0_2 HB); (case side2 => exact HC0_2.out); (case side3 => exact zC HR1_0 HB); (case side4 => exact HC1_0.out); rintro e w13 ⟨rfl, hb⟩; refine ⟨_, rfl, ?_⟩; replace BK298 := zb BK298 hb; replace BK299 := zb BK299 hb; replace HB := zs HB hb; (try clear hb); (try clear hb2); (try clear hk); (try clear hi)))
    go_meet
    case rel => exact ⟨_, (true), q7c, H', ⟨by first | omega | exact Nat.le_refl _⟩, ⟨q7a⟩, ⟨q7a⟩, ⟨zm HB⟩⟩
   ·rw [if_neg c9] at H
    have c9b0 : decide (a2 < 0) = false := decide_eq_false c9
    clear c9
    (first | rw [c9b0] | (simp only [i64_w, i32_w]; rw [c9b0]) | skip)
    have H' := za H; clear H
    have hnb14 := NB298_299.out
    have hnc14 := NB299_298.out
    obtain ⟨hcz15_0, hcz15_1, hcz15_2, hfz15_0, hfz15_1, hfz15_2⟩ := z3 BK298
    obtain ⟨hcz16_0, hfz16_0⟩ := z1 BK299
    go_wp2_with (first | ((with_reducible refine gate_callee (f := 51) rfl ?_); refine zL (some 13) Try.func51 #[.agg #[.int .i64 a0_0, .int .i64 a0_1, .slice A0_2 l0_2.length c0_2], .agg #[.slice A1_0 l1_0.length c1_0]] ?_; (with_reducible refine (awardingbodyref12_Valid.calls k a0_0 a0_1 _ _ l0_2 _ _ l1_0 true _ ?side1 ?side2 ?side3 ?side4 A7.out).mono ?_); (case side1 => exact zC HR0_2 HB); (case side2 => exact HC0_2.out); (case side3 => exact zC HR1_0 HB); (case side4 => exact HC1_0.out); rintro e w17 ⟨rfl, hb⟩; refine ⟨_, rfl, ?_⟩; replace BK298 := zb BK298 hb; replace BK299 := zb BK299 hb; replace HB := zs HB hb; (try clear hb); (try clear hb2); (try clear hk); (try clear hi); obtain ⟨hcz18_0, hfz18_0⟩ := z1 BK299))
    go_meet
    case rel => exact ⟨_, (decide (a2 ≥ (l1_0.length : Int))), q7c, H', ⟨by first | omega | exact Nat.le_refl _⟩, ⟨q7a⟩, ⟨q7a⟩, ⟨zm HB⟩⟩
  ·replace c8 := Bool.eq_false_iff.mpr c8
   subst c8
   have H1 : (awardingbodyref12_Fields.j0 k a2 true a0_0 a0_1 l0_2 l1_0) = some r := by rw [if_neg (show ¬ (false = true) by decide)] at H; exact H
   clear H; have H := H1; clear H1; have H' := za H; clear H
   have hnb19 := NB298_299.out
   have hnc19 := NB299_298.out
   obtain ⟨hcz20_0, hcz20_1, hcz20_2, hfz20_0, hfz20_1, hfz20_2⟩ := z3 BK298
   obtain ⟨hcz21_0, hfz21_0⟩ := z1 BK299
   go_wp2_with (first | ((with_reducible refine gate_callee (f := 51) rfl ?_); refine zL (some 13) Try.func51 #[.agg #[.int .i64 a0_0, .int .i64 a0_1, .slice A0_2 l0_2.length c0_2], .agg #[.slice A1_0 l1_0.length c1_0]] ?_; (with_reducible refine (awardingbodyref12_Valid.calls k a0_0 a0_1 _ _ l0_2 _ _ l1_0 false _ ?side1 ?side2 ?side3 ?side4 A7.out).mono ?_); (case side1 => exact zC HR0_2 HB); (case side2 => exact HC0_2.out); (case side3 => exact zC HR1_0 HB); (case side4 => exact HC1_0.out); rintro e w22 ⟨rfl, hb⟩; refine ⟨_, rfl, ?_⟩; replace BK298 := zb BK298 hb; replace BK299 := zb BK299 hb; replace HB := zs HB hb; (try clear hb); (try clear hb2); (try clear hk); (try clear hi)))
   go_meet
   case rel => exact ⟨_, (true), q7c, H', ⟨by first | omega | exact Nat.le_refl _⟩, ⟨q7a⟩, ⟨q7a⟩, ⟨zm HB⟩⟩
 case rest =>
  clear HC4; (try clear c1); (try clear p2); (try clear c3); (try clear c5); (try clear c8); (try clear c9); (try clear c9b0); (try clear c10); (try clear c14); (try clear c19); (try clear hcz11_0); (try clear hcz11_1); (try clear hcz11_2); (try clear hcz12_0); (try clear hcz15_0); (try clear hcz15_1); (try clear hcz15_2); (try clear hcz16_0); (try clear hcz18_0); (try clear hcz20_0); (try clear hcz20_1); (try clear hcz20_2); (try clear hcz21_0); (try clear hfz11_0); (try clear hfz11_1); (try clear hfz11_2); (try clear hfz12_0); (try clear hfz15_0); (try clear hfz15_1); (try clear hfz15_2); (try clear hfz16_0); (try clear hfz18_0); (try clear hfz20_0); (try clear hfz20_1); (try clear hfz20_2); (try clear hfz21_0)
  obtain ⟨kq, x25_3, rfl, HA, HJ3, BK298, BK299, HB⟩ := hcut
  cases kq with
  | zero => exact absurd HA.out (by simp [awardingbodyref12_Fields.j0])
  | succ kj3 =>
   have H := HA.out
   clear HA
   simp only [awardingbodyref12_Fields.j0] at H
   by_cases c23 : x25_3 = true
   ·subst c23
    have H1 : (some ([] : List (S46))) = some r := by rw [if_pos rfl] at H; exact H
    clear H; have H := H1; clear H1
    obtain rfl := Option.some.inj H
    go_wp2
    go_ret
    exact ⟨_, zf, by first | exact Kd.R_nil _ _ _ _ _ | exact Kd.N_nil _ _ _ _ _ | exact Kd.V_nil _ _ _ _ _ | exact Kd.Q_nil _ _ _ _ _ | exact Kd.S_nil _ _ _ _ _, zm HB⟩
   ·replace c23 := Bool.eq_false_iff.mpr c23
    subst c23
    have H1 : (awardingbodyref12_Fields.l0 kj3 a2 ([] : List (S46)) 0 a0_0 a0_1 l0_2 l1_0) = some r := by rw [if_neg (show ¬ (false = true) by decide)] at H; exact H
    clear H; have H := H1; clear H1; have H' := za H; clear H
    go_wp2
    go_loopg [7, 8] kj3 (fun kq v7 v8 w' => ∃ (x7_2 : List (S46)) (x8_2 : Int), v8 = .int .i64 x8_2 ∧ Aside0 (awardingbodyref12_Fields.l0 kq a2 x7_2 x8_2 a0_0 a0_1 l0_2 l1_0 = some r) ∧ Aside0 (kq ≤ kj3) ∧ Aside0 (Kd.R k46 46 w' w.heap.size (fun _ => True) v7 x7_2) ∧ Aside0 (w'.heap[gb298]? = some (.cells #[.int .i64 a0_0, .int .i64 a0_1, (.slice A0_2 l0_2.length c0_2)] 53 (0, 0))) ∧ Aside0 (w'.heap[gb299]? = some (.cells #[(.slice A1_0 l1_0.length c1_0)] 56 (0, 0))) ∧ Aside0 (Below w.heap.size w w'))
    case atStart => exact ⟨(([] : List (S46))), (0), q7c, H', ⟨Nat.le_refl _⟩, ⟨by first | exact Kd.R_nil _ _ _ _ _ | exact Kd.N_nil _ _ _ _ _ | exact Kd.V_nil _ _ _ _ _ | exact Kd.Q_nil _ _ _ _ _ | exact Kd.S_nil _ _ _ _ _⟩, ⟨q7a⟩, ⟨q7a⟩, ⟨zm HB⟩⟩
    case round =>
     clear H'; (try clear c1); (try clear c2); (try clear p2); (try clear c3); (try clear c5); (try clear c8); (try clear c9); (try clear c9b0); (try clear c10); (try clear c14); (try clear c19); (try clear c23); (try clear hcz11_0); (try clear hcz11_1); (try clear hcz11_2); (try clear hcz12_0); (try clear hcz15_0); (try clear hcz15_1); (try clear hcz15_2); (try clear hcz16_0); (try clear hcz18_0); (try clear hcz20_0); (try clear hcz20_1); (try clear hcz20_2); (try clear hcz21_0); (try clear hfz11_0); (try clear hfz11_1); (try clear hfz11_2); (try clear hfz12_0); (try clear hfz15_0); (try clear hfz15_1); (try clear hfz15_2); (try clear hfz16_0); (try clear hfz18_0); (try clear hfz20_0); (try clear hfz20_1); (try clear hfz20_2); (try clear hfz21_0); (try clear p2)
     obtain ⟨x7_2, x8_2, rfl, HA, HK2, HO_7, BK298, BK299, HB⟩ := hrel
     cases gk with
     | zero => exact absurd HA.out (by simp [awardingbodyref12_Fields.l0])
     | succ k2 =>
      have H := HA.out
      clear HA
      simp only [awardingbodyref12_Fields.l0] at H
      by_cases c24 : 0 ≤ a2
      ·rw [if_pos c24] at H
       have c24b0 : decide (0 ≤ a2) = true := decide_eq_true c24
       clear c24
       by_cases c25 : a2 < (l1_0.length : Int)
       ·rw [if_pos c25] at H
        have c25b0 : decide (a2 < (l1_0.length : Int)) = true := decide_eq_true c25
        clear c25
        by_cases c26 : x8_2 < ((rd_L2 l1_0 a2).length : Int)
        ·rw [if_pos c26] at H
         have c26b0 : decide (x8_2 < ((rd_L2 l1_0 a2).length : Int)) = true := decide_eq_true c26
         clear c26
         by_cases c27 : 0 ≤ x8_2
         ·rw [if_pos c27] at H
          have c27b0 : decide (0 ≤ x8_2) = true := decide_eq_true c27
          clear c27
          by_cases c28 : 0 ≤ (rd (rd_L2 l1_0 a2) x8_2)
          ·rw [if_pos c28] at H
           have c28b0 : decide (0 ≤ (rd (rd_L2 l1_0 a2) x8_2)) = true := decide_eq_true c28
           clear c28
           by_cases c29 : (rd (rd_L2 l1_0 a2) x8_2) < (l0_2.length : Int)
           ·rw [if_pos c29] at H
            have c29b0 : decide ((rd (rd_L2 l1_0 a2) x8_2) < (l0_2.length : Int)) = true := decide_eq_true c29
            clear c29
            by_cases c30 : ((rd_T65 l0_2 (rd (rd_L2 l1_0 a2) x8_2)).f0) = 2
            ·rw [if_pos c30] at H
             have c30b0 : (((rd_T65 l0_2 (rd (rd_L2 l1_0 a2) x8_2)).f0) == 2) = true := beq_iff_eq.mpr c30
             have c30b1 : (((rd_T65 l0_2 (rd (rd_L2 l1_0 a2) x8_2)).f0) != 2) = false := bne_eq_false_iff_eq.mpr c30
             clear c30; have H' := za H; clear H
             have hnb31 := NB299_298.out
             have hnc31 := NB298_299.out
             obtain ⟨hcz32_0, hfz32_0⟩ := z1 BK299
             have p301 : 0 ≤ (a2 : Int) := of_decide_eq_true q7b
             have q301 : a2 < (l1_0.length : Int) := of_decide_eq_true q7b
             obtain ⟨ad301, A301_0, c301_0, e301, hx301_0, hl301_0, hi301_0⟩ := at_L2 HR1_0.out a2 p301 q301
             cases e301
             replace hx301_0 := zx HB hx301_0
             have HR301_0 := za hi301_0; have HC301_0 := za hl301_0; clear hi301_0 hl301_0
             replace p301 := eq_true p301
             replace q301 := eq_true q301
             have p302 : 0 ≤ (a2 : Int) := of_decide_eq_true q7b
             have q302 : a2 < (l1_0.length : Int) := of_decide_eq_true q7b
             obtain ⟨ad302, A302_0, c302_0, e302, hx302_0, hl302_0, hi302_0⟩ := at_L2 HR1_0.out a2 p302 q302
             obtain rfl : ad301 = ad302 := (by injection e302)
             replace hx302_0 := zx HB hx302_0
             have HR302_0 := za hi302_0; have HC302_0 := za hl302_0; clear hi302_0 hl302_0
             replace p302 := eq_true p302
             replace q302 := eq_true q302
             have ea_ := Option.some.inj (hx301_0.symm.trans hx302_0)
             injection ea_ with ea_ en_ ec_
             subst ea_
             subst ec_
             clear en_
             have p303 : 0 ≤ (x8_2 : Int) := of_decide_eq_true q7b
             have q303 : x8_2 < ((rd_L2 l1_0 a2).length : Int) := of_decide_eq_true q7b
             obtain ⟨ad303, e303, hx303_0⟩ := Kd.at_int HR302_0.out x8_2 p303 q303
             cases e303
             replace hx303_0 := zx HB hx303_0
             replace p303 := eq_true p303
             replace q303 := eq_true q303
             obtain ⟨hcz33_0, hcz33_1, hcz33_2, hfz33_0, hfz33_1, hfz33_2⟩ := z3 BK298
             have p304 : 0 ≤ ((rd (rd_L2 l1_0 a2) x8_2) : Int) := of_decide_eq_true q7b
             have q304 : (rd (rd_L2 l1_0 a2) x8_2) < (l0_2.length : Int) := of_decide_eq_true q7b
             obtain ⟨ad304, e304, hx304_0, hx304_1, hx304_2, hx304_3, hx304_4, hx304_5⟩ := at_T65 HR0_2.out (rd (rd_L2 l1_0 a2) x8_2) p304 q304
             cases e304
             replace hx304_0 := zx HB hx304_0
             replace hx304_1 := zx HB hx304_1
             replace hx304_2 := zx HB hx304_2
             replace hx304_3 := zx HB hx304_3
             replace hx304_4 := zx HB hx304_4
             replace hx304_5 := zx HB hx304_5
             replace p304 := eq_true p304
             replace q304 := eq_true q304
             go_wp2
             go_loopg [7, 10] k2 (fun kq v7 v10 w' => ∃ (x7_3 : List (S46)) (x10_3 : Int), v10 = .int .i64 x10_3 ∧ Aside0 (awardingbodyref12_Fields.l1 kq a2 x7_3 x8_2 (rd (rd_L2 l1_0 a2) x8_2) x10_3 a0_0 a0_1 l0_2 l1_0 = some r) ∧ Aside0 (kq ≤ k2) ∧ Aside0 (Kd.R k46 46 w' w.heap.size (fun _ => True) v7 x7_3) ∧ Aside0 (w'.heap[gb298]? = some (.cells #[.int .i64 a0_0, .int .i64 a0_1, (.slice (some ad304) l0_2.length c0_2)] 53 (0, 0))) ∧ Aside0 (w'.heap[gb299]? = some (.cells #[(.slice (some ad301) l1_0.length c1_0)] 56 (0, 0))) ∧ Aside0 (Below w.heap.size w w'))
             case atStart => exact ⟨(x7_2), (0), q7c, H', ⟨Nat.le_refl _⟩, ⟨by (with_reducible repeat (first | apply Kd.R_alloc | apply Kd.R_drewN | apply Kd.R_drew)); exact HO_7.out⟩, ⟨q7a⟩, ⟨q7a⟩, ⟨zm HB⟩⟩
             case round =>
              clear H'; (try clear c1); (try clear c2); (try clear p2); (try clear c3); (try clear p3); (try clear q3); (try clear hx3); (try clear c5); (try clear c8); (try clear c9); (try clear c9b0); (try clear c10); (try clear c14); (try clear c19); (try clear c23); (try clear c24); (try clear c24b0); (try clear c25); (try clear c25b0); (try clear c26); (try clear c26b0); (try clear c27); (try clear c27b0); (try clear c28); (try clear c28b0); (try clear c29); (try clear c29b0); (try clear c30); (try clear c30b0); (try clear c30b1); (try clear p30); (try clear q30); (try clear hx30); (try clear c31); (try clear hcz11_0); (try clear hcz11_1); (try clear hcz11_2); (try clear hcz12_0); (try clear hcz15_0); (try clear hcz15_1); (try clear hcz15_2); (try clear hcz16_0); (try clear hcz18_0); (try clear hcz20_0); (try clear hcz20_1); (try clear hcz20_2); (try clear hcz21_0); (try clear hcz32_0); (try clear hcz33_0); (try clear hcz33_1); (try clear hcz33_2); (try clear hfz11_0); (try clear hfz11_1); (try clear hfz11_2); (try clear hfz12_0); (try clear hfz15_0); (try clear hfz15_1); (try clear hfz15_2); (try clear hfz16_0); (try clear hfz18_0); (try clear hfz20_0); (try clear hfz20_1); (try clear hfz20_2); (try clear hfz21_0); (try clear hfz32_0); (try clear hfz33_0); (try clear hfz33_1); (try clear hfz33_2); (try clear hx301_0); (try clear hx302_0); (try clear hx303_0); (try clear hx304_0); (try clear hx304_1); (try clear hx304_2); (try clear hx304_3); (try clear hx304_4); (try clear hx304_5); (try clear p2); (try clear p301); (try clear p302); (try clear p303); (try clear p304); (try clear q301); (try clear q302); (try clear q303); (try clear q304)
              obtain ⟨x7_3, x10_3, rfl, HA, HK3, HO_7, BK298, BK299, HB⟩ := hrel
              cases gk with
              | zero => exact absurd HA.out (by simp [awardingbodyref12_Fields.l1])
              | succ k3 =>
               have H := HA.out
               clear HA
               simp only [awardingbodyref12_Fields.l1] at H
               by_cases c34 : 0 ≤ (rd (rd_L2 l1_0 a2) x8_2)
               ·rw [if_pos c34] at H
                have c34b0 : decide (0 ≤ (rd (rd_L2 l1_0 a2) x8_2)) = true := decide_eq_true c34
                clear c34
                by_cases c35 : (rd (rd_L2 l1_0 a2) x8_2) < (l0_2.length : Int)
                ·rw [if_pos c35] at H
                 have c35b0 : decide ((rd (rd_L2 l1_0 a2) x8_2) < (l0_2.length : Int)) = true := decide_eq_true c35
                 clear c35
                 by_cases c36 : x10_3 < ((rd_T65 l0_2 (rd (rd_L2 l1_0 a2) x8_2)).f4)
                 ·rw [if_pos c36] at H
                  have c36b0 : decide (x10_3 < ((rd_T65 l0_2 (rd (rd_L2 l1_0 a2) x8_2)).f4)) = true := decide_eq_true c36
                  clear c36
                  by_cases c37 : x7_3.length < 8796093022208
                  ·rw [if_pos c37] at H
                   have LMc37 := za c37; clear c37
                   obtain ⟨y306, hy_⟩ : ∃ y_ : List (S46), y_ = (x7_3 ++ [(⟨(rd (rd_L2 l1_0 a2) x8_2), x10_3⟩ : S46)]) := ⟨_, rfl⟩
                   replace H : (awardingbodyref12_Fields.l1 k3 a2 y306 x8_2 (rd (rd_L2 l1_0 a2) x8_2) (wrap64 (x10_3 + 1)) a0_0 a0_1 l0_2 l1_0) = some r := q7f
                   have Ny306 := za hy_; clear hy_; have H' := za H; clear H
                   have hnb38 := NB298_299.out
                   have hnc38 := NB299_298.out
                   obtain ⟨hcz39_0, hcz39_1, hcz39_2, hfz39_0, hfz39_1, hfz39_2⟩ := z3 BK298
                   have p305 : 0 ≤ ((rd (rd_L2 l1_0 a2) x8_2) : Int) := of_decide_eq_true q7b
                   have q305 : (rd (rd_L2 l1_0 a2) x8_2) < (l0_2.length : Int) := of_decide_eq_true q7b
                   obtain ⟨ad305, e305, hx305_0, hx305_1, hx305_2, hx305_3, hx305_4, hx305_5⟩ := at_T65 HR0_2.out (rd (rd_L2 l1_0 a2) x8_2) p305 q305
                   obtain rfl : ad304 = ad305 := (by injection e305)
                   replace hx305_0 := zx HB hx305_0
                   replace hx305_1 := zx HB hx305_1
                   replace hx305_2 := zx HB hx305_2
                   replace hx305_3 := zx HB hx305_3
                   replace hx305_4 := zx HB hx305_4
                   replace hx305_5 := zx HB hx305_5
                   replace p305 := eq_true p305
                   replace q305 := eq_true q305
                   go_wp2_with (first | ((with_reducible refine gate_builtin (b := .append) (xs := #[.tmp 61, .tmp 65]) rfl ?_); (try (refine gate_guard (by rfl) ?_; dsimp only)); at_builtin; refine Kd.R_append k46 (w0 := w) w.heap.size rfl (.tmp 61) (.tmp 65) 44 46 (.agg #[(.int .i64 0), (.int .i64 0)]) 16 rfl Try.underlying44 info46 rfl (by decide) (by omega) u7 x7_3 (⟨(rd (rd_L2 l1_0 a2) x8_2), x10_3⟩ : S46) [.int .i64 (rd (rd_L2 l1_0 a2) x8_2), .int .i64 x10_3] (fun _ => True) (fun _ => False) rfl rfl ?aP (fun _ hk => hk.elim) ?aF ?aO ?aB ?aS ?aL ?_; (case aP => exact k46_mkM _ _ _ (⟨(rd (rd_L2 l1_0 a2) x8_2), x10_3⟩ : S46)); (case aB => exact (zm HB)); (case aF => exact (fun _ _ => trivial)); (case aO => exact (by (with_reducible repeat (first | apply Kd.R_alloc | apply Kd.R_drewN | apply Kd.R_drew)); exact HO_7.out)); (case aS => exact (below_size (zm HB))); (case aL => have := LMc37.out; omega); intro v307 w40 ho hb hg hat; rw [← Ny306.out] at ho; have HO308 := za (ho); replace BK298 := (zw BK298 hg (Kd.R_ne HO_7.out BK298.out (by decide))); replace BK299 := (zw BK299 hg (Kd.R_ne HO_7.out BK299.out (by decide))); replace HB := za (hb); clear HO_7 ho hb hg hat))
                   go_roundg k3
                   case measure => have := HJ3.out; have := HK2.out; have := HK3.out; omega
                   case rel => exact ⟨(y306), (wrap64 (x10_3 + 1)), q7c, H', ⟨by have := HJ3.out; have := HK2.out; have := HK3.out; omega⟩, ⟨by (with_reducible repeat (first | apply Kd.R_alloc | apply Kd.R_drewN | apply Kd.R_drew)); exact HO308.out⟩, ⟨q7a⟩, ⟨q7a⟩, ⟨zm HB⟩⟩
                  ·rw [if_neg c37] at H
                   exact absurd H (by simp)
                 ·rw [if_neg c36] at H
                  have c36b0 : decide (x10_3 < ((rd_T65 l0_2 (rd (rd_L2 l1_0 a2) x8_2)).f4)) = false := decide_eq_false c36
                  clear c36; have H' := za H; clear H
                  have hnb41 := NB298_299.out
                  have hnc41 := NB299_298.out
                  obtain ⟨hcz42_0, hcz42_1, hcz42_2, hfz42_0, hfz42_1, hfz42_2⟩ := z3 BK298
                  have p305 : 0 ≤ ((rd (rd_L2 l1_0 a2) x8_2) : Int) := of_decide_eq_true q7b
                  have q305 : (rd (rd_L2 l1_0 a2) x8_2) < (l0_2.length : Int) := of_decide_eq_true q7b
                  obtain ⟨ad305, e305, hx305_0, hx305_1, hx305_2, hx305_3, hx305_4, hx305_5⟩ := at_T65 HR0_2.out (rd (rd_L2 l1_0 a2) x8_2) p305 q305
                  obtain rfl : ad304 = ad305 := (by injection e305)
                  replace hx305_0 := zx HB hx305_0
                  replace hx305_1 := zx HB hx305_1
                  replace hx305_2 := zx HB hx305_2
                  replace hx305_3 := zx HB hx305_3
                  replace hx305_4 := zx HB hx305_4
                  replace hx305_5 := zx HB hx305_5
                  replace p305 := eq_true p305
                  replace q305 := eq_true q305
                  go_wp2
                  go_roundg k3
                  case measure => have := HJ3.out; have := HK2.out; have := HK3.out; omega
                  case rel => exact ⟨(x7_3), (wrap64 (x8_2 + 1)), q7c, H', ⟨by have := HJ3.out; have := HK2.out; have := HK3.out; omega⟩, ⟨by (with_reducible repeat (first | apply Kd.R_alloc | apply Kd.R_drewN | apply Kd.R_drew)); exact HO_7.out⟩, ⟨q7a⟩, ⟨q7a⟩, ⟨zm HB⟩⟩
                ·rw [if_neg c35] at H
                 exact absurd H (by simp)
               ·rw [if_neg c34] at H
                exact absurd H (by simp)
            ·rw [if_neg c30] at H
             have c30b0 : (((rd_T65 l0_2 (rd (rd_L2 l1_0 a2) x8_2)).f0) == 2) = false := beq_eq_false_iff_ne.mpr c30
             have c30b1 : (((rd_T65 l0_2 (rd (rd_L2 l1_0 a2) x8_2)).f0) != 2) = true := bne_iff_ne.mpr c30
             have H' := za H; clear H
             have hnb43 := NB299_298.out
             have hnc43 := NB298_299.out
             obtain ⟨hcz44_0, hfz44_0⟩ := z1 BK299
             have p301 : 0 ≤ (a2 : Int) := of_decide_eq_true q7b
             have q301 : a2 < (l1_0.length : Int) := of_decide_eq_true q7b
             obtain ⟨ad301, A301_0, c301_0, e301, hx301_0, hl301_0, hi301_0⟩ := at_L2 HR1_0.out a2 p301 q301
             cases e301
             replace hx301_0 := zx HB hx301_0
             have HR301_0 := za hi301_0; have HC301_0 := za hl301_0; clear hi301_0 hl301_0
             replace p301 := eq_true p301
             replace q301 := eq_true q301
             have p302 : 0 ≤ (a2 : Int) := of_decide_eq_true q7b
             have q302 : a2 < (l1_0.length : Int) := of_decide_eq_true q7b
             obtain ⟨ad302, A302_0, c302_0, e302, hx302_0, hl302_0, hi302_0⟩ := at_L2 HR1_0.out a2 p302 q302
             obtain rfl : ad301 = ad302 := (by injection e302)
             replace hx302_0 := zx HB hx302_0
             have HR302_0 := za hi302_0; have HC302_0 := za hl302_0; clear hi302_0 hl302_0
             replace p302 := eq_true p302
             replace q302 := eq_true q302
             have ea_ := Option.some.inj (hx301_0.symm.trans hx302_0)
             injection ea_ with ea_ en_ ec_
             subst ea_
             subst ec_
             clear en_
             have p303 : 0 ≤ (x8_2 : Int) := of_decide_eq_true q7b
             have q303 : x8_2 < ((rd_L2 l1_0 a2).length : Int) := of_decide_eq_true q7b
             obtain ⟨ad303, e303, hx303_0⟩ := Kd.at_int HR302_0.out x8_2 p303 q303
             cases e303
             replace hx303_0 := zx HB hx303_0
             replace p303 := eq_true p303
             replace q303 := eq_true q303
             obtain ⟨hcz45_0, hcz45_1, hcz45_2, hfz45_0, hfz45_1, hfz45_2⟩ := z3 BK298
             have p304 : 0 ≤ ((rd (rd_L2 l1_0 a2) x8_2) : Int) := of_decide_eq_true q7b
             have q304 : (rd (rd_L2 l1_0 a2) x8_2) < (l0_2.length : Int) := of_decide_eq_true q7b
             obtain ⟨ad304, e304, hx304_0, hx304_1, hx304_2, hx304_3, hx304_4, hx304_5⟩ := at_T65 HR0_2.out (rd (rd_L2 l1_0 a2) x8_2) p304 q304
             cases e304
             replace hx304_0 := zx HB hx304_0
             replace hx304_1 := zx HB hx304_1
             replace hx304_2 := zx HB hx304_2
             replace hx304_3 := zx HB hx304_3
             replace hx304_4 := zx HB hx304_4
             replace hx304_5 := zx HB hx304_5
             replace p304 := eq_true p304
             replace q304 := eq_true q304
             go_wp2
             go_roundg k2
             case measure => have := HJ3.out; have := HK2.out; omega
             case rel => exact ⟨(x7_2), (wrap64 (x8_2 + 1)), q7c, H', ⟨by have := HJ3.out; have := HK2.out; omega⟩, ⟨by (with_reducible repeat (first | apply Kd.R_alloc | apply Kd.R_drewN | apply Kd.R_drew)); exact HO_7.out⟩, ⟨q7a⟩, ⟨q7a⟩, ⟨zm HB⟩⟩
           ·rw [if_neg c29] at H
            exact absurd H (by simp)
          ·rw [if_neg c28] at H
           exact absurd H (by simp)
         ·rw [if_neg c27] at H
          exact absurd H (by simp)
        ·rw [if_neg c26] at H
         have c26b0 : decide (x8_2 < ((rd_L2 l1_0 a2).length : Int)) = false := decide_eq_false c26
         clear c26
         obtain rfl := Option.some.inj H
         have hnb46 := NB299_298.out
         have hnc46 := NB298_299.out
         obtain ⟨hcz47_0, hfz47_0⟩ := z1 BK299
         have p301 : 0 ≤ (a2 : Int) := of_decide_eq_true q7b
         have q301 : a2 < (l1_0.length : Int) := of_decide_eq_true q7b
         obtain ⟨ad301, A301_0, c301_0, e301, hx301_0, hl301_0, hi301_0⟩ := at_L2 HR1_0.out a2 p301 q301
         cases e301
         replace hx301_0 := zx HB hx301_0
         have HR301_0 := za hi301_0; have HC301_0 := za hl301_0; clear hi301_0 hl301_0
         replace p301 := eq_true p301
         replace q301 := eq_true q301
         go_wp2
         go_ret
         exact ⟨_, zf, by (with_reducible repeat (first | apply Kd.R_alloc | apply Kd.R_drewN | apply Kd.R_drew)); exact HO_7.out, zm HB⟩
       ·rw [if_neg c25] at H
        exact absurd H (by simp)
      ·rw [if_neg c24] at H
       exact absurd H (by simp)

/-! ### slices_Clone_int_int: function 46 -/
def slices_Clone_int_int.f (l0 : List Int) : Option (List Int) := (some (([] : List Int) : List Int)).bind fun y309 => (if y309.length + l0.length < 17592186044416 then (some (y309 ++ l0)) else (none))
theorem slices_Clone_int_int.isnil {P : Program} (w : World) {t e : TypeId} (n c : Nat) (ht : P.underlying t = some (.slice e)) : (binOp .eql t (.slice none n c) (.slice none 0 0)).run P w = .ok (.bool true) w := by
  have h : ∀ d : Nat, (Op.equalIn (d + 1) t (.slice none n c) (.slice none 0 0)).run P w = .ok true w := fun d => by
    simp [Op.equalIn, run_underlying ht]
  simp only [binOp]
  simp [Op.equal, Op.maxDepth, h 9999]
theorem slices_Clone_int_int.nonil {P : Program} (w : World) {t e : TypeId} (a : Addr) (n c : Nat) (ht : P.underlying t = some (.slice e)) : (binOp .eql t (.slice (some a) n c) (.slice none 0 0)).run P w = .ok (.bool false) w := by
  have h : ∀ d : Nat, (Op.equalIn (d + 1) t (.slice (some a) n c) (.slice none 0 0)).run P w = .ok false w := fun d => by
    simp [Op.equalIn, run_underlying ht]
  simp only [binOp]
  simp [Op.equal, Op.maxDepth, h 9999]
set_option maxHeartbeats 8000000 in
set_option maxRecDepth 100000 in
theorem slices_Clone_int_int.calls (A0 : Option Addr) (c0 : Nat) (l0 : List Int) (r : List Int) (w : World) (hr0 : Kd.C (Kd.int .i64) w A0 l0.length l0) (hc0 : l0.length ≤ c0) (h : slices_Clone_int_int.f l0 = some r) :
    Calls Try.prog 46 #[.slice A0 l0.length c0] w fun e w' => ∃ v0_ : Value, e = .returned (v0_) ∧ Kd.R (Kd.int .i64) 3 w' w.heap.size (fun _ => True) v0_ r ∧ Below w.heap.size w w' := by
 by_cases hn_ : A0 = none
 ·subst hn_
  have hz_ : l0 = [] := by
   cases l0 with
   | nil => rfl
   | cons x xs => obtain ⟨ad, h_, _⟩ := hr0.2.2 (by simp); cases h_
  subst hz_
  have hr_ : ([] : List Int) = r := by simpa [slices_Clone_int_int.f] using h
  subst hr_
  have he_ := fun W n => slices_Clone_int_int.isnil (P := Try.prog) W n c0 Try.underlying28
  clear h hr0 hc0
  go_enter Try.func46, Try.ntmps46
  go_wp2
  go_ret
  exact ⟨_, rfl, Kd.R_nil _ _ _ _ _, Below.refl _ _⟩
 have he_ : ∀ W, (binOp .eql 28 (.slice A0 l0.length c0) (.slice none 0 0)).run Try.prog W = .ok (.bool false) W := by
  obtain ⟨ad_, rfl⟩ := Option.ne_none_iff_exists'.1 hn_
  exact fun W => slices_Clone_int_int.nonil W ad_ _ _ Try.underlying28
 clear hn_; have HR0 := za hr0; have HC0 := za hc0; clear hr0 hc0
 have HB := za (Below.refl w.heap.size w)
 have H : ((some (([] : List Int) : List Int)).bind fun y309 => (if y309.length + l0.length < 17592186044416 then (some (y309 ++ l0)) else (none))) = some r := h
 clear h
 obtain ⟨y309, hy_⟩ : ∃ y_ : List Int, y_ = (([] : List Int)) := ⟨_, rfl⟩
 replace H : (if y309.length + l0.length < 17592186044416 then (some (y309 ++ l0)) else (none)) = some r := q7f
 have Ny309 := za hy_; clear hy_
 by_cases c2 : y309.length + l0.length < 17592186044416
 ·rw [if_pos c2] at H
  have LMc2 := za c2; clear c2
  obtain ⟨y312, hy_⟩ : ∃ y_ : List Int, y_ = (y309 ++ l0) := ⟨_, rfl⟩
  replace H : (some y312) = some r := q7f
  have Ny312 := za hy_; clear hy_
  obtain rfl := Option.some.inj H
  go_enter Try.func46, Try.ntmps46
  go_wp2_with (first | ((with_reducible refine gate_dst (N := 5) rfl ?_); refine Kd.R_lit (Kd.int .i64) _ 3 ?hg (N := 5) ?hd (xs := ([] : List Int)) (inner := []) (ok := fun _ => True) (okp := fun _ => True) ?hr ?hp (fun _ hk => hk) trivial (Below.refl _ _) (Nat.le_refl _) (by simp) ?_; (case hd => rfl); (case hg => rfl); (case hr => first | (go_simp; done) | (go_simp; rfl)); (case hp => exact (Reps.none _ _)); intro v310 w3 ho4 hb hg_ hnew_; clear hg_ hnew_; (first | rw [← Ny309.out] at ho4 | (simp only [Int.reduceToNat] at ho4; rw [← Ny309.out] at ho4)); have HO311 := za (Kd.R_lower ho4 (below_size (zm HB))); replace HB := zs HB hb; clear hb ho4) | ((with_reducible refine gate_builtin (b := .append) (xs := #[.tmp 5, .tmp 6]) rfl ?_); at_builtin; refine Kd.R_append_rows (Kd.int .i64) (w0 := w) w.heap.size rfl (.tmp 5) (.tmp 6) 28 3 (.int .i64 0) 8 rfl Try.underlying28 info3 rfl (by decide) (by omega) v310 y309 l0 _ _ _ (fun _ => True) (fun _ => False) rfl rfl ?aO ?aR (fun _ _ h => h) (fun _ h => h.elim) ?aF ?aB ?aS ?aL ?_; (case aR => exact zC HR0 HB); (case aB => exact (zm HB)); (case aF => exact (fun _ _ => trivial)); (case aO => exact (by (with_reducible repeat (first | apply Kd.R_alloc | apply Kd.R_drewN | apply Kd.R_drew)); exact HO311.out)); (case aS => exact (below_size (zm HB))); (case aL => have := LMc2.out; omega); intro v313 w5 ho hb hg hat; rw [← Ny312.out] at ho; have HO314 := za (ho); replace HB := za (hb); clear HO311 ho hb hg hat))
  go_ret
  exact ⟨_, zf, by (with_reducible repeat (first | apply Kd.R_alloc | apply Kd.R_drewN | apply Kd.R_drew)); exact HO314.out, zm HB⟩
 ·rw [if_neg c2] at H
  exact absurd H (by simp)

end Go.Proofs.Ythbmpjglkbhhgaa.Print
