-- Printed by a program of this session (wip/own_print.py) out of the translation; Lean checks it.
import Derived.Test.YtbgeoadaeihgkaaPrint0
import Derived.Test.YtbgeoadaeihgkaaPrint4
namespace Go.Proofs.Ytbgeoadaeihgkaa.Print
open Go.RowKit Go.Proofs.YtbgeoadaeihgkaaW.PrintWords Go.Proofs.YtbgeoadaeihgkaaW.PrintLast Go.Proofs.YtbgeoadaeihgkaaW.PrintMore
attribute [local go_sem] max2_int min2_int max_two min_two max_three min_three max_four min_four   -- for this text's walks alone
set_option linter.unusedVariables false
set_option linter.unusedSimpArgs false

/-! ### awardingbodyref14_applies: function 43 -/
def awardingbodyref14_applies.l0 : Nat → List (S49) → Int → Int → Int → Int → Int → Int → Int → Option (Bool)
  | 0, _, _, _, _, _, _, _, _ => none
  | k + 1, x1, x2, x3, x9, x279000, x279001, x279002, x279003 => if x9 < (x1.length : Int) then (if 0 ≤ x9 then (if ((rd_T49 x1 x9).f0) = x2 then ((awardingbodyref14_level.f ((rd_T49 x1 x9).f1)).bind fun t281 => (if t281 = true then ((awardingbodyref14_level.f ((rd_T49 x1 x9).f2)).bind fun t282 => (if t282 = true then (if ((rd_T49 x1 x9).f3) ≤ x3 then (if x3 ≤ ((rd_T49 x1 x9).f4) then (if ((rd_T49 x1 x9).f1) = x279000 then (if ((rd_T49 x1 x9).f2) ≥ x279001 then (some true) else (awardingbodyref14_applies.l0 k x1 x2 x3 (wrap64 (x9 + 1)) x279000 x279001 x279002 x279003)) else (awardingbodyref14_applies.l0 k x1 x2 x3 (wrap64 (x9 + 1)) x279000 x279001 x279002 x279003)) else (awardingbodyref14_applies.l0 k x1 x2 x3 (wrap64 (x9 + 1)) x279000 x279001 x279002 x279003)) else (awardingbodyref14_applies.l0 k x1 x2 x3 (wrap64 (x9 + 1)) x279000 x279001 x279002 x279003)) else (awardingbodyref14_applies.l0 k x1 x2 x3 (wrap64 (x9 + 1)) x279000 x279001 x279002 x279003))) else (awardingbodyref14_applies.l0 k x1 x2 x3 (wrap64 (x9 + 1)) x279000 x279001 x279002 x279003))) else (awardingbodyref14_applies.l0 k x1 x2 x3 (wrap64 (x9 + 1)) x279000 x279001 x279002 x279003)) else (none)) else (some false)
def awardingbodyref14_applies.f (k : Nat) (a0_0 : Int) (a0_1 : Int) (a0_2 : Int) (a0_3 : Int) (l1 : List (S49)) (a2 : Int) (a3 : Int) : Option (Bool) := awardingbodyref14_applies.l0 k l1 a2 a3 0 a0_0 a0_1 a0_2 a0_3
theorem awardingbodyref14_applies.mono_l : ∀ k, (∀ y0 y1 y2 y3 y4 y5 y6 y7, LeO (awardingbodyref14_applies.l0 k y0 y1 y2 y3 y4 y5 y6 y7) (awardingbodyref14_applies.l0 (k + 1) y0 y1 y2 y3 y4 y5 y6 y7))
  | 0 => fun _ _ _ _ _ _ _ _ r h => by simp [awardingbodyref14_applies.l0] at h
  | k + 1 => by
    have ih0 := awardingbodyref14_applies.mono_l k
    · intro y0 y1 y2 y3 y4 y5 y6 y7
      unfold awardingbodyref14_applies.l0
      repeat' first
      | (with_reducible exact ih0 _ _ _ _ _ _ _ _)
      | (with_reducible exact LeO.refl _)
      | (with_reducible exact LeO.none _)
      | (with_reducible refine LeO.ite ?_ ?_)
      | (with_reducible refine LeO.bind ?_ (fun _ => ?_))
      | exact ih0 _ _ _ _ _ _ _ _
      | exact LeO.none _
      | refine LeO.ite ?_ ?_
      | refine LeO.bind ?_ (fun _ => ?_)
theorem awardingbodyref14_applies.mono : ∀ a0 a1 a2 a3 a4 a5 a6 k, LeO (awardingbodyref14_applies.f k a0 a1 a2 a3 a4 a5 a6) (awardingbodyref14_applies.f (k + 1) a0 a1 a2 a3 a4 a5 a6) := by
  intro a0 a1 a2 a3 a4 a5 a6 k
  have ih0 := awardingbodyref14_applies.mono_l k
  unfold awardingbodyref14_applies.f
  repeat' first
      | (with_reducible exact ih0 _ _ _ _ _ _ _ _)
      | (with_reducible exact LeO.refl _)
      | (with_reducible exact LeO.none _)
      | (with_reducible refine LeO.ite ?_ ?_)
      | (with_reducible refine LeO.bind ?_ (fun _ => ?_))
      | exact ih0 _ _ _ _ _ _ _ _
      | exact LeO.none _
      | refine LeO.ite ?_ ?_
      | refine LeO.bind ?_ (fun _ => ?_)
set_option maxHeartbeats 8000000 in
set_option maxRecDepth 100000 in
theorem awardingbodyref14_applies.calls (k : Nat) (a0_0 : Int) (a0_1 : Int) (a0_2 : Int) (a0_3 : Int) (A1 : Option Addr) (c1 : Nat) (l1 : List (S49)) (a2 : Int) (a3 : Int) (r : Bool) (w : World) (hr1 : Kd.C k49 w A1 l1.length l1) (hc1 : l1.length ≤ c1) (h : awardingbodyref14_applies.f k a0_0 a0_1 a0_2 a0_3 l1 a2 a3 = some r) :
    Calls Try.prog 43 #[.agg #[.int .i64 a0_0, .int .i64 a0_1, .int .i64 a0_2, .int .i64 a0_3], .slice A1 l1.length c1, .int .i64 a2, .int .i64 a3] w fun e w' => e = .returned (.bool r) ∧ Below w.heap.size w w' := by
 have hu28 := Try.underlying28
 have hu49 := Try.underlying49
 have HR1 := Aside0.mk hr1
 have HC1 := Aside0.mk hc1
 clear hr1 hc1
 have HB := Aside0.mk (Below.refl w.heap.size w)
 have H : (awardingbodyref14_applies.l0 k l1 a2 a3 0 a0_0 a0_1 a0_2 a0_3) = some r := h
 clear h
 have H' := Aside0.mk H
 clear H
 go_enter Try.func43, Try.ntmps43
 go_wp2_with (first | ((with_reducible refine gate_dst (N := 4) rfl ?_); refine box_event ?hg (N := 4) ?hd (cs := #[.int .i64 a0_0, .int .i64 a0_1, .int .i64 a0_2, .int .i64 a0_3]) (t := 28) ?hr ?_; (case hd => rfl); (case hg => rfl); (case hr => first | (go_simp; done) | (go_simp; rfl)); intro gb278 hg w5 hbox hb; have n0_ := Aside0.mk (below_step (by repeat (first | (with_reducible first | exact HB.out | apply below_alloc | apply pw_below_drewN | apply below_drew1) | exact HB.out)) hb); have n1_ := Aside0.mk (hbox); have n2_ := Aside0.mk ((by rw [hg]; exact (below_size (by repeat (first | (with_reducible first | exact HB.out | apply below_alloc | apply pw_below_drewN | apply below_drew1) | exact HB.out))) : w.heap.size ≤ gb278)); have n3_ := Aside0.mk ((by rw [hg]; exact (below_size (by repeat (first | (with_reducible first | exact HB.out | apply below_alloc | apply pw_below_drewN | apply below_drew1) | exact HB.out))) : w.heap.size ≤ gb278)); clear HB; have HB := n0_; have BK278 := n1_; have GW278 := n2_; have GE278 := n3_; clear n0_ n1_ n2_ n3_ hb hbox hg))
 go_loopg [9] k (fun kq v9 w' => ∃ (x9_1 : Int), v9 = .int .i64 x9_1 ∧ Aside0 (awardingbodyref14_applies.l0 kq l1 a2 a3 x9_1 a0_0 a0_1 a0_2 a0_3 = some r) ∧ Aside0 (kq ≤ k) ∧ Aside0 (w'.heap[gb278]? = some (.cells #[.int .i64 a0_0, .int .i64 a0_1, .int .i64 a0_2, .int .i64 a0_3] 28 (0, 0))) ∧ Aside0 (Below w.heap.size w w'))
 case atStart => exact ⟨(0), (by first | rfl | (simp; done) | (simp [*]; done)), H', ⟨Nat.le_refl _⟩, ⟨by (with_reducible repeat (first | refine blk_drewN ?_ _ | refine blk_drew ?_ | refine blk_alloc ?_ _)); exact BK278.out⟩, ⟨by repeat (first | (with_reducible first | exact HB.out | apply below_alloc | apply pw_below_drewN | apply below_drew1 | refine below_set ?_ GE278.out) | exact HB.out)⟩⟩
 case round =>
  clear H'
  try clear c1
  try clear p2
  try clear c4
  obtain ⟨x9_1, rfl, HA, HK1, BK278, HB⟩ := hrel
  cases gk with
  | zero => exact absurd HA.out (by simp [awardingbodyref14_applies.l0])
  | succ k1 =>
   have H := HA.out
   clear HA
   simp only [awardingbodyref14_applies.l0] at H
   by_cases c6 : x9_1 < (l1.length : Int)
   ·rw [if_pos c6] at H
    have c6b0 : decide (x9_1 < (l1.length : Int)) = true := decide_eq_true c6
    clear c6
    by_cases c7 : 0 ≤ x9_1
    ·rw [if_pos c7] at H
     have c7b0 : decide (0 ≤ x9_1) = true := decide_eq_true c7
     clear c7
     by_cases c8 : ((rd_T49 l1 x9_1).f0) = a2
     ·rw [if_pos c8] at H
      have c8b0 : (((rd_T49 l1 x9_1).f0) == a2) = true := beq_iff_eq.mpr c8
      have c8b1 : (((rd_T49 l1 x9_1).f0) != a2) = false := bne_eq_false_iff_eq.mpr c8
      clear c8
      replace H := Option.bind_eq_some_iff.mp H
      obtain ⟨t281, A90, H⟩ := H
      replace H : (if t281 = true then ((awardingbodyref14_level.f ((rd_T49 l1 x9_1).f2)).bind fun t282 => (if t282 = true then (if ((rd_T49 l1 x9_1).f3) ≤ a3 then (if a3 ≤ ((rd_T49 l1 x9_1).f4) then (if ((rd_T49 l1 x9_1).f1) = a0_0 then (if ((rd_T49 l1 x9_1).f2) ≥ a0_1 then (some true) else (awardingbodyref14_applies.l0 k1 l1 a2 a3 (wrap64 (x9_1 + 1)) a0_0 a0_1 a0_2 a0_3)) else (awardingbodyref14_applies.l0 k1 l1 a2 a3 (wrap64 (x9_1 + 1)) a0_0 a0_1 a0_2 a0_3)) else (awardingbodyref14_applies.l0 k1 l1 a2 a3 (wrap64 (x9_1 + 1)) a0_0 a0_1 a0_2 a0_3)) else (awardingbodyref14_applies.l0 k1 l1 a2 a3 (wrap64 (x9_1 + 1)) a0_0 a0_1 a0_2 a0_3)) else (awardingbodyref14_applies.l0 k1 l1 a2 a3 (wrap64 (x9_1 + 1)) a0_0 a0_1 a0_2 a0_3))) else (awardingbodyref14_applies.l0 k1 l1 a2 a3 (wrap64 (x9_1 + 1)) a0_0 a0_1 a0_2 a0_3)) = some r := H
      have A9 := Aside0.mk A90
      clear A90
      by_cases c10 : t281 = true
      ·subst c10
       have H1 : ((awardingbodyref14_level.f ((rd_T49 l1 x9_1).f2)).bind fun t282 => (if t282 = true then (if ((rd_T49 l1 x9_1).f3) ≤ a3 then (if a3 ≤ ((rd_T49 l1 x9_1).f4) then (if ((rd_T49 l1 x9_1).f1) = a0_0 then (if ((rd_T49 l1 x9_1).f2) ≥ a0_1 then (some true) else (awardingbodyref14_applies.l0 k1 l1 a2 a3 (wrap64 (x9_1 + 1)) a0_0 a0_1 a0_2 a0_3)) else (awardingbodyref14_applies.l0 k1 l1 a2 a3 (wrap64 (x9_1 + 1)) a0_0 a0_1 a0_2 a0_3)) else (awardingbodyref14_applies.l0 k1 l1 a2 a3 (wrap64 (x9_1 + 1)) a0_0 a0_1 a0_2 a0_3)) else (awardingbodyref14_applies.l0 k1 l1 a2 a3 (wrap64 (x9_1 + 1)) a0_0 a0_1 a0_2 a0_3)) else (awardingbodyref14_applies.l0 k1 l1 a2 a3 (wrap64 (x9_1 + 1)) a0_0 a0_1 a0_2 a0_3))) = some r := by rw [if_pos rfl] at H; exact H
       clear H
       have H := H1
       clear H1
       replace H := Option.bind_eq_some_iff.mp H
       obtain ⟨t282, A110, H⟩ := H
       replace H : (if t282 = true then (if ((rd_T49 l1 x9_1).f3) ≤ a3 then (if a3 ≤ ((rd_T49 l1 x9_1).f4) then (if ((rd_T49 l1 x9_1).f1) = a0_0 then (if ((rd_T49 l1 x9_1).f2) ≥ a0_1 then (some true) else (awardingbodyref14_applies.l0 k1 l1 a2 a3 (wrap64 (x9_1 + 1)) a0_0 a0_1 a0_2 a0_3)) else (awardingbodyref14_applies.l0 k1 l1 a2 a3 (wrap64 (x9_1 + 1)) a0_0 a0_1 a0_2 a0_3)) else (awardingbodyref14_applies.l0 k1 l1 a2 a3 (wrap64 (x9_1 + 1)) a0_0 a0_1 a0_2 a0_3)) else (awardingbodyref14_applies.l0 k1 l1 a2 a3 (wrap64 (x9_1 + 1)) a0_0 a0_1 a0_2 a0_3)) else (awardingbodyref14_applies.l0 k1 l1 a2 a3 (wrap64 (x9_1 + 1)) a0_0 a0_1 a0_2 a0_3)) = some r := H
       have A11 := Aside0.mk A110
       clear A110
       by_cases c12 : t282 = true
       ·subst c12
        have H1 : (if ((rd_T49 l1 x9_1).f3) ≤ a3 then (if a3 ≤ ((rd_T49 l1 x9_1).f4) then (if ((rd_T49 l1 x9_1).f1) = a0_0 then (if ((rd_T49 l1 x9_1).f2) ≥ a0_1 then (some true) else (awardingbodyref14_applies.l0 k1 l1 a2 a3 (wrap64 (x9_1 + 1)) a0_0 a0_1 a0_2 a0_3)) else (awardingbodyref14_applies.l0 k1 l1 a2 a3 (wrap64 (x9_1 + 1)) a0_0 a0_1 a0_2 a0_3)) else (awardingbodyref14_applies.l0 k1 l1 a2 a3 (wrap64 (x9_1 + 1)) a0_0 a0_1 a0_2 a0_3)) else (awardingbodyref14_applies.l0 k1 l1 a2 a3 (wrap64 (x9_1 + 1)) a0_0 a0_1 a0_2 a0_3)) = some r := by rw [if_pos rfl] at H; exact H
        clear H
        have H := H1
        clear H1
        by_cases c13 : ((rd_T49 l1 x9_1).f3) ≤ a3
        ·rw [if_pos c13] at H
         have c13b0 : decide (((rd_T49 l1 x9_1).f3) ≤ a3) = true := decide_eq_true c13
         clear c13
         by_cases c14 : a3 ≤ ((rd_T49 l1 x9_1).f4)
         ·rw [if_pos c14] at H
          have c14b0 : decide (a3 ≤ ((rd_T49 l1 x9_1).f4)) = true := decide_eq_true c14
          clear c14
          by_cases c15 : ((rd_T49 l1 x9_1).f1) = a0_0
          ·rw [if_pos c15] at H
           have c15b0 : (((rd_T49 l1 x9_1).f1) == a0_0) = true := beq_iff_eq.mpr c15
           have c15b1 : (((rd_T49 l1 x9_1).f1) != a0_0) = false := bne_eq_false_iff_eq.mpr c15
           clear c15
           by_cases c16 : ((rd_T49 l1 x9_1).f2) ≥ a0_1
           ·rw [if_pos c16] at H
            have c16b0 : decide (a0_1 ≤ ((rd_T49 l1 x9_1).f2)) = true := decide_eq_true c16
            clear c16
            obtain rfl := Option.some.inj H
            have p279 : 0 ≤ (x9_1 : Int) := of_decide_eq_true (by first | (with_reducible assumption) | assumption)
            have q279 : x9_1 < (l1.length : Int) := of_decide_eq_true (by first | (with_reducible assumption) | assumption)
            obtain ⟨ad279, e279, hx279_0, hx279_1, hx279_2, hx279_3, hx279_4⟩ := at_T49 HR1.out x9_1 p279 q279
            cases e279
            replace hx279_0 := (HB.out.cell (World.block_lt_of_cell? w _ hx279_0)).trans hx279_0
            replace hx279_1 := (HB.out.cell (World.block_lt_of_cell? w _ hx279_1)).trans hx279_1
            replace hx279_2 := (HB.out.cell (World.block_lt_of_cell? w _ hx279_2)).trans hx279_2
            replace hx279_3 := (HB.out.cell (World.block_lt_of_cell? w _ hx279_3)).trans hx279_3
            replace hx279_4 := (HB.out.cell (World.block_lt_of_cell? w _ hx279_4)).trans hx279_4
            replace p279 := eq_true p279
            replace q279 := eq_true q279
            go_wp2_with (first | ((with_reducible refine gate_dst (N := 10) rfl ?_); refine box_event ?hg (N := 10) ?hd (cs := #[.int .i64 0, .int .i64 0, .int .i64 0, .int .i64 0, .int .i64 0]) (t := 49) ?hr ?_; (case hd => rfl); (case hg => rfl); (case hr => first | (go_simp; done) | (go_simp; rfl)); intro gb280 hg w17 hbox hb; have n0_ := Aside0.mk (blk_below (g := gb278) (o := .cells #[.int .i64 a0_0, .int .i64 a0_1, .int .i64 a0_2, .int .i64 a0_3] 28 (0, 0)) (by (with_reducible repeat (first | refine blk_drewN ?_ _ | refine blk_drew ?_ | refine blk_alloc ?_ _)); exact BK278.out) hb); have n1_ := Aside0.mk (below_step (by repeat (first | (with_reducible first | exact HB.out | apply below_alloc | apply pw_below_drewN | apply below_drew1 | refine below_set ?_ GE278.out) | exact HB.out)) hb); have n2_ := Aside0.mk (hbox); have n3_ := Aside0.mk ((by rw [hg]; exact (below_size (by repeat (first | (with_reducible first | exact HB.out | apply below_alloc | apply pw_below_drewN | apply below_drew1 | refine below_set ?_ GE278.out) | exact HB.out))) : w.heap.size ≤ gb280)); have n4_ := Aside0.mk ((by rw [hg]; exact (below_size (by repeat (first | (with_reducible first | exact HB.out | apply below_alloc | apply pw_below_drewN | apply below_drew1 | refine below_set ?_ GE278.out) | exact HB.out))) : w.heap.size ≤ gb280)); have n5_ := Aside0.mk ((by rw [hg]; exact Nat.ne_of_lt (blk_lt (g := gb278) (o := .cells #[.int .i64 a0_0, .int .i64 a0_1, .int .i64 a0_2, .int .i64 a0_3] 28 (0, 0)) (by (with_reducible repeat (first | refine blk_drewN ?_ _ | refine blk_drew ?_ | refine blk_alloc ?_ _)); exact BK278.out)) : gb278 ≠ gb280)); have n6_ := Aside0.mk ((by rw [hg]; exact Nat.ne_of_gt (blk_lt (g := gb278) (o := .cells #[.int .i64 a0_0, .int .i64 a0_1, .int .i64 a0_2, .int .i64 a0_3] 28 (0, 0)) (by (with_reducible repeat (first | refine blk_drewN ?_ _ | refine blk_drew ?_ | refine blk_alloc ?_ _)); exact BK278.out)) : gb280 ≠ gb278)); clear BK278 HB; have BK278 := n0_; have HB := n1_; have BK280 := n2_; have GW280 := n3_; have GE280 := n4_; have NB278_280 := n5_; have NB280_278 := n6_; clear n0_ n1_ n2_ n3_ n4_ n5_ n6_ hb hbox hg; have hnb18 := NB280_278.out; have hnc18 := NB278_280.out; have hcz19_0 : w17.cell? ⟨gb280, 0, none⟩ = some (.int .i64 0) := (blk_cell BK280.out 0).trans rfl; have hcz19_1 : w17.cell? ⟨gb280, 1, none⟩ = some (.int .i64 0) := (blk_cell BK280.out 1).trans rfl; have hcz19_2 : w17.cell? ⟨gb280, 2, none⟩ = some (.int .i64 0) := (blk_cell BK280.out 2).trans rfl; have hcz19_3 : w17.cell? ⟨gb280, 3, none⟩ = some (.int .i64 0) := (blk_cell BK280.out 3).trans rfl; have hcz19_4 : w17.cell? ⟨gb280, 4, none⟩ = some (.int .i64 0) := (blk_cell BK280.out 4).trans rfl; have hfz19_0 := blk_frozen BK280.out 0; have hfz19_1 := blk_frozen BK280.out 1; have hfz19_2 := blk_frozen BK280.out 2; have hfz19_3 := blk_frozen BK280.out 3; have hfz19_4 := blk_frozen BK280.out 4) | (go_at_call 39; (with_reducible refine (awardingbodyref14_level.calls ((rd_T49 l1 x9_1).f1) true _ A9.out).mono ?_); rintro e w' ⟨rfl, ⟨nd, rfl⟩⟩) | (go_at_call 39; (with_reducible refine (awardingbodyref14_level.calls ((rd_T49 l1 x9_1).f2) true _ A11.out).mono ?_); rintro e w' ⟨rfl, ⟨nd, rfl⟩⟩; have hcz20_0 : w17.cell? ⟨gb278, 0, none⟩ = some (.int .i64 a0_0) := (blk_cell BK278.out 0).trans rfl; have hcz20_1 : w17.cell? ⟨gb278, 1, none⟩ = some (.int .i64 a0_1) := (blk_cell BK278.out 1).trans rfl; have hcz20_2 : w17.cell? ⟨gb278, 2, none⟩ = some (.int .i64 a0_2) := (blk_cell BK278.out 2).trans rfl; have hcz20_3 : w17.cell? ⟨gb278, 3, none⟩ = some (.int .i64 a0_3) := (blk_cell BK278.out 3).trans rfl; have hfz20_0 := blk_frozen BK278.out 0; have hfz20_1 := blk_frozen BK278.out 1; have hfz20_2 := blk_frozen BK278.out 2; have hfz20_3 := blk_frozen BK278.out 3))
            go_ret
            exact ⟨by first | rfl | (simp [errW_none, errW_some] <;> rfl) | (simp [*, errW_none, errW_some] <;> rfl), by repeat (first | (with_reducible first | exact HB.out | apply below_alloc | apply pw_below_drewN | apply below_drew1 | refine below_set ?_ GE278.out | refine below_set ?_ GE280.out) | exact HB.out)⟩
           ·rw [if_neg c16] at H
            have c16b0 : decide (a0_1 ≤ ((rd_T49 l1 x9_1).f2)) = false := decide_eq_false c16
            clear c16
            have H' := Aside0.mk H
            clear H
            have p279 : 0 ≤ (x9_1 : Int) := of_decide_eq_true (by first | (with_reducible assumption) | assumption)
            have q279 : x9_1 < (l1.length : Int) := of_decide_eq_true (by first | (with_reducible assumption) | assumption)
            obtain ⟨ad279, e279, hx279_0, hx279_1, hx279_2, hx279_3, hx279_4⟩ := at_T49 HR1.out x9_1 p279 q279
            cases e279
            replace hx279_0 := (HB.out.cell (World.block_lt_of_cell? w _ hx279_0)).trans hx279_0
            replace hx279_1 := (HB.out.cell (World.block_lt_of_cell? w _ hx279_1)).trans hx279_1
            replace hx279_2 := (HB.out.cell (World.block_lt_of_cell? w _ hx279_2)).trans hx279_2
            replace hx279_3 := (HB.out.cell (World.block_lt_of_cell? w _ hx279_3)).trans hx279_3
            replace hx279_4 := (HB.out.cell (World.block_lt_of_cell? w _ hx279_4)).trans hx279_4
            replace p279 := eq_true p279
            replace q279 := eq_true q279
            go_wp2_with (first | ((with_reducible refine gate_dst (N := 10) rfl ?_); refine box_event ?hg (N := 10) ?hd (cs := #[.int .i64 0, .int .i64 0, .int .i64 0, .int .i64 0, .int .i64 0]) (t := 49) ?hr ?_; (case hd => rfl); (case hg => rfl); (case hr => first | (go_simp; done) | (go_simp; rfl)); intro gb280 hg w21 hbox hb; have n0_ := Aside0.mk (blk_below (g := gb278) (o := .cells #[.int .i64 a0_0, .int .i64 a0_1, .int .i64 a0_2, .int .i64 a0_3] 28 (0, 0)) (by (with_reducible repeat (first | refine blk_drewN ?_ _ | refine blk_drew ?_ | refine blk_alloc ?_ _)); exact BK278.out) hb); have n1_ := Aside0.mk (below_step (by repeat (first | (with_reducible first | exact HB.out | apply below_alloc | apply pw_below_drewN | apply below_drew1 | refine below_set ?_ GE278.out) | exact HB.out)) hb); have n2_ := Aside0.mk (hbox); have n3_ := Aside0.mk ((by rw [hg]; exact (below_size (by repeat (first | (with_reducible first | exact HB.out | apply below_alloc | apply pw_below_drewN | apply below_drew1 | refine below_set ?_ GE278.out) | exact HB.out))) : w.heap.size ≤ gb280)); have n4_ := Aside0.mk ((by rw [hg]; exact (below_size (by repeat (first | (with_reducible first | exact HB.out | apply below_alloc | apply pw_below_drewN | apply below_drew1 | refine below_set ?_ GE278.out) | exact HB.out))) : w.heap.size ≤ gb280)); have n5_ := Aside0.mk ((by rw [hg]; exact Nat.ne_of_lt (blk_lt (g := gb278) (o := .cells #[.int .i64 a0_0, .int .i64 a0_1, .int .i64 a0_2, .int .i64 a0_3] 28 (0, 0)) (by (with_reducible repeat (first | refine blk_drewN ?_ _ | refine blk_drew ?_ | refine blk_alloc ?_ _)); exact BK278.out)) : gb278 ≠ gb280)); have n6_ := Aside0.mk ((by rw [hg]; exact Nat.ne_of_gt (blk_lt (g := gb278) (o := .cells #[.int .i64 a0_0, .int .i64 a0_1, .int .i64 a0_2, .int .i64 a0_3] 28 (0, 0)) (by (with_reducible repeat (first | refine blk_drewN ?_ _ | refine blk_drew ?_ | refine blk_alloc ?_ _)); exact BK278.out)) : gb280 ≠ gb278)); clear BK278 HB; have BK278 := n0_; have HB := n1_; have BK280 := n2_; have GW280 := n3_; have GE280 := n4_; have NB278_280 := n5_; have NB280_278 := n6_; clear n0_ n1_ n2_ n3_ n4_ n5_ n6_ hb hbox hg; have hnb22 := NB280_278.out; have hnc22 := NB278_280.out; have hcz23_0 : w21.cell? ⟨gb280, 0, none⟩ = some (.int .i64 0) := (blk_cell BK280.out 0).trans rfl; have hcz23_1 : w21.cell? ⟨gb280, 1, none⟩ = some (.int .i64 0) := (blk_cell BK280.out 1).trans rfl; have hcz23_2 : w21.cell? ⟨gb280, 2, none⟩ = some (.int .i64 0) := (blk_cell BK280.out 2).trans rfl; have hcz23_3 : w21.cell? ⟨gb280, 3, none⟩ = some (.int .i64 0) := (blk_cell BK280.out 3).trans rfl; have hcz23_4 : w21.cell? ⟨gb280, 4, none⟩ = some (.int .i64 0) := (blk_cell BK280.out 4).trans rfl; have hfz23_0 := blk_frozen BK280.out 0; have hfz23_1 := blk_frozen BK280.out 1; have hfz23_2 := blk_frozen BK280.out 2; have hfz23_3 := blk_frozen BK280.out 3; have hfz23_4 := blk_frozen BK280.out 4) | (go_at_call 39; (with_reducible refine (awardingbodyref14_level.calls ((rd_T49 l1 x9_1).f1) true _ A9.out).mono ?_); rintro e w' ⟨rfl, ⟨nd, rfl⟩⟩) | (go_at_call 39; (with_reducible refine (awardingbodyref14_level.calls ((rd_T49 l1 x9_1).f2) true _ A11.out).mono ?_); rintro e w' ⟨rfl, ⟨nd, rfl⟩⟩; have hcz24_0 : w21.cell? ⟨gb278, 0, none⟩ = some (.int .i64 a0_0) := (blk_cell BK278.out 0).trans rfl; have hcz24_1 : w21.cell? ⟨gb278, 1, none⟩ = some (.int .i64 a0_1) := (blk_cell BK278.out 1).trans rfl; have hcz24_2 : w21.cell? ⟨gb278, 2, none⟩ = some (.int .i64 a0_2) := (blk_cell BK278.out 2).trans rfl; have hcz24_3 : w21.cell? ⟨gb278, 3, none⟩ = some (.int .i64 a0_3) := (blk_cell BK278.out 3).trans rfl; have hfz24_0 := blk_frozen BK278.out 0; have hfz24_1 := blk_frozen BK278.out 1; have hfz24_2 := blk_frozen BK278.out 2; have hfz24_3 := blk_frozen BK278.out 3))
            go_roundg k1
            case measure => have := HK1.out; omega
            case rel => exact ⟨(wrap64 (x9_1 + 1)), (by first | rfl | (simp; done) | (simp [*]; done)), H', ⟨by have := HK1.out; omega⟩, ⟨by (with_reducible repeat (first | refine blk_drewN ?_ _ | refine blk_drew ?_ | refine blk_alloc ?_ _)); refine blk_far ?_ NB278_280.out _; (with_reducible repeat (first | refine blk_drewN ?_ _ | refine blk_drew ?_ | refine blk_alloc ?_ _)); refine blk_far ?_ NB278_280.out _; (with_reducible repeat (first | refine blk_drewN ?_ _ | refine blk_drew ?_ | refine blk_alloc ?_ _)); refine blk_far ?_ NB278_280.out _; (with_reducible repeat (first | refine blk_drewN ?_ _ | refine blk_drew ?_ | refine blk_alloc ?_ _)); refine blk_far ?_ NB278_280.out _; (with_reducible repeat (first | refine blk_drewN ?_ _ | refine blk_drew ?_ | refine blk_alloc ?_ _)); refine blk_far ?_ NB278_280.out _; (with_reducible repeat (first | refine blk_drewN ?_ _ | refine blk_drew ?_ | refine blk_alloc ?_ _)); exact BK278.out⟩, ⟨by repeat (first | (with_reducible first | exact HB.out | apply below_alloc | apply pw_below_drewN | apply below_drew1 | refine below_set ?_ GE278.out | refine below_set ?_ GE280.out) | exact HB.out)⟩⟩
          ·rw [if_neg c15] at H
           have c15b0 : (((rd_T49 l1 x9_1).f1) == a0_0) = false := beq_eq_false_iff_ne.mpr c15
           have c15b1 : (((rd_T49 l1 x9_1).f1) != a0_0) = true := bne_iff_ne.mpr c15
           have H' := Aside0.mk H
           clear H
           have p279 : 0 ≤ (x9_1 : Int) := of_decide_eq_true (by first | (with_reducible assumption) | assumption)
           have q279 : x9_1 < (l1.length : Int) := of_decide_eq_true (by first | (with_reducible assumption) | assumption)
           obtain ⟨ad279, e279, hx279_0, hx279_1, hx279_2, hx279_3, hx279_4⟩ := at_T49 HR1.out x9_1 p279 q279
           cases e279
           replace hx279_0 := (HB.out.cell (World.block_lt_of_cell? w _ hx279_0)).trans hx279_0
           replace hx279_1 := (HB.out.cell (World.block_lt_of_cell? w _ hx279_1)).trans hx279_1
           replace hx279_2 := (HB.out.cell (World.block_lt_of_cell? w _ hx279_2)).trans hx279_2
           replace hx279_3 := (HB.out.cell (World.block_lt_of_cell? w _ hx279_3)).trans hx279_3
           replace hx279_4 := (HB.out.cell (World.block_lt_of_cell? w _ hx279_4)).trans hx279_4
           replace p279 := eq_true p279
           replace q279 := eq_true q279
           go_wp2_with (first | ((with_reducible refine gate_dst (N := 10) rfl ?_); refine box_event ?hg (N := 10) ?hd (cs := #[.int .i64 0, .int .i64 0, .int .i64 0, .int .i64 0, .int .i64 0]) (t := 49) ?hr ?_; (case hd => rfl); (case hg => rfl); (case hr => first | (go_simp; done) | (go_simp; rfl)); intro gb280 hg w25 hbox hb; have n0_ := Aside0.mk (blk_below (g := gb278) (o := .cells #[.int .i64 a0_0, .int .i64 a0_1, .int .i64 a0_2, .int .i64 a0_3] 28 (0, 0)) (by (with_reducible repeat (first | refine blk_drewN ?_ _ | refine blk_drew ?_ | refine blk_alloc ?_ _)); exact BK278.out) hb); have n1_ := Aside0.mk (below_step (by repeat (first | (with_reducible first | exact HB.out | apply below_alloc | apply pw_below_drewN | apply below_drew1 | refine below_set ?_ GE278.out) | exact HB.out)) hb); have n2_ := Aside0.mk (hbox); have n3_ := Aside0.mk ((by rw [hg]; exact (below_size (by repeat (first | (with_reducible first | exact HB.out | apply below_alloc | apply pw_below_drewN | apply below_drew1 | refine below_set ?_ GE278.out) | exact HB.out))) : w.heap.size ≤ gb280)); have n4_ := Aside0.mk ((by rw [hg]; exact (below_size (by repeat (first | (with_reducible first | exact HB.out | apply below_alloc | apply pw_below_drewN | apply below_drew1 | refine below_set ?_ GE278.out) | exact HB.out))) : w.heap.size ≤ gb280)); have n5_ := Aside0.mk ((by rw [hg]; exact Nat.ne_of_lt (blk_lt (g := gb278) (o := .cells #[.int .i64 a0_0, .int .i64 a0_1, .int .i64 a0_2, .int .i64 a0_3] 28 (0, 0)) (by (with_reducible repeat (first | refine blk_drewN ?_ _ | refine blk_drew ?_ | refine blk_alloc ?_ _)); exact BK278.out)) : gb278 ≠ gb280)); have n6_ := Aside0.mk ((by rw [hg]; exact Nat.ne_of_gt (blk_lt (g := gb278) (o := .cells #[.int .i64 a0_0, .int .i64 a0_1, .int .i64 a0_2, .int .i64 a0_3] 28 (0, 0)) (by (with_reducible repeat (first | refine blk_drewN ?_ _ | refine blk_drew ?_ | refine blk_alloc ?_ _)); exact BK278.out)) : gb280 ≠ gb278)); clear BK278 HB; have BK278 := n0_; have HB := n1_; have BK280 := n2_; have GW280 := n3_; have GE280 := n4_; have NB278_280 := n5_; have NB280_278 := n6_; clear n0_ n1_ n2_ n3_ n4_ n5_ n6_ hb hbox hg; have hnb26 := NB280_278.out; have hnc26 := NB278_280.out; have hcz27_0 : w25.cell? ⟨gb280, 0, none⟩ = some (.int .i64 0) := (blk_cell BK280.out 0).trans rfl; have hcz27_1 : w25.cell? ⟨gb280, 1, none⟩ = some (.int .i64 0) := (blk_cell BK280.out 1).trans rfl; have hcz27_2 : w25.cell? ⟨gb280, 2, none⟩ = some (.int .i64 0) := (blk_cell BK280.out 2).trans rfl; have hcz27_3 : w25.cell? ⟨gb280, 3, none⟩ = some (.int .i64 0) := (blk_cell BK280.out 3).trans rfl; have hcz27_4 : w25.cell? ⟨gb280, 4, none⟩ = some (.int .i64 0) := (blk_cell BK280.out 4).trans rfl; have hfz27_0 := blk_frozen BK280.out 0; have hfz27_1 := blk_frozen BK280.out 1; have hfz27_2 := blk_frozen BK280.out 2; have hfz27_3 := blk_frozen BK280.out 3; have hfz27_4 := blk_frozen BK280.out 4) | (go_at_call 39; (with_reducible refine (awardingbodyref14_level.calls ((rd_T49 l1 x9_1).f1) true _ A9.out).mono ?_); rintro e w' ⟨rfl, ⟨nd, rfl⟩⟩) | (go_at_call 39; (with_reducible refine (awardingbodyref14_level.calls ((rd_T49 l1 x9_1).f2) true _ A11.out).mono ?_); rintro e w' ⟨rfl, ⟨nd, rfl⟩⟩; have hcz28_0 : w25.cell? ⟨gb278, 0, none⟩ = some (.int .i64 a0_0) := (blk_cell BK278.out 0).trans rfl; have hcz28_1 : w25.cell? ⟨gb278, 1, none⟩ = some (.int .i64 a0_1) := (blk_cell BK278.out 1).trans rfl; have hcz28_2 : w25.cell? ⟨gb278, 2, none⟩ = some (.int .i64 a0_2) := (blk_cell BK278.out 2).trans rfl; have hcz28_3 : w25.cell? ⟨gb278, 3, none⟩ = some (.int .i64 a0_3) := (blk_cell BK278.out 3).trans rfl; have hfz28_0 := blk_frozen BK278.out 0; have hfz28_1 := blk_frozen BK278.out 1; have hfz28_2 := blk_frozen BK278.out 2; have hfz28_3 := blk_frozen BK278.out 3))
           go_roundg k1
           case measure => have := HK1.out; omega
           case rel => exact ⟨(wrap64 (x9_1 + 1)), (by first | rfl | (simp; done) | (simp [*]; done)), H', ⟨by have := HK1.out; omega⟩, ⟨by (with_reducible repeat (first | refine blk_drewN ?_ _ | refine blk_drew ?_ | refine blk_alloc ?_ _)); refine blk_far ?_ NB278_280.out _; (with_reducible repeat (first | refine blk_drewN ?_ _ | refine blk_drew ?_ | refine blk_alloc ?_ _)); refine blk_far ?_ NB278_280.out _; (with_reducible repeat (first | refine blk_drewN ?_ _ | refine blk_drew ?_ | refine blk_alloc ?_ _)); refine blk_far ?_ NB278_280.out _; (with_reducible repeat (first | refine blk_drewN ?_ _ | refine blk_drew ?_ | refine blk_alloc ?_ _)); refine blk_far ?_ NB278_280.out _; (with_reducible repeat (first | refine blk_drewN ?_ _ | refine blk_drew ?_ | refine blk_alloc ?_ _)); refine blk_far ?_ NB278_280.out _; (with_reducible repeat (first | refine blk_drewN ?_ _ | refine blk_drew ?_ | refine blk_alloc ?_ _)); exact BK278.out⟩, ⟨by repeat (first | (with_reducible first | exact HB.out | apply below_alloc | apply pw_below_drewN | apply below_drew1 | refine below_set ?_ GE278.out | refine below_set ?_ GE280.out) | exact HB.out)⟩⟩
         ·rw [if_neg c14] at H
          have c14b0 : decide (a3 ≤ ((rd_T49 l1 x9_1).f4)) = false := decide_eq_false c14
          clear c14
          have H' := Aside0.mk H
          clear H
          have p279 : 0 ≤ (x9_1 : Int) := of_decide_eq_true (by first | (with_reducible assumption) | assumption)
          have q279 : x9_1 < (l1.length : Int) := of_decide_eq_true (by first | (with_reducible assumption) | assumption)
          obtain ⟨ad279, e279, hx279_0, hx279_1, hx279_2, hx279_3, hx279_4⟩ := at_T49 HR1.out x9_1 p279 q279
          cases e279
          replace hx279_0 := (HB.out.cell (World.block_lt_of_cell? w _ hx279_0)).trans hx279_0
          replace hx279_1 := (HB.out.cell (World.block_lt_of_cell? w _ hx279_1)).trans hx279_1
          replace hx279_2 := (HB.out.cell (World.block_lt_of_cell? w _ hx279_2)).trans hx279_2
          replace hx279_3 := (HB.out.cell (World.block_lt_of_cell? w _ hx279_3)).trans hx279_3
          replace hx279_4 := (HB.out.cell (World.block_lt_of_cell? w _ hx279_4)).trans hx279_4
          replace p279 := eq_true p279
          replace q279 := eq_true q279
          go_wp2_with (first | ((with_reducible refine gate_dst (N := 10) rfl ?_); refine box_event ?hg (N := 10) ?hd (cs := #[.int .i64 0, .int .i64 0, .int .i64 0, .int .i64 0, .int .i64 0]) (t := 49) ?hr ?_; (case hd => rfl); (case hg => rfl); (case hr => first | (go_simp; done) | (go_simp; rfl)); intro gb280 hg w29 hbox hb; have n0_ := Aside0.mk (blk_below (g := gb278) (o := .cells #[.int .i64 a0_0, .int .i64 a0_1, .int .i64 a0_2, .int .i64 a0_3] 28 (0, 0)) (by (with_reducible repeat (first | refine blk_drewN ?_ _ | refine blk_drew ?_ | refine blk_alloc ?_ _)); exact BK278.out) hb); have n1_ := Aside0.mk (below_step (by repeat (first | (with_reducible first | exact HB.out | apply below_alloc | apply pw_below_drewN | apply below_drew1 | refine below_set ?_ GE278.out) | exact HB.out)) hb); have n2_ := Aside0.mk (hbox); have n3_ := Aside0.mk ((by rw [hg]; exact (below_size (by repeat (first | (with_reducible first | exact HB.out | apply below_alloc | apply pw_below_drewN | apply below_drew1 | refine below_set ?_ GE278.out) | exact HB.out))) : w.heap.size ≤ gb280)); have n4_ := Aside0.mk ((by rw [hg]; exact (below_size (by repeat (first | (with_reducible first | exact HB.out | apply below_alloc | apply pw_below_drewN | apply below_drew1 | refine below_set ?_ GE278.out) | exact HB.out))) : w.heap.size ≤ gb280)); have n5_ := Aside0.mk ((by rw [hg]; exact Nat.ne_of_lt (blk_lt (g := gb278) (o := .cells #[.int .i64 a0_0, .int .i64 a0_1, .int .i64 a0_2, .int .i64 a0_3] 28 (0, 0)) (by (with_reducible repeat (first | refine blk_drewN ?_ _ | refine blk_drew ?_ | refine blk_alloc ?_ _)); exact BK278.out)) : gb278 ≠ gb280)); have n6_ := Aside0.mk ((by rw [hg]; exact Nat.ne_of_gt (blk_lt (g := gb278) (o := .cells #[.int .i64 a0_0, .int .i64 a0_1, .int .i64 a0_2, .int .i64 a0_3] 28 (0, 0)) (by (with_reducible repeat (first | refine blk_drewN ?_ _ | refine blk_drew ?_ | refine blk_alloc ?_ _)); exact BK278.out)) : gb280 ≠ gb278)); clear BK278 HB; have BK278 := n0_; have HB := n1_; have BK280 := n2_; have GW280 := n3_; have GE280 := n4_; have NB278_280 := n5_; have NB280_278 := n6_; clear n0_ n1_ n2_ n3_ n4_ n5_ n6_ hb hbox hg; have hnb30 := NB280_278.out; have hnc30 := NB278_280.out; have hcz31_0 : w29.cell? ⟨gb280, 0, none⟩ = some (.int .i64 0) := (blk_cell BK280.out 0).trans rfl; have hcz31_1 : w29.cell? ⟨gb280, 1, none⟩ = some (.int .i64 0) := (blk_cell BK280.out 1).trans rfl; have hcz31_2 : w29.cell? ⟨gb280, 2, none⟩ = some (.int .i64 0) := (blk_cell BK280.out 2).trans rfl; have hcz31_3 : w29.cell? ⟨gb280, 3, none⟩ = some (.int .i64 0) := (blk_cell BK280.out 3).trans rfl; have hcz31_4 : w29.cell? ⟨gb280, 4, none⟩ = some (.int .i64 0) := (blk_cell BK280.out 4).trans rfl; have hfz31_0 := blk_frozen BK280.out 0; have hfz31_1 := blk_frozen BK280.out 1; have hfz31_2 := blk_frozen BK280.out 2; have hfz31_3 := blk_frozen BK280.out 3; have hfz31_4 := blk_frozen BK280.out 4) | (go_at_call 39; (with_reducible refine (awardingbodyref14_level.calls ((rd_T49 l1 x9_1).f1) true _ A9.out).mono ?_); rintro e w' ⟨rfl, ⟨nd, rfl⟩⟩) | (go_at_call 39; (with_reducible refine (awardingbodyref14_level.calls ((rd_T49 l1 x9_1).f2) true _ A11.out).mono ?_); rintro e w' ⟨rfl, ⟨nd, rfl⟩⟩))
          go_roundg k1
          case measure => have := HK1.out; omega
          case rel => exact ⟨(wrap64 (x9_1 + 1)), (by first | rfl | (simp; done) | (simp [*]; done)), H', ⟨by have := HK1.out; omega⟩, ⟨by (with_reducible repeat (first | refine blk_drewN ?_ _ | refine blk_drew ?_ | refine blk_alloc ?_ _)); refine blk_far ?_ NB278_280.out _; (with_reducible repeat (first | refine blk_drewN ?_ _ | refine blk_drew ?_ | refine blk_alloc ?_ _)); refine blk_far ?_ NB278_280.out _; (with_reducible repeat (first | refine blk_drewN ?_ _ | refine blk_drew ?_ | refine blk_alloc ?_ _)); refine blk_far ?_ NB278_280.out _; (with_reducible repeat (first | refine blk_drewN ?_ _ | refine blk_drew ?_ | refine blk_alloc ?_ _)); refine blk_far ?_ NB278_280.out _; (with_reducible repeat (first | refine blk_drewN ?_ _ | refine blk_drew ?_ | refine blk_alloc ?_ _)); refine blk_far ?_ NB278_280.out _; (with_reducible repeat (first | refine blk_drewN ?_ _ | refine blk_drew ?_ | refine blk_alloc ?_ _)); exact BK278.out⟩, ⟨by repeat (first | (with_reducible first | exact HB.out | apply below_alloc | apply pw_below_drewN | apply below_drew1 | refine below_set ?_ GE278.out | refine below_set ?_ GE280.out) | exact HB.out)⟩⟩
        ·rw [if_neg c13] at H
         have c13b0 : decide (((rd_T49 l1 x9_1).f3) ≤ a3) = false := decide_eq_false c13
         clear c13
         have H' := Aside0.mk H
         clear H
         have p279 : 0 ≤ (x9_1 : Int) := of_decide_eq_true (by first | (with_reducible assumption) | assumption)
         have q279 : x9_1 < (l1.length : Int) := of_decide_eq_true (by first | (with_reducible assumption) | assumption)
         obtain ⟨ad279, e279, hx279_0, hx279_1, hx279_2, hx279_3, hx279_4⟩ := at_T49 HR1.out x9_1 p279 q279
         cases e279
         replace hx279_0 := (HB.out.cell (World.block_lt_of_cell? w _ hx279_0)).trans hx279_0
         replace hx279_1 := (HB.out.cell (World.block_lt_of_cell? w _ hx279_1)).trans hx279_1
         replace hx279_2 := (HB.out.cell (World.block_lt_of_cell? w _ hx279_2)).trans hx279_2
         replace hx279_3 := (HB.out.cell (World.block_lt_of_cell? w _ hx279_3)).trans hx279_3
         replace hx279_4 := (HB.out.cell (World.block_lt_of_cell? w _ hx279_4)).trans hx279_4
         replace p279 := eq_true p279
         replace q279 := eq_true q279
         go_wp2_with (first | ((with_reducible refine gate_dst (N := 10) rfl ?_); refine box_event ?hg (N := 10) ?hd (cs := #[.int .i64 0, .int .i64 0, .int .i64 0, .int .i64 0, .int .i64 0]) (t := 49) ?hr ?_; (case hd => rfl); (case hg => rfl); (case hr => first | (go_simp; done) | (go_simp; rfl)); intro gb280 hg w32 hbox hb; have n0_ := Aside0.mk (blk_below (g := gb278) (o := .cells #[.int .i64 a0_0, .int .i64 a0_1, .int .i64 a0_2, .int .i64 a0_3] 28 (0, 0)) (by (with_reducible repeat (first | refine blk_drewN ?_ _ | refine blk_drew ?_ | refine blk_alloc ?_ _)); exact BK278.out) hb); have n1_ := Aside0.mk (below_step (by repeat (first | (with_reducible first | exact HB.out | apply below_alloc | apply pw_below_drewN | apply below_drew1 | refine below_set ?_ GE278.out) | exact HB.out)) hb); have n2_ := Aside0.mk (hbox); have n3_ := Aside0.mk ((by rw [hg]; exact (below_size (by repeat (first | (with_reducible first | exact HB.out | apply below_alloc | apply pw_below_drewN | apply below_drew1 | refine below_set ?_ GE278.out) | exact HB.out))) : w.heap.size ≤ gb280)); have n4_ := Aside0.mk ((by rw [hg]; exact (below_size (by repeat (first | (with_reducible first | exact HB.out | apply below_alloc | apply pw_below_drewN | apply below_drew1 | refine below_set ?_ GE278.out) | exact HB.out))) : w.heap.size ≤ gb280)); have n5_ := Aside0.mk ((by rw [hg]; exact Nat.ne_of_lt (blk_lt (g := gb278) (o := .cells #[.int .i64 a0_0, .int .i64 a0_1, .int .i64 a0_2, .int .i64 a0_3] 28 (0, 0)) (by (with_reducible repeat (first | refine blk_drewN ?_ _ | refine blk_drew ?_ | refine blk_alloc ?_ _)); exact BK278.out)) : gb278 ≠ gb280)); have n6_ := Aside0.mk ((by rw [hg]; exact Nat.ne_of_gt (blk_lt (g := gb278) (o := .cells #[.int .i64 a0_0, .int .i64 a0_1, .int .i64 a0_2, .int .i64 a0_3] 28 (0, 0)) (by (with_reducible repeat (first | refine blk_drewN ?_ _ | refine blk_drew ?_ | refine blk_alloc ?_ _)); exact BK278.out)) : gb280 ≠ gb278)); clear BK278 HB; have BK278 := n0_; have HB := n1_; have BK280 := n2_; have GW280 := n3_; have GE280 := n4_; have NB278_280 := n5_; have NB280_278 := n6_; clear n0_ n1_ n2_ n3_ n4_ n5_ n6_ hb hbox hg; have hnb33 := NB280_278.out; have hnc33 := NB278_280.out; have hcz34_0 : w32.cell? ⟨gb280, 0, none⟩ = some (.int .i64 0) := (blk_cell BK280.out 0).trans rfl; have hcz34_1 : w32.cell? ⟨gb280, 1, none⟩ = some (.int .i64 0) := (blk_cell BK280.out 1).trans rfl; have hcz34_2 : w32.cell? ⟨gb280, 2, none⟩ = some (.int .i64 0) := (blk_cell BK280.out 2).trans rfl; have hcz34_3 : w32.cell? ⟨gb280, 3, none⟩ = some (.int .i64 0) := (blk_cell BK280.out 3).trans rfl; have hcz34_4 : w32.cell? ⟨gb280, 4, none⟩ = some (.int .i64 0) := (blk_cell BK280.out 4).trans rfl; have hfz34_0 := blk_frozen BK280.out 0; have hfz34_1 := blk_frozen BK280.out 1; have hfz34_2 := blk_frozen BK280.out 2; have hfz34_3 := blk_frozen BK280.out 3; have hfz34_4 := blk_frozen BK280.out 4) | (go_at_call 39; (with_reducible refine (awardingbodyref14_level.calls ((rd_T49 l1 x9_1).f1) true _ A9.out).mono ?_); rintro e w' ⟨rfl, ⟨nd, rfl⟩⟩) | (go_at_call 39; (with_reducible refine (awardingbodyref14_level.calls ((rd_T49 l1 x9_1).f2) true _ A11.out).mono ?_); rintro e w' ⟨rfl, ⟨nd, rfl⟩⟩))
         go_roundg k1
         case measure => have := HK1.out; omega
         case rel => exact ⟨(wrap64 (x9_1 + 1)), (by first | rfl | (simp; done) | (simp [*]; done)), H', ⟨by have := HK1.out; omega⟩, ⟨by (with_reducible repeat (first | refine blk_drewN ?_ _ | refine blk_drew ?_ | refine blk_alloc ?_ _)); refine blk_far ?_ NB278_280.out _; (with_reducible repeat (first | refine blk_drewN ?_ _ | refine blk_drew ?_ | refine blk_alloc ?_ _)); refine blk_far ?_ NB278_280.out _; (with_reducible repeat (first | refine blk_drewN ?_ _ | refine blk_drew ?_ | refine blk_alloc ?_ _)); refine blk_far ?_ NB278_280.out _; (with_reducible repeat (first | refine blk_drewN ?_ _ | refine blk_drew ?_ | refine blk_alloc ?_ _)); refine blk_far ?_ NB278_280.out _; (with_reducible repeat (first | refine blk_drewN ?_ _ | refine blk_drew ?_ | refine blk_alloc ?_ _)); refine blk_far ?_ NB278_280.out _; (with_reducible repeat (first | refine blk_drewN ?_ _ | refine blk_drew ?_ | refine blk_alloc ?_ _)); exact BK278.out⟩, ⟨by repeat (first | (with_reducible first | exact HB.out | apply below_alloc | apply pw_below_drewN | apply below_drew1 | refine below_set ?_ GE278.out | refine below_set ?_ GE280.out) | exact HB.out)⟩⟩
       ·replace c12 := Bool.eq_false_iff.mpr c12
        subst c12
        have H1 : (awardingbodyref14_applies.l0 k1 l1 a2 a3 (wrap64 (x9_1 + 1)) a0_0 a0_1 a0_2 a0_3) = some r := by rw [if_neg (show ¬ (false = true) by decide)] at H; exact H
        clear H
        have H := H1
        clear H1
        have H' := Aside0.mk H
        clear H
        have p279 : 0 ≤ (x9_1 : Int) := of_decide_eq_true (by first | (with_reducible assumption) | assumption)
        have q279 : x9_1 < (l1.length : Int) := of_decide_eq_true (by first | (with_reducible assumption) | assumption)
        obtain ⟨ad279, e279, hx279_0, hx279_1, hx279_2, hx279_3, hx279_4⟩ := at_T49 HR1.out x9_1 p279 q279
        cases e279
        replace hx279_0 := (HB.out.cell (World.block_lt_of_cell? w _ hx279_0)).trans hx279_0
        replace hx279_1 := (HB.out.cell (World.block_lt_of_cell? w _ hx279_1)).trans hx279_1
        replace hx279_2 := (HB.out.cell (World.block_lt_of_cell? w _ hx279_2)).trans hx279_2
        replace hx279_3 := (HB.out.cell (World.block_lt_of_cell? w _ hx279_3)).trans hx279_3
        replace hx279_4 := (HB.out.cell (World.block_lt_of_cell? w _ hx279_4)).trans hx279_4
        replace p279 := eq_true p279
        replace q279 := eq_true q279
        go_wp2_with (first | ((with_reducible refine gate_dst (N := 10) rfl ?_); refine box_event ?hg (N := 10) ?hd (cs := #[.int .i64 0, .int .i64 0, .int .i64 0, .int .i64 0, .int .i64 0]) (t := 49) ?hr ?_; (case hd => rfl); (case hg => rfl); (case hr => first | (go_simp; done) | (go_simp; rfl)); intro gb280 hg w35 hbox hb; have n0_ := Aside0.mk (blk_below (g := gb278) (o := .cells #[.int .i64 a0_0, .int .i64 a0_1, .int .i64 a0_2, .int .i64 a0_3] 28 (0, 0)) (by (with_reducible repeat (first | refine blk_drewN ?_ _ | refine blk_drew ?_ | refine blk_alloc ?_ _)); exact BK278.out) hb); have n1_ := Aside0.mk (below_step (by repeat (first | (with_reducible first | exact HB.out | apply below_alloc | apply pw_below_drewN | apply below_drew1 | refine below_set ?_ GE278.out) | exact HB.out)) hb); have n2_ := Aside0.mk (hbox); have n3_ := Aside0.mk ((by rw [hg]; exact (below_size (by repeat (first | (with_reducible first | exact HB.out | apply below_alloc | apply pw_below_drewN | apply below_drew1 | refine below_set ?_ GE278.out) | exact HB.out))) : w.heap.size ≤ gb280)); have n4_ := Aside0.mk ((by rw [hg]; exact (below_size (by repeat (first | (with_reducible first | exact HB.out | apply below_alloc | apply pw_below_drewN | apply below_drew1 | refine below_set ?_ GE278.out) | exact HB.out))) : w.heap.size ≤ gb280)); have n5_ := Aside0.mk ((by rw [hg]; exact Nat.ne_of_lt (blk_lt (g := gb278) (o := .cells #[.int .i64 a0_0, .int .i64 a0_1, .int .i64 a0_2, .int .i64 a0_3] 28 (0, 0)) (by (with_reducible repeat (first | refine blk_drewN ?_ _ | refine blk_drew ?_ | refine blk_alloc ?_ _)); exact BK278.out)) : gb278 ≠ gb280)); have n6_ := Aside0.mk ((by rw [hg]; exact Nat.ne_of_gt (blk_lt (g := gb278) (o := .cells #[.int .i64 a0_0, .int .i64 a0_1, .int .i64 a0_2, .int .i64 a0_3] 28 (0, 0)) (by (with_reducible repeat (first | refine blk_drewN ?_ _ | refine blk_drew ?_ | refine blk_alloc ?_ _)); exact BK278.out)) : gb280 ≠ gb278)); clear BK278 HB; have BK278 := n0_; have HB := n1_; have BK280 := n2_; have GW280 := n3_; have GE280 := n4_; have NB278_280 := n5_; have NB280_278 := n6_; clear n0_ n1_ n2_ n3_ n4_ n5_ n6_ hb hbox hg; have hnb36 := NB280_278.out; have hnc36 := NB278_280.out; have hcz37_0 : w35.cell? ⟨gb280, 0, none⟩ = some (.int .i64 0) := (blk_cell BK280.out 0).trans rfl; have hcz37_1 : w35.cell? ⟨gb280, 1, none⟩ = some (.int .i64 0) := (blk_cell BK280.out 1).trans rfl; have hcz37_2 : w35.cell? ⟨gb280, 2, none⟩ = some (.int .i64 0) := (blk_cell BK280.out 2).trans rfl; have hcz37_3 : w35.cell? ⟨gb280, 3, none⟩ = some (.int .i64 0) := (blk_cell BK280.out 3).trans rfl; have hcz37_4 : w35.cell? ⟨gb280, 4, none⟩ = some (.int .i64 0) := (blk_cell BK280.out 4).trans rfl; have hfz37_0 := blk_frozen BK280.out 0; have hfz37_1 := blk_frozen BK280.out 1; have hfz37_2 := blk_frozen BK280.out 2; have hfz37_3 := blk_frozen BK280.out 3; have hfz37_4 := blk_frozen BK280.out 4) | (go_at_call 39; (with_reducible refine (awardingbodyref14_level.calls ((rd_T49 l1 x9_1).f1) true _ A9.out).mono ?_); rintro e w' ⟨rfl, ⟨nd, rfl⟩⟩) | (go_at_call 39; (with_reducible refine (awardingbodyref14_level.calls ((rd_T49 l1 x9_1).f2) false _ A11.out).mono ?_); rintro e w' ⟨rfl, ⟨nd, rfl⟩⟩))
        go_roundg k1
        case measure => have := HK1.out; omega
        case rel => exact ⟨(wrap64 (x9_1 + 1)), (by first | rfl | (simp; done) | (simp [*]; done)), H', ⟨by have := HK1.out; omega⟩, ⟨by (with_reducible repeat (first | refine blk_drewN ?_ _ | refine blk_drew ?_ | refine blk_alloc ?_ _)); refine blk_far ?_ NB278_280.out _; (with_reducible repeat (first | refine blk_drewN ?_ _ | refine blk_drew ?_ | refine blk_alloc ?_ _)); refine blk_far ?_ NB278_280.out _; (with_reducible repeat (first | refine blk_drewN ?_ _ | refine blk_drew ?_ | refine blk_alloc ?_ _)); refine blk_far ?_ NB278_280.out _; (with_reducible repeat (first | refine blk_drewN ?_ _ | refine blk_drew ?_ | refine blk_alloc ?_ _)); refine blk_far ?_ NB278_280.out _; (with_reducible repeat (first | refine blk_drewN ?_ _ | refine blk_drew ?_ | refine blk_alloc ?_ _)); refine blk_far ?_ NB278_280.out _; (with_reducible repeat (first | refine blk_drewN ?_ _ | refine blk_drew ?_ | refine blk_alloc ?_ _)); exact BK278.out⟩, ⟨by repeat (first | (with_reducible first | exact HB.out | apply below_alloc | apply pw_below_drewN | apply below_drew1 | refine below_set ?_ GE278.out | refine below_set ?_ GE280.out) | exact HB.out)⟩⟩
      ·replace c10 := Bool.eq_false_iff.mpr c10
       subst c10
       have H1 : (awardingbodyref14_applies.l0 k1 l1 a2 a3 (wrap64 (x9_1 + 1)) a0_0 a0_1 a0_2 a0_3) = some r := by rw [if_neg (show ¬ (false = true) by decide)] at H; exact H
       clear H
       have H := H1
       clear H1
       have H' := Aside0.mk H
       clear H
       have p279 : 0 ≤ (x9_1 : Int) := of_decide_eq_true (by first | (with_reducible assumption) | assumption)
       have q279 : x9_1 < (l1.length : Int) := of_decide_eq_true (by first | (with_reducible assumption) | assumption)
       obtain ⟨ad279, e279, hx279_0, hx279_1, hx279_2, hx279_3, hx279_4⟩ := at_T49 HR1.out x9_1 p279 q279
       cases e279
       replace hx279_0 := (HB.out.cell (World.block_lt_of_cell? w _ hx279_0)).trans hx279_0
       replace hx279_1 := (HB.out.cell (World.block_lt_of_cell? w _ hx279_1)).trans hx279_1
       replace hx279_2 := (HB.out.cell (World.block_lt_of_cell? w _ hx279_2)).trans hx279_2
       replace hx279_3 := (HB.out.cell (World.block_lt_of_cell? w _ hx279_3)).trans hx279_3
       replace hx279_4 := (HB.out.cell (World.block_lt_of_cell? w _ hx279_4)).trans hx279_4
       replace p279 := eq_true p279
       replace q279 := eq_true q279
       go_wp2_with (first | ((with_reducible refine gate_dst (N := 10) rfl ?_); refine box_event ?hg (N := 10) ?hd (cs := #[.int .i64 0, .int .i64 0, .int .i64 0, .int .i64 0, .int .i64 0]) (t := 49) ?hr ?_; (case hd => rfl); (case hg => rfl); (case hr => first | (go_simp; done) | (go_simp; rfl)); intro gb280 hg w38 hbox hb; have n0_ := Aside0.mk (blk_below (g := gb278) (o := .cells #[.int .i64 a0_0, .int .i64 a0_1, .int .i64 a0_2, .int .i64 a0_3] 28 (0, 0)) (by (with_reducible repeat (first | refine blk_drewN ?_ _ | refine blk_drew ?_ | refine blk_alloc ?_ _)); exact BK278.out) hb); have n1_ := Aside0.mk (below_step (by repeat (first | (with_reducible first | exact HB.out | apply below_alloc | apply pw_below_drewN | apply below_drew1 | refine below_set ?_ GE278.out) | exact HB.out)) hb); have n2_ := Aside0.mk (hbox); have n3_ := Aside0.mk ((by rw [hg]; exact (below_size (by repeat (first | (with_reducible first | exact HB.out | apply below_alloc | apply pw_below_drewN | apply below_drew1 | refine below_set ?_ GE278.out) | exact HB.out))) : w.heap.size ≤ gb280)); have n4_ := Aside0.mk ((by rw [hg]; exact (below_size (by repeat (first | (with_reducible first | exact HB.out | apply below_alloc | apply pw_below_drewN | apply below_drew1 | refine below_set ?_ GE278.out) | exact HB.out))) : w.heap.size ≤ gb280)); have n5_ := Aside0.mk ((by rw [hg]; exact Nat.ne_of_lt (blk_lt (g := gb278) (o := .cells #[.int .i64 a0_0, .int .i64 a0_1, .int .i64 a0_2, .int .i64 a0_3] 28 (0, 0)) (by (with_reducible repeat (first | refine blk_drewN ?_ _ | refine blk_drew ?_ | refine blk_alloc ?_ _)); exact BK278.out)) : gb278 ≠ gb280)); have n6_ := Aside0.mk ((by rw [hg]; exact Nat.ne_of_gt (blk_lt (g := gb278) (o := .cells #[.int .i64 a0_0, .int .i64 a0_1, .int .i64 a0_2, .int .i64 a0_3] 28 (0, 0)) (by (with_reducible repeat (first | refine blk_drewN ?_ _ | refine blk_drew ?_ | refine blk_alloc ?_ _)); exact BK278.out)) : gb280 ≠ gb278)); clear BK278 HB; have BK278 := n0_; have HB := n1_; have BK280 := n2_; have GW280 := n3_; have GE280 := n4_; have NB278_280 := n5_; have NB280_278 := n6_; clear n0_ n1_ n2_ n3_ n4_ n5_ n6_ hb hbox hg; have hnb39 := NB280_278.out; have hnc39 := NB278_280.out; have hcz40_0 : w38.cell? ⟨gb280, 0, none⟩ = some (.int .i64 0) := (blk_cell BK280.out 0).trans rfl; have hcz40_1 : w38.cell? ⟨gb280, 1, none⟩ = some (.int .i64 0) := (blk_cell BK280.out 1).trans rfl; have hcz40_2 : w38.cell? ⟨gb280, 2, none⟩ = some (.int .i64 0) := (blk_cell BK280.out 2).trans rfl; have hcz40_3 : w38.cell? ⟨gb280, 3, none⟩ = some (.int .i64 0) := (blk_cell BK280.out 3).trans rfl; have hcz40_4 : w38.cell? ⟨gb280, 4, none⟩ = some (.int .i64 0) := (blk_cell BK280.out 4).trans rfl; have hfz40_0 := blk_frozen BK280.out 0; have hfz40_1 := blk_frozen BK280.out 1; have hfz40_2 := blk_frozen BK280.out 2; have hfz40_3 := blk_frozen BK280.out 3; have hfz40_4 := blk_frozen BK280.out 4) | (go_at_call 39; (with_reducible refine (awardingbodyref14_level.calls ((rd_T49 l1 x9_1).f1) false _ A9.out).mono ?_); rintro e w' ⟨rfl, ⟨nd, rfl⟩⟩))
       go_roundg k1
       case measure => have := HK1.out; omega
       case rel => exact ⟨(wrap64 (x9_1 + 1)), (by first | rfl | (simp; done) | (simp [*]; done)), H', ⟨by have := HK1.out; omega⟩, ⟨by (with_reducible repeat (first | refine blk_drewN ?_ _ | refine blk_drew ?_ | refine blk_alloc ?_ _)); refine blk_far ?_ NB278_280.out _; (with_reducible repeat (first | refine blk_drewN ?_ _ | refine blk_drew ?_ | refine blk_alloc ?_ _)); refine blk_far ?_ NB278_280.out _; (with_reducible repeat (first | refine blk_drewN ?_ _ | refine blk_drew ?_ | refine blk_alloc ?_ _)); refine blk_far ?_ NB278_280.out _; (with_reducible repeat (first | refine blk_drewN ?_ _ | refine blk_drew ?_ | refine blk_alloc ?_ _)); refine blk_far ?_ NB278_280.out _; (with_reducible repeat (first | refine blk_drewN ?_ _ | refine blk_drew ?_ | refine blk_alloc ?_ _)); refine blk_far ?_ NB278_280.out _; (with_reducible repeat (first | refine blk_drewN ?_ _ | refine blk_drew ?_ | refine blk_alloc ?_ _)); exact BK278.out⟩, ⟨by repeat (first | (with_reducible first | exact HB.out | apply below_alloc | apply pw_below_drewN | apply below_drew1 | refine below_set ?_ GE278.out | refine below_set ?_ GE280.out) | exact HB.out)⟩⟩
     ·rw [if_neg c8] at H
      have c8b0 : (((rd_T49 l1 x9_1).f0) == a2) = false := beq_eq_false_iff_ne.mpr c8
      have c8b1 : (((rd_T49 l1 x9_1).f0) != a2) = true := bne_iff_ne.mpr c8
      have H' := Aside0.mk H
      clear H
      have p279 : 0 ≤ (x9_1 : Int) := of_decide_eq_true (by first | (with_reducible assumption) | assumption)
      have q279 : x9_1 < (l1.length : Int) := of_decide_eq_true (by first | (with_reducible assumption) | assumption)
      obtain ⟨ad279, e279, hx279_0, hx279_1, hx279_2, hx279_3, hx279_4⟩ := at_T49 HR1.out x9_1 p279 q279
      cases e279
      replace hx279_0 := (HB.out.cell (World.block_lt_of_cell? w _ hx279_0)).trans hx279_0
      replace hx279_1 := (HB.out.cell (World.block_lt_of_cell? w _ hx279_1)).trans hx279_1
      replace hx279_2 := (HB.out.cell (World.block_lt_of_cell? w _ hx279_2)).trans hx279_2
      replace hx279_3 := (HB.out.cell (World.block_lt_of_cell? w _ hx279_3)).trans hx279_3
      replace hx279_4 := (HB.out.cell (World.block_lt_of_cell? w _ hx279_4)).trans hx279_4
      replace p279 := eq_true p279
      replace q279 := eq_true q279
      go_wp2_with (first | ((with_reducible refine gate_dst (N := 10) rfl ?_); refine box_event ?hg (N := 10) ?hd (cs := #[.int .i64 0, .int .i64 0, .int .i64 0, .int .i64 0, .int .i64 0]) (t := 49) ?hr ?_; (case hd => rfl); (case hg => rfl); (case hr => first | (go_simp; done) | (go_simp; rfl)); intro gb280 hg w41 hbox hb; have n0_ := Aside0.mk (blk_below (g := gb278) (o := .cells #[.int .i64 a0_0, .int .i64 a0_1, .int .i64 a0_2, .int .i64 a0_3] 28 (0, 0)) (by (with_reducible repeat (first | refine blk_drewN ?_ _ | refine blk_drew ?_ | refine blk_alloc ?_ _)); exact BK278.out) hb); have n1_ := Aside0.mk (below_step (by repeat (first | (with_reducible first | exact HB.out | apply below_alloc | apply pw_below_drewN | apply below_drew1 | refine below_set ?_ GE278.out) | exact HB.out)) hb); have n2_ := Aside0.mk (hbox); have n3_ := Aside0.mk ((by rw [hg]; exact (below_size (by repeat (first | (with_reducible first | exact HB.out | apply below_alloc | apply pw_below_drewN | apply below_drew1 | refine below_set ?_ GE278.out) | exact HB.out))) : w.heap.size ≤ gb280)); have n4_ := Aside0.mk ((by rw [hg]; exact (below_size (by repeat (first | (with_reducible first | exact HB.out | apply below_alloc | apply pw_below_drewN | apply below_drew1 | refine below_set ?_ GE278.out) | exact HB.out))) : w.heap.size ≤ gb280)); have n5_ := Aside0.mk ((by rw [hg]; exact Nat.ne_of_lt (blk_lt (g := gb278) (o := .cells #[.int .i64 a0_0, .int .i64 a0_1, .int .i64 a0_2, .int .i64 a0_3] 28 (0, 0)) (by (with_reducible repeat (first | refine blk_drewN ?_ _ | refine blk_drew ?_ | refine blk_alloc ?_ _)); exact BK278.out)) : gb278 ≠ gb280)); have n6_ := Aside0.mk ((by rw [hg]; exact Nat.ne_of_gt (blk_lt (g := gb278) (o := .cells #[.int .i64 a0_0, .int .i64 a0_1, .int .i64 a0_2, .int .i64 a0_3] 28 (0, 0)) (by (with_reducible repeat (first | refine blk_drewN ?_ _ | refine blk_drew ?_ | refine blk_alloc ?_ _)); exact BK278.out)) : gb280 ≠ gb278)); clear BK278 HB; have BK278 := n0_; have HB := n1_; have BK280 := n2_; have GW280 := n3_; have GE280 := n4_; have NB278_280 := n5_; have NB280_278 := n6_; clear n0_ n1_ n2_ n3_ n4_ n5_ n6_ hb hbox hg; have hnb42 := NB280_278.out; have hnc42 := NB278_280.out; have hcz43_0 : w41.cell? ⟨gb280, 0, none⟩ = some (.int .i64 0) := (blk_cell BK280.out 0).trans rfl; have hcz43_1 : w41.cell? ⟨gb280, 1, none⟩ = some (.int .i64 0) := (blk_cell BK280.out 1).trans rfl; have hcz43_2 : w41.cell? ⟨gb280, 2, none⟩ = some (.int .i64 0) := (blk_cell BK280.out 2).trans rfl; have hcz43_3 : w41.cell? ⟨gb280, 3, none⟩ = some (.int .i64 0) := (blk_cell BK280.out 3).trans rfl; have hcz43_4 : w41.cell? ⟨gb280, 4, none⟩ = some (.int .i64 0) := (blk_cell BK280.out 4).trans rfl; have hfz43_0 := blk_frozen BK280.out 0; have hfz43_1 := blk_frozen BK280.out 1; have hfz43_2 := blk_frozen BK280.out 2; have hfz43_3 := blk_frozen BK280.out 3; have hfz43_4 := blk_frozen BK280.out 4))
      go_roundg k1
      case measure => have := HK1.out; omega
      case rel => exact ⟨(wrap64 (x9_1 + 1)), (by first | rfl | (simp; done) | (simp [*]; done)), H', ⟨by have := HK1.out; omega⟩, ⟨by (with_reducible repeat (first | refine blk_drewN ?_ _ | refine blk_drew ?_ | refine blk_alloc ?_ _)); refine blk_far ?_ NB278_280.out _; (with_reducible repeat (first | refine blk_drewN ?_ _ | refine blk_drew ?_ | refine blk_alloc ?_ _)); refine blk_far ?_ NB278_280.out _; (with_reducible repeat (first | refine blk_drewN ?_ _ | refine blk_drew ?_ | refine blk_alloc ?_ _)); refine blk_far ?_ NB278_280.out _; (with_reducible repeat (first | refine blk_drewN ?_ _ | refine blk_drew ?_ | refine blk_alloc ?_ _)); refine blk_far ?_ NB278_280.out _; (with_reducible repeat (first | refine blk_drewN ?_ _ | refine blk_drew ?_ | refine blk_alloc ?_ _)); refine blk_far ?_ NB278_280.out _; (with_reducible repeat (first | refine blk_drewN ?_ _ | refine blk_drew ?_ | refine blk_alloc ?_ _)); exact BK278.out⟩, ⟨by repeat (first | (with_reducible first | exact HB.out | apply below_alloc | apply pw_below_drewN | apply below_drew1 | refine below_set ?_ GE278.out | refine below_set ?_ GE280.out) | exact HB.out)⟩⟩
    ·rw [if_neg c7] at H
     exact absurd H (by simp)
   ·rw [if_neg c6] at H
    have c6b0 : decide (x9_1 < (l1.length : Int)) = false := decide_eq_false c6
    clear c6
    obtain rfl := Option.some.inj H
    go_wp2
    go_ret
    exact ⟨by first | rfl | (simp [errW_none, errW_some] <;> rfl) | (simp [*, errW_none, errW_some] <;> rfl), by repeat (first | (with_reducible first | exact HB.out | apply below_alloc | apply pw_below_drewN | apply below_drew1 | refine below_set ?_ GE278.out) | exact HB.out)⟩

end Go.Proofs.Ytbgeoadaeihgkaa.Print
