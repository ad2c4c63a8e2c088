-- Printed by a program of this session (wip/own_print.py) out of the translation; Lean checks it.
import Derived.Test.YtbgeoadaeihgkaaPrint0
import Derived.Test.YtbgeoadaeihgkaaPrint4
namespace Go.Proofs.Ytbgeoadaeihgkaa.Print
open Go.RowKit Go.Proofs.YtbgeoadaeihgkaaW.PrintWords Go.Proofs.YtbgeoadaeihgkaaW.PrintLast Go.Proofs.YtbgeoadaeihgkaaW.PrintMore
attribute [local go_sem] max2_int min2_int max_two min_two max_three min_three max_four min_four   -- for this text's walks alone
set_option linter.unusedVariables false
set_option linter.unusedSimpArgs false

/-! ### access_Minutes: function 25 -/
def access_Minutes.j0 : Nat → Int → Bool → Int → Int → Option (Int × Int)
  | 0, _, _, _, _ => none
  | k + 1, x0, x11, x198000, x198001 => if x11 = true then (some (0, 2)) else (if (Go.bits .and .i64 x198001 32) = 0 then (some (wrap64 (x0 + (wrap64 (Int.tdiv (wrap64 ((wrap64 (x0 * x198000)) + 99)) 100))), 0)) else (some (wrap64 ((wrap64 (x0 + (wrap64 (Int.tdiv (wrap64 ((wrap64 (x0 * x198000)) + 99)) 100)))) + (wrap64 (5 * (wrap64 (Int.tdiv (wrap64 (x0 + 29)) 30))))), 0)))
def access_Minutes.f (k : Nat) (a0 : Int) (a1_0 : Int) (a1_1 : Int) : Option (Int × Int) := (access_valid.f a1_0 a1_1).bind fun t198 => (if t198 = true then (if a0 < 1 then (access_Minutes.j0 k a0 true a1_0 a1_1) else (access_Minutes.j0 k a0 (decide (a0 > 600)) a1_0 a1_1)) else (some (0, 1)))
theorem access_Minutes.mono_l : ∀ k, (∀ y0 y1 y2 y3, LeO (access_Minutes.j0 k y0 y1 y2 y3) (access_Minutes.j0 (k + 1) y0 y1 y2 y3))
  | 0 => fun _ _ _ _ r h => by simp [access_Minutes.j0] at h
  | k + 1 => by
    have ih0 := access_Minutes.mono_l k
    · intro y0 y1 y2 y3
      unfold access_Minutes.j0
      repeat' first
      | (with_reducible exact ih0 _ _ _ _)
      | (with_reducible exact LeO.refl _)
      | (with_reducible exact LeO.none _)
      | (with_reducible refine LeO.ite ?_ ?_)
      | (with_reducible refine LeO.bind ?_ (fun _ => ?_))
      | exact ih0 _ _ _ _
      | exact LeO.none _
      | refine LeO.ite ?_ ?_
      | refine LeO.bind ?_ (fun _ => ?_)
theorem access_Minutes.mono : ∀ a0 a1 a2 k, LeO (access_Minutes.f k a0 a1 a2) (access_Minutes.f (k + 1) a0 a1 a2) := by
  intro a0 a1 a2 k
  have ih0 := access_Minutes.mono_l k
  unfold access_Minutes.f
  repeat' first
      | (with_reducible exact ih0 _ _ _ _)
      | (with_reducible exact LeO.refl _)
      | (with_reducible exact LeO.none _)
      | (with_reducible refine LeO.ite ?_ ?_)
      | (with_reducible refine LeO.bind ?_ (fun _ => ?_))
      | exact ih0 _ _ _ _
      | exact LeO.none _
      | refine LeO.ite ?_ ?_
      | refine LeO.bind ?_ (fun _ => ?_)
set_option maxHeartbeats 8000000 in
set_option maxRecDepth 100000 in
theorem access_Minutes.calls (k : Nat) (a0 : Int) (a1_0 : Int) (a1_1 : Int) (r1 : Int) (r2 : Int) (w : World) (h : access_Minutes.f k a0 a1_0 a1_1 = some (r1, r2)) :
    Calls Try.prog 25 #[.int .i64 a0, .agg #[.int .i64 a1_0, .int .i64 a1_1]] w fun e w' => e = .returned (.tuple #[.int .i64 r1, .int .i64 r2]) ∧ Below w.heap.size w w' := by
 have hu38 := Try.underlying38
 have HB := Aside0.mk (Below.refl w.heap.size w)
 have H : ((access_valid.f a1_0 a1_1).bind fun t198 => (if t198 = true then (if a0 < 1 then (access_Minutes.j0 k a0 true a1_0 a1_1) else (access_Minutes.j0 k a0 (decide (a0 > 600)) a1_0 a1_1)) else (some (0, 1)))) = some (r1, r2) := h
 clear h
 replace H := Option.bind_eq_some_iff.mp H
 obtain ⟨t198, A30, H⟩ := H
 replace H : (if t198 = true then (if a0 < 1 then (access_Minutes.j0 k a0 true a1_0 a1_1) else (access_Minutes.j0 k a0 (decide (a0 > 600)) a1_0 a1_1)) else (some (0, 1))) = some (r1, r2) := H
 have A3 := Aside0.mk A30
 clear A30
 by_cases c4 : t198 = true
 ·subst c4
  have H1 : (if a0 < 1 then (access_Minutes.j0 k a0 true a1_0 a1_1) else (access_Minutes.j0 k a0 (decide (a0 > 600)) a1_0 a1_1)) = some (r1, r2) := by rw [if_pos rfl] at H; exact H
  clear H
  have H := H1
  clear H1
  have HC5 := Aside0.mk H
  clear H
  go_enter Try.func25, Try.ntmps25
  go_upto_region 3 with (first | ((with_reducible refine gate_dst (N := 3) rfl ?_); refine box_event ?hg (N := 3) ?hd (cs := #[.int .i64 a1_0, .int .i64 a1_1]) (t := 38) ?hr ?_; (case hd => rfl); (case hg => rfl); (case hr => first | (go_simp; done) | (go_simp; rfl)); intro gb197 hg w6 hbox hb; have n0_ := Aside0.mk (below_step (by repeat (first | (with_reducible first | exact HB.out | apply below_alloc | apply pw_below_drewN | apply below_drew1) | exact HB.out)) hb); have n1_ := Aside0.mk (hbox); have n2_ := Aside0.mk ((by rw [hg]; exact (below_size (by repeat (first | (with_reducible first | exact HB.out | apply below_alloc | apply pw_below_drewN | apply below_drew1) | exact HB.out))) : w.heap.size ≤ gb197)); have n3_ := Aside0.mk ((by rw [hg]; exact (below_size (by repeat (first | (with_reducible first | exact HB.out | apply below_alloc | apply pw_below_drewN | apply below_drew1) | exact HB.out))) : w.heap.size ≤ gb197)); clear HB; have HB := n0_; have BK197 := n1_; have GW197 := n2_; have GE197 := n3_; clear n0_ n1_ n2_ n3_ hb hbox hg; have hcz7_0 : w6.cell? ⟨gb197, 0, none⟩ = some (.int .i64 a1_0) := (blk_cell BK197.out 0).trans rfl; have hcz7_1 : w6.cell? ⟨gb197, 1, none⟩ = some (.int .i64 a1_1) := (blk_cell BK197.out 1).trans rfl; have hfz7_0 := blk_frozen BK197.out 0; have hfz7_1 := blk_frozen BK197.out 1) | ((with_reducible refine gate_callee (f := 38) rfl ?_); refine goesL_ (some 9) rfl rfl Try.func38 (by kernel_rfl) rfl #[.agg #[.int .i64 a1_0, .int .i64 a1_1]] rfl (by (try simp only [List.map_toArray, List.map_cons, List.map_nil]); first | done | rfl | (simp only [List.length_drop, List.length_take]; rfl)) ?_; (with_reducible refine (access_valid.calls a1_0 a1_1 true _ A3.out).mono ?_); rintro e w8 ⟨rfl, hb⟩; refine ⟨_, rfl, ?_⟩; have n0_ := Aside0.mk (blk_below (g := gb197) (o := .cells #[.int .i64 a1_0, .int .i64 a1_1] 38 (0, 0)) (by (with_reducible repeat (first | refine blk_drewN ?_ _ | refine blk_drew ?_ | refine blk_alloc ?_ _)); exact BK197.out) hb); have n1_ := Aside0.mk (below_step (by repeat (first | (with_reducible first | exact HB.out | apply below_alloc | apply pw_below_drewN | apply below_drew1 | refine below_set ?_ GE197.out) | exact HB.out)) hb); clear BK197 HB; have BK197 := n0_; have HB := n1_; clear n0_ n1_; (try clear hb); (try clear hb2); (try clear hk); (try clear hi)))
  (try simp only [Act.put, List.setIfInBounds_toArray, List.set_cons_zero, List.set_cons_succ])
  go_cut [11] (fun v11 wc => ∃ (kq : Nat) (x11_4 : Bool), v11 = .bool x11_4 ∧ Aside0 (access_Minutes.j0 kq a0 x11_4 a1_0 a1_1 = some (r1, r2)) ∧ Aside0 (kq ≤ k) ∧ Aside0 (wc.heap[gb197]? = some (.cells #[.int .i64 a1_0, .int .i64 a1_1] 38 (0, 0))) ∧ Aside0 (Below w.heap.size w wc))
  case first =>
   have H := HC5.out
   clear HC5
   by_cases c9 : a0 < 1
   ·rw [if_pos c9] at H
    have c9b0 : decide (a0 < 1) = true := decide_eq_true c9
    clear c9
    (first | rw [c9b0] | (simp only [i64_w, i32_w]; rw [c9b0]) | skip)
    have H' := Aside0.mk H
    clear H
    go_wp2
    go_meet
    case rel => exact ⟨_, (true), (by first | rfl | (simp; done) | (simp [*]; done)), H', ⟨by first | omega | exact Nat.le_refl _⟩, ⟨by (with_reducible repeat (first | refine blk_drewN ?_ _ | refine blk_drew ?_ | refine blk_alloc ?_ _)); exact BK197.out⟩, ⟨by repeat (first | (with_reducible first | exact HB.out | apply below_alloc | apply pw_below_drewN | apply below_drew1 | refine below_set ?_ GE197.out) | exact HB.out)⟩⟩
   ·rw [if_neg c9] at H
    have c9b0 : decide (a0 < 1) = false := decide_eq_false c9
    clear c9
    (first | rw [c9b0] | (simp only [i64_w, i32_w]; rw [c9b0]) | skip)
    have H' := Aside0.mk H
    clear H
    go_wp2
    go_meet
    case rel => exact ⟨_, (decide (a0 > 600)), (by first | rfl | (simp; done) | (simp [*]; done)), H', ⟨by first | omega | exact Nat.le_refl _⟩, ⟨by (with_reducible repeat (first | refine blk_drewN ?_ _ | refine blk_drew ?_ | refine blk_alloc ?_ _)); exact BK197.out⟩, ⟨by repeat (first | (with_reducible first | exact HB.out | apply below_alloc | apply pw_below_drewN | apply below_drew1 | refine below_set ?_ GE197.out) | exact HB.out)⟩⟩
  case rest =>
   clear HC5
   try clear c2
   try clear p2
   try clear c3
   try clear c4
   try clear c9
   try clear c9b0
   try clear hcz7_0
   try clear hcz7_1
   try clear hfz7_0
   try clear hfz7_1
   obtain ⟨kq, x11_4, rfl, HA, HJ4, BK197, HB⟩ := hcut
   cases kq with
   | zero => exact absurd HA.out (by simp [access_Minutes.j0])
   | succ kj4 =>
    have H := HA.out
    clear HA
    simp only [access_Minutes.j0] at H
    by_cases c10 : x11_4 = true
    ·subst c10
     have H1 : (some (0, 2)) = some (r1, r2) := by rw [if_pos rfl] at H; exact H
     clear H
     have H := H1
     clear H1
     simp only [Option.some.injEq, Prod.mk.injEq] at H
     obtain ⟨rfl, rfl⟩ := H
     go_wp2
     go_ret2
     exact ⟨by first | rfl | (simp [errW_none, errW_some] <;> rfl) | (simp [*, errW_none, errW_some] <;> rfl), by repeat (first | (with_reducible first | exact HB.out | apply below_alloc | apply pw_below_drewN | apply below_drew1 | refine below_set ?_ GE197.out) | exact HB.out)⟩
    ·replace c10 := Bool.eq_false_iff.mpr c10
     subst c10
     have H1 : (if (Go.bits .and .i64 a1_1 32) = 0 then (some (wrap64 (a0 + (wrap64 (Int.tdiv (wrap64 ((wrap64 (a0 * a1_0)) + 99)) 100))), 0)) else (some (wrap64 ((wrap64 (a0 + (wrap64 (Int.tdiv (wrap64 ((wrap64 (a0 * a1_0)) + 99)) 100)))) + (wrap64 (5 * (wrap64 (Int.tdiv (wrap64 (a0 + 29)) 30))))), 0))) = some (r1, r2) := by rw [if_neg (show ¬ (false = true) by decide)] at H; exact H
     clear H
     have H := H1
     clear H1
     by_cases c11 : (Go.bits .and .i64 a1_1 32) = 0
     ·rw [if_pos c11] at H
      have c11b0 : ((Go.bits .and .i64 a1_1 32) == 0) = true := beq_iff_eq.mpr c11
      have c11b1 : ((Go.bits .and .i64 a1_1 32) != 0) = false := bne_eq_false_iff_eq.mpr c11
      clear c11
      simp only [Option.some.injEq, Prod.mk.injEq] at H
      obtain ⟨rfl, rfl⟩ := H
      have hcz12_0 : wc.cell? ⟨gb197, 0, none⟩ = some (.int .i64 a1_0) := (blk_cell BK197.out 0).trans rfl
      have hcz12_1 : wc.cell? ⟨gb197, 1, none⟩ = some (.int .i64 a1_1) := (blk_cell BK197.out 1).trans rfl
      have hfz12_0 := blk_frozen BK197.out 0
      have hfz12_1 := blk_frozen BK197.out 1
      go_wp2
      go_ret2
      exact ⟨by first | rfl | (simp [errW_none, errW_some] <;> rfl) | (simp [*, errW_none, errW_some] <;> rfl), by repeat (first | (with_reducible first | exact HB.out | apply below_alloc | apply pw_below_drewN | apply below_drew1 | refine below_set ?_ GE197.out) | exact HB.out)⟩
     ·rw [if_neg c11] at H
      have c11b0 : ((Go.bits .and .i64 a1_1 32) == 0) = false := beq_eq_false_iff_ne.mpr c11
      have c11b1 : ((Go.bits .and .i64 a1_1 32) != 0) = true := bne_iff_ne.mpr c11
      simp only [Option.some.injEq, Prod.mk.injEq] at H
      obtain ⟨rfl, rfl⟩ := H
      have hcz13_0 : wc.cell? ⟨gb197, 0, none⟩ = some (.int .i64 a1_0) := (blk_cell BK197.out 0).trans rfl
      have hcz13_1 : wc.cell? ⟨gb197, 1, none⟩ = some (.int .i64 a1_1) := (blk_cell BK197.out 1).trans rfl
      have hfz13_0 := blk_frozen BK197.out 0
      have hfz13_1 := blk_frozen BK197.out 1
      go_wp2
      go_ret2
      exact ⟨by first | rfl | (simp [errW_none, errW_some] <;> rfl) | (simp [*, errW_none, errW_some] <;> rfl), by repeat (first | (with_reducible first | exact HB.out | apply below_alloc | apply pw_below_drewN | apply below_drew1 | refine below_set ?_ GE197.out) | exact HB.out)⟩
 ·replace c4 := Bool.eq_false_iff.mpr c4
  subst c4
  have H1 : (some (0, 1)) = some (r1, r2) := by rw [if_neg (show ¬ (false = true) by decide)] at H; exact H
  clear H
  have H := H1
  clear H1
  simp only [Option.some.injEq, Prod.mk.injEq] at H
  obtain ⟨rfl, rfl⟩ := H
  go_enter Try.func25, Try.ntmps25
  go_wp2_with (first | ((with_reducible refine gate_dst (N := 3) rfl ?_); refine box_event ?hg (N := 3) ?hd (cs := #[.int .i64 a1_0, .int .i64 a1_1]) (t := 38) ?hr ?_; (case hd => rfl); (case hg => rfl); (case hr => first | (go_simp; done) | (go_simp; rfl)); intro gb197 hg w14 hbox hb; have n0_ := Aside0.mk (below_step (by repeat (first | (with_reducible first | exact HB.out | apply below_alloc | apply pw_below_drewN | apply below_drew1) | exact HB.out)) hb); have n1_ := Aside0.mk (hbox); have n2_ := Aside0.mk ((by rw [hg]; exact (below_size (by repeat (first | (with_reducible first | exact HB.out | apply below_alloc | apply pw_below_drewN | apply below_drew1) | exact HB.out))) : w.heap.size ≤ gb197)); have n3_ := Aside0.mk ((by rw [hg]; exact (below_size (by repeat (first | (with_reducible first | exact HB.out | apply below_alloc | apply pw_below_drewN | apply below_drew1) | exact HB.out))) : w.heap.size ≤ gb197)); clear HB; have HB := n0_; have BK197 := n1_; have GW197 := n2_; have GE197 := n3_; clear n0_ n1_ n2_ n3_ hb hbox hg; have hcz15_0 : w14.cell? ⟨gb197, 0, none⟩ = some (.int .i64 a1_0) := (blk_cell BK197.out 0).trans rfl; have hcz15_1 : w14.cell? ⟨gb197, 1, none⟩ = some (.int .i64 a1_1) := (blk_cell BK197.out 1).trans rfl; have hfz15_0 := blk_frozen BK197.out 0; have hfz15_1 := blk_frozen BK197.out 1) | ((with_reducible refine gate_callee (f := 38) rfl ?_); refine goesL_ (some 9) rfl rfl Try.func38 (by kernel_rfl) rfl #[.agg #[.int .i64 a1_0, .int .i64 a1_1]] rfl (by (try simp only [List.map_toArray, List.map_cons, List.map_nil]); first | done | rfl | (simp only [List.length_drop, List.length_take]; rfl)) ?_; (with_reducible refine (access_valid.calls a1_0 a1_1 false _ A3.out).mono ?_); rintro e w16 ⟨rfl, hb⟩; refine ⟨_, rfl, ?_⟩; have n0_ := Aside0.mk (blk_below (g := gb197) (o := .cells #[.int .i64 a1_0, .int .i64 a1_1] 38 (0, 0)) (by (with_reducible repeat (first | refine blk_drewN ?_ _ | refine blk_drew ?_ | refine blk_alloc ?_ _)); exact BK197.out) hb); have n1_ := Aside0.mk (below_step (by repeat (first | (with_reducible first | exact HB.out | apply below_alloc | apply pw_below_drewN | apply below_drew1 | refine below_set ?_ GE197.out) | exact HB.out)) hb); clear BK197 HB; have BK197 := n0_; have HB := n1_; clear n0_ n1_; (try clear hb); (try clear hb2); (try clear hk); (try clear hi)))
  go_ret2
  exact ⟨by first | rfl | (simp [errW_none, errW_some] <;> rfl) | (simp [*, errW_none, errW_some] <;> rfl), by repeat (first | (with_reducible first | exact HB.out | apply below_alloc | apply pw_below_drewN | apply below_drew1 | refine below_set ?_ GE197.out) | exact HB.out)⟩

end Go.Proofs.Ytbgeoadaeihgkaa.Print
