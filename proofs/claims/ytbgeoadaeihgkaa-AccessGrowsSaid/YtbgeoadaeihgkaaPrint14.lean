-- Printed by a program of this session (wip/own_print.py) out of the translation; Lean checks it.
import Derived.Test.YtbgeoadaeihgkaaPrint0
import Derived.Test.YtbgeoadaeihgkaaPrint4
import Derived.Test.YtbgeoadaeihgkaaPrint12
import Derived.Test.YtbgeoadaeihgkaaPrint13
namespace Go.Proofs.Ytbgeoadaeihgkaa.Print
open Go.RowKit Go.Proofs.YtbgeoadaeihgkaaW.PrintWords Go.Proofs.YtbgeoadaeihgkaaW.PrintLast Go.Proofs.YtbgeoadaeihgkaaW.PrintMore
attribute [local go_sem] max2_int min2_int max_two min_two max_three min_three max_four min_four   -- for this text's walks alone
set_option linter.unusedVariables false
set_option linter.unusedSimpArgs false

/-! ### awardingbodyref14_Grant: function 20 -/
def awardingbodyref14_Grant.l0 : Nat → List (S28) → List (S49) → Int → Int → Int → Int → Int → Option (Int × Int × Int)
  | 0, _, _, _, _, _, _, _ => none
  | k + 1, x0, x1, x2, x3, x12, x286000, x286001 => if x12 < (x0.length : Int) then (if 0 ≤ x12 then ((awardingbodyref14_applies.f k ((rd_T28 x0 x12).f0) ((rd_T28 x0 x12).f1) ((rd_T28 x0 x12).f2) ((rd_T28 x0 x12).f3) x1 x2 x3).bind fun t289 => (if t289 = true then ((awardingbodyref14_Join.f x286000 x286001 ((rd_T28 x0 x12).f2) ((rd_T28 x0 x12).f3)).bind fun bt292 => (awardingbodyref14_Grant.l0 k x0 x1 x2 x3 (wrap64 (x12 + 1)) bt292.1 bt292.2)) else (awardingbodyref14_Grant.l0 k x0 x1 x2 x3 (wrap64 (x12 + 1)) x286000 x286001))) else (none)) else ((awardingbodyref14_Imply.f x286000 x286001).bind fun bt286 => (some (bt286.1, bt286.2, 0)))
def awardingbodyref14_Grant.f (k : Nat) (l0 : List (S28)) (l1 : List (S49)) (a2 : Int) (a3 : Int) : Option (Int × Int × Int) := (awardingbodyref14_Check.f k l0).bind fun t284 => (if t284 = 0 then (awardingbodyref14_Grant.l0 k l0 l1 a2 a3 0 0 0) else (some (0, 0, t284)))
theorem awardingbodyref14_Grant.mono_l : ∀ k, (∀ y0 y1 y2 y3 y4 y5 y6, LeO (awardingbodyref14_Grant.l0 k y0 y1 y2 y3 y4 y5 y6) (awardingbodyref14_Grant.l0 (k + 1) y0 y1 y2 y3 y4 y5 y6))
  | 0 => fun _ _ _ _ _ _ _ r h => by simp [awardingbodyref14_Grant.l0] at h
  | k + 1 => by
    have ih0 := awardingbodyref14_Grant.mono_l k
    · intro y0 y1 y2 y3 y4 y5 y6
      unfold awardingbodyref14_Grant.l0
      repeat' first
      | (with_reducible exact ih0 _ _ _ _ _ _ _)
      | (with_reducible exact awardingbodyref14_Check.mono _ _)
      | (with_reducible exact awardingbodyref14_applies.mono _ _ _ _ _ _ _ _)
      | (with_reducible exact LeO.refl _)
      | (with_reducible exact LeO.none _)
      | (with_reducible refine LeO.ite ?_ ?_)
      | (with_reducible refine LeO.bind ?_ (fun _ => ?_))
      | exact ih0 _ _ _ _ _ _ _
      | exact awardingbodyref14_Check.mono _ _
      | exact awardingbodyref14_applies.mono _ _ _ _ _ _ _ _
      | exact LeO.none _
      | refine LeO.ite ?_ ?_
      | refine LeO.bind ?_ (fun _ => ?_)
theorem awardingbodyref14_Grant.mono : ∀ a0 a1 a2 a3 k, LeO (awardingbodyref14_Grant.f k a0 a1 a2 a3) (awardingbodyref14_Grant.f (k + 1) a0 a1 a2 a3) := by
  intro a0 a1 a2 a3 k
  have ih0 := awardingbodyref14_Grant.mono_l k
  unfold awardingbodyref14_Grant.f
  repeat' first
      | (with_reducible exact ih0 _ _ _ _ _ _ _)
      | (with_reducible exact awardingbodyref14_Check.mono _ _)
      | (with_reducible exact awardingbodyref14_applies.mono _ _ _ _ _ _ _ _)
      | (with_reducible exact LeO.refl _)
      | (with_reducible exact LeO.none _)
      | (with_reducible refine LeO.ite ?_ ?_)
      | (with_reducible refine LeO.bind ?_ (fun _ => ?_))
      | exact ih0 _ _ _ _ _ _ _
      | exact awardingbodyref14_Check.mono _ _
      | exact awardingbodyref14_applies.mono _ _ _ _ _ _ _ _
      | exact LeO.none _
      | refine LeO.ite ?_ ?_
      | refine LeO.bind ?_ (fun _ => ?_)
def awardingbodyref14_Grant.T9 : Bool × List (List Nat × List Nat) := (true, [([], []), ([], []), ([], []), ([1, 2], [1, 2]), ([3], [3]), ([4], [4]), ([], []), ([], []), ([6, 7], [6, 7]), ([8], [8]), ([9], [9]), ([5, 10], [5, 10]), ([0, 11], [0, 11]), ([12, 12, 0, 1, 2, 3, 4, 5, 6, 7, 8, 9, 10, 11, 12], [12])])
def awardingbodyref14_Grant.B9 : List Nat := [0, 0, 0, 6, 14, 30, 0, 0, 192, 448, 960, 2046, 4095, 8191]
theorem awardingbodyref14_Grant.tab9 : rtab .any (opsOf Try.f20 9) = awardingbodyref14_Grant.T9 := by kernel_rfl
theorem awardingbodyref14_Grant.bits9 : waitsOk awardingbodyref14_Grant.T9.2 awardingbodyref14_Grant.B9 = true := by kernel_rfl
set_option maxHeartbeats 8000000 in
set_option maxRecDepth 100000 in
theorem awardingbodyref14_Grant.calls (k : Nat) (A0 : Option Addr) (c0 : Nat) (l0 : List (S28)) (A1 : Option Addr) (c1 : Nat) (l1 : List (S49)) (a2 : Int) (a3 : Int) (r1 : Int) (r2 : Int) (r3 : Int) (w : World) (hr0 : Kd.C k28 w A0 l0.length l0) (hc0 : l0.length ≤ c0) (hr1 : Kd.C k49 w A1 l1.length l1) (hc1 : l1.length ≤ c1) (h : awardingbodyref14_Grant.f k l0 l1 a2 a3 = some (r1, r2, r3)) :
    Calls Try.prog 20 #[.slice A0 l0.length c0, .slice A1 l1.length c1, .int .i64 a2, .int .i64 a3] w fun e w' => e = .returned (.tuple #[.agg #[.int .i64 r1, .int .i64 r2], .int .i64 r3]) ∧ Below w.heap.size w w' := by
 have hu38 := Try.underlying38
 have hu28 := Try.underlying28
 have HR0 := Aside0.mk hr0
 have HC0 := Aside0.mk hc0
 clear hr0 hc0
 have HR1 := Aside0.mk hr1
 have HC1 := Aside0.mk hc1
 clear hr1 hc1
 have HB := Aside0.mk (Below.refl w.heap.size w)
 have H : ((awardingbodyref14_Check.f k l0).bind fun t284 => (if t284 = 0 then (awardingbodyref14_Grant.l0 k l0 l1 a2 a3 0 0 0) else (some (0, 0, t284)))) = some (r1, r2, r3) := h
 clear h
 replace H := Option.bind_eq_some_iff.mp H
 obtain ⟨t284, A50, H⟩ := H
 replace H : (if t284 = 0 then (awardingbodyref14_Grant.l0 k l0 l1 a2 a3 0 0 0) else (some (0, 0, t284))) = some (r1, r2, r3) := H
 have A5 := Aside0.mk A50
 clear A50
 by_cases c6 : t284 = 0
 ·rw [if_pos c6] at H
  have c6b0 : (t284 == 0) = true := beq_iff_eq.mpr c6
  have c6b1 : (t284 != 0) = false := bne_eq_false_iff_eq.mpr c6
  clear c6
  have H' := Aside0.mk H
  clear H
  go_enter Try.func20, Try.ntmps20
  go_wp2_with (first | ((with_reducible refine gate_dst (N := 8) rfl ?_); refine box_event ?hg (N := 8) ?hd (cs := #[.int .i64 0, .int .i64 0]) (t := 38) ?hr ?_; (case hd => rfl); (case hg => rfl); (case hr => first | (go_simp; done) | (go_simp; rfl)); intro gb283 hg w7 hbox hb; have n0_ := Aside0.mk (below_step (by repeat (first | (with_reducible first | exact HB.out | apply below_alloc | apply pw_below_drewN | apply below_drew1) | exact HB.out)) hb); have n1_ := Aside0.mk (hbox); have n2_ := Aside0.mk ((by rw [hg]; exact (below_size (by repeat (first | (with_reducible first | exact HB.out | apply below_alloc | apply pw_below_drewN | apply below_drew1) | exact HB.out))) : w.heap.size ≤ gb283)); have n3_ := Aside0.mk ((by rw [hg]; exact (below_size (by repeat (first | (with_reducible first | exact HB.out | apply below_alloc | apply pw_below_drewN | apply below_drew1) | exact HB.out))) : w.heap.size ≤ gb283)); clear HB; have HB := n0_; have BK283 := n1_; have GW283 := n2_; have GE283 := n3_; clear n0_ n1_ n2_ n3_ hb hbox hg) | ((with_reducible refine gate_callee (f := 15) rfl ?_); refine goesL_ (some 14) rfl rfl Try.func15 (by kernel_rfl) rfl #[.slice A0 l0.length c0] rfl (by (try simp only [List.map_toArray, List.map_cons, List.map_nil]); first | done | rfl | (simp only [List.length_drop, List.length_take]; rfl)) ?_; (with_reducible refine (awardingbodyref14_Check.calls k _ _ l0 t284 _ ?side1 ?side2 A5.out).mono ?_); (case side1 => repeat (first | exact (Kd.C_below HR0.out HB.out) | (with_reducible refine Kd.C_alloc ?_ _) | (with_reducible refine Kd.C_drewN ?_ _) | (with_reducible refine Kd.C_drew ?_))); (case side2 => exact HC0.out); rintro e w8 ⟨rfl, hb⟩; refine ⟨_, rfl, ?_⟩; have n0_ := Aside0.mk (blk_below (g := gb283) (o := .cells #[.int .i64 0, .int .i64 0] 38 (0, 0)) (by (with_reducible repeat (first | refine blk_drewN ?_ _ | refine blk_drew ?_ | refine blk_alloc ?_ _)); exact BK283.out) hb); have n1_ := Aside0.mk (below_step (by repeat (first | (with_reducible first | exact HB.out | apply below_alloc | apply pw_below_drewN | apply below_drew1 | refine below_set ?_ GE283.out) | exact HB.out)) hb); clear BK283 HB; have BK283 := n0_; have HB := n1_; clear n0_ n1_; (try clear hb); (try clear hb2); (try clear hk); (try clear hi)) | ((with_reducible refine gate_dst (N := 11) rfl ?_); refine box_event ?hg (N := 11) ?hd (cs := #[.int .i64 0, .int .i64 0]) (t := 38) ?hr ?_; (case hd => rfl); (case hg => rfl); (case hr => first | (go_simp; done) | (go_simp; rfl)); intro gb285 hg w9 hbox hb; have n0_ := Aside0.mk (blk_below (g := gb283) (o := .cells #[.int .i64 0, .int .i64 0] 38 (0, 0)) (by (with_reducible repeat (first | refine blk_drewN ?_ _ | refine blk_drew ?_ | refine blk_alloc ?_ _)); exact BK283.out) hb); have n1_ := Aside0.mk (below_step (by repeat (first | (with_reducible first | exact HB.out | apply below_alloc | apply pw_below_drewN | apply below_drew1 | refine below_set ?_ GE283.out) | exact HB.out)) hb); have n2_ := Aside0.mk (hbox); have n3_ := Aside0.mk ((by rw [hg]; exact (below_size (by repeat (first | (with_reducible first | exact HB.out | apply below_alloc | apply pw_below_drewN | apply below_drew1 | refine below_set ?_ GE283.out) | exact HB.out))) : w.heap.size ≤ gb285)); have n4_ := Aside0.mk ((by rw [hg]; exact (below_size (by repeat (first | (with_reducible first | exact HB.out | apply below_alloc | apply pw_below_drewN | apply below_drew1 | refine below_set ?_ GE283.out) | exact HB.out))) : w.heap.size ≤ gb285)); have n5_ := Aside0.mk ((by rw [hg]; exact Nat.ne_of_lt (blk_lt (g := gb283) (o := .cells #[.int .i64 0, .int .i64 0] 38 (0, 0)) (by (with_reducible repeat (first | refine blk_drewN ?_ _ | refine blk_drew ?_ | refine blk_alloc ?_ _)); exact BK283.out)) : gb283 ≠ gb285)); have n6_ := Aside0.mk ((by rw [hg]; exact Nat.ne_of_gt (blk_lt (g := gb283) (o := .cells #[.int .i64 0, .int .i64 0] 38 (0, 0)) (by (with_reducible repeat (first | refine blk_drewN ?_ _ | refine blk_drew ?_ | refine blk_alloc ?_ _)); exact BK283.out)) : gb285 ≠ gb283)); clear BK283 HB; have BK283 := n0_; have HB := n1_; have BK285 := n2_; have GW285 := n3_; have GE285 := n4_; have NB283_285 := n5_; have NB285_283 := n6_; clear n0_ n1_ n2_ n3_ n4_ n5_ n6_ hb hbox hg))
  go_loopg [12] k (fun kq v12 w' => ∃ (x12_1 : Int) (x286000_1 : Int) (x286001_1 : Int), v12 = .int .i64 x12_1 ∧ Aside0 (awardingbodyref14_Grant.l0 kq l0 l1 a2 a3 x12_1 x286000_1 x286001_1 = some (r1, r2, r3)) ∧ Aside0 (kq ≤ k) ∧ Aside0 (w'.heap[gb283]? = some (.cells #[.int .i64 0, .int .i64 0] 38 (0, 0))) ∧ Aside0 (w'.heap[gb285]? = some (.cells #[.int .i64 x286000_1, .int .i64 x286001_1] 38 (0, 0))) ∧ Aside0 (Below w.heap.size w w'))
  case atStart => exact ⟨(0), (0), (0), (by first | rfl | (simp; done) | (simp [*]; done)), H', ⟨Nat.le_refl _⟩, ⟨by (with_reducible repeat (first | refine blk_drewN ?_ _ | refine blk_drew ?_ | refine blk_alloc ?_ _)); exact BK283.out⟩, ⟨by (with_reducible repeat (first | refine blk_drewN ?_ _ | refine blk_drew ?_ | refine blk_alloc ?_ _)); exact BK285.out⟩, ⟨by repeat (first | (with_reducible first | exact HB.out | apply below_alloc | apply pw_below_drewN | apply below_drew1 | refine below_set ?_ GE283.out | refine below_set ?_ GE285.out) | exact HB.out)⟩⟩
  case round =>
   clear H'
   try clear c1
   try clear c2
   try clear p2
   try clear c6
   try clear c6b0
   try clear c6b1
   obtain ⟨x12_1, x286000_1, x286001_1, rfl, HA, HK1, BK283, BK285, HB⟩ := hrel
   cases gk with
   | zero => exact absurd HA.out (by simp [awardingbodyref14_Grant.l0])
   | succ k1 =>
    have H := HA.out
    clear HA
    simp only [awardingbodyref14_Grant.l0] at H
    by_cases c10 : x12_1 < (l0.length : Int)
    ·rw [if_pos c10] at H
     have c10b0 : decide (x12_1 < (l0.length : Int)) = true := decide_eq_true c10
     clear c10
     by_cases c11 : 0 ≤ x12_1
     ·rw [if_pos c11] at H
      have c11b0 : decide (0 ≤ x12_1) = true := decide_eq_true c11
      clear c11
      replace H := Option.bind_eq_some_iff.mp H
      obtain ⟨t289, A120, H⟩ := H
      replace H : (if t289 = true then ((awardingbodyref14_Join.f x286000_1 x286001_1 ((rd_T28 l0 x12_1).f2) ((rd_T28 l0 x12_1).f3)).bind fun bt292 => (awardingbodyref14_Grant.l0 k1 l0 l1 a2 a3 (wrap64 (x12_1 + 1)) bt292.1 bt292.2)) else (awardingbodyref14_Grant.l0 k1 l0 l1 a2 a3 (wrap64 (x12_1 + 1)) x286000_1 x286001_1)) = some (r1, r2, r3) := H
      have A12 := Aside0.mk A120
      clear A120
      by_cases c13 : t289 = true
      ·subst c13
       have H1 : ((awardingbodyref14_Join.f x286000_1 x286001_1 ((rd_T28 l0 x12_1).f2) ((rd_T28 l0 x12_1).f3)).bind fun bt292 => (awardingbodyref14_Grant.l0 k1 l0 l1 a2 a3 (wrap64 (x12_1 + 1)) bt292.1 bt292.2)) = some (r1, r2, r3) := by rw [if_pos rfl] at H; exact H
       clear H
       have H := H1
       clear H1
       replace H := Option.bind_eq_some_iff.mp H
       obtain ⟨⟨t292, t293⟩, A140, H⟩ := H
       replace H : (awardingbodyref14_Grant.l0 k1 l0 l1 a2 a3 (wrap64 (x12_1 + 1)) t292 t293) = some (r1, r2, r3) := H
       have A14 := Aside0.mk A140
       clear A140
       have H' := Aside0.mk H
       clear H
       have p288 : 0 ≤ (x12_1 : Int) := of_decide_eq_true (by first | (with_reducible assumption) | assumption)
       have q288 : x12_1 < (l0.length : Int) := of_decide_eq_true (by first | (with_reducible assumption) | assumption)
       obtain ⟨ad288, e288, hx288_0, hx288_1, hx288_2, hx288_3⟩ := at_T28 HR0.out x12_1 p288 q288
       cases e288
       replace hx288_0 := (HB.out.cell (World.block_lt_of_cell? w _ hx288_0)).trans hx288_0
       replace hx288_1 := (HB.out.cell (World.block_lt_of_cell? w _ hx288_1)).trans hx288_1
       replace hx288_2 := (HB.out.cell (World.block_lt_of_cell? w _ hx288_2)).trans hx288_2
       replace hx288_3 := (HB.out.cell (World.block_lt_of_cell? w _ hx288_3)).trans hx288_3
       replace p288 := eq_true p288
       replace q288 := eq_true q288
       try go_wp2_with (first | ((with_reducible refine gate_callee (f := 43) rfl ?_); refine goesL_ (some 32) rfl rfl Try.func43 (by kernel_rfl) rfl #[.agg #[.int .i64 ((rd_T28 l0 x12_1).f0), .int .i64 ((rd_T28 l0 x12_1).f1), .int .i64 ((rd_T28 l0 x12_1).f2), .int .i64 ((rd_T28 l0 x12_1).f3)], .slice A1 l1.length c1, .int .i64 a2, .int .i64 a3] rfl (by (try simp only [List.map_toArray, List.map_cons, List.map_nil]); first | done | rfl | (simp only [List.length_drop, List.length_take]; rfl)) ?_; (with_reducible refine (awardingbodyref14_applies.calls k1 ((rd_T28 l0 x12_1).f0) ((rd_T28 l0 x12_1).f1) ((rd_T28 l0 x12_1).f2) ((rd_T28 l0 x12_1).f3) _ _ l1 a2 a3 true _ ?side1 ?side2 A12.out).mono ?_); (case side1 => repeat (first | exact (Kd.C_below HR1.out HB.out) | (with_reducible refine Kd.C_alloc ?_ _) | (with_reducible refine Kd.C_drewN ?_ _) | (with_reducible refine Kd.C_drew ?_))); (case side2 => exact HC1.out); rintro e w15 ⟨rfl, hb⟩; refine ⟨_, rfl, ?_⟩; have n0_ := Aside0.mk (blk_below (g := gb283) (o := .cells #[.int .i64 0, .int .i64 0] 38 (0, 0)) (by (with_reducible repeat (first | refine blk_drewN ?_ _ | refine blk_drew ?_ | refine blk_alloc ?_ _)); exact BK283.out) hb); have n1_ := Aside0.mk (blk_below (g := gb285) (o := .cells #[.int .i64 x286000_1, .int .i64 x286001_1] 38 (0, 0)) (by (with_reducible repeat (first | refine blk_drewN ?_ _ | refine blk_drew ?_ | refine blk_alloc ?_ _)); exact BK285.out) hb); have n2_ := Aside0.mk (below_step (by repeat (first | (with_reducible first | exact HB.out | apply below_alloc | apply pw_below_drewN | apply below_drew1 | refine below_set ?_ GE283.out | refine below_set ?_ GE285.out) | exact HB.out)) hb); clear BK283 BK285 HB; have BK283 := n0_; have BK285 := n1_; have HB := n2_; clear n0_ n1_ n2_; (try clear hb); (try clear hb2); (try clear hk); (try clear hi)))
       have n0_ := Aside0.mk (blk_drew BK283.out)
       have n1_ := Aside0.mk (blk_drew BK285.out)
       have n2_ := Aside0.mk (below_drew1 HB.out)
       clear BK283 BK285 HB
       have BK283 := n0_
       have BK285 := n1_
       have HB := n2_
       clear n0_ n1_ n2_
       have p290 : 0 ≤ (x12_1 : Int) := of_decide_eq_true (by first | (with_reducible assumption) | assumption)
       have q290 : x12_1 < (l0.length : Int) := of_decide_eq_true (by first | (with_reducible assumption) | assumption)
       obtain ⟨ad290, e290, hx290_0, hx290_1, hx290_2, hx290_3⟩ := at_T28 HR0.out x12_1 p290 q290
       have hw290_3 := hx290_3
       have hw290_2 := hx290_2
       have hw290_1 := hx290_1
       have hw290_0 := hx290_0
       obtain rfl : ad288 = ad290 := (by injection e290)
       replace hx290_0 := (HB.out.cell (World.block_lt_of_cell? w _ hx290_0)).trans hx290_0
       replace hx290_1 := (HB.out.cell (World.block_lt_of_cell? w _ hx290_1)).trans hx290_1
       replace hx290_2 := (HB.out.cell (World.block_lt_of_cell? w _ hx290_2)).trans hx290_2
       replace hx290_3 := (HB.out.cell (World.block_lt_of_cell? w _ hx290_3)).trans hx290_3
       replace p290 := eq_true p290
       replace q290 := eq_true q290
       have p291 : 0 ≤ (x12_1 : Int) := of_decide_eq_true (by first | (with_reducible assumption) | assumption)
       have q291 : x12_1 < (l0.length : Int) := of_decide_eq_true (by first | (with_reducible assumption) | assumption)
       obtain ⟨ad291, e291, hx291_0, hx291_1, hx291_2, hx291_3⟩ := at_T28 HR0.out x12_1 p291 q291
       have hw291_3 := hx291_3
       have hw291_2 := hx291_2
       have hw291_1 := hx291_1
       have hw291_0 := hx291_0
       obtain rfl : ad288 = ad291 := (by injection e291)
       replace hx291_0 := (HB.out.cell (World.block_lt_of_cell? w _ hx291_0)).trans hx291_0
       replace hx291_1 := (HB.out.cell (World.block_lt_of_cell? w _ hx291_1)).trans hx291_1
       replace hx291_2 := (HB.out.cell (World.block_lt_of_cell? w _ hx291_2)).trans hx291_2
       replace hx291_3 := (HB.out.cell (World.block_lt_of_cell? w _ hx291_3)).trans hx291_3
       replace p291 := eq_true p291
       replace q291 := eq_true q291
       refine start_ (n := 14) (S := fun w' => w'.cell? ⟨gb285, 0, none⟩ = some (.int .i64 x286000_1) ∧ w'.cell? ⟨gb285, 1, none⟩ = some (.int .i64 x286001_1) ∧ w'.cell? (ad288.add ((x12_1).toNat * 4)) = some (.int .i64 ((rd_T28 l0 x12_1).f0)) ∧ w'.cell? ⟨(ad288.add ((x12_1).toNat * 4)).block, (ad288.add ((x12_1).toNat * 4)).off + 1, none⟩ = some (.int .i64 ((rd_T28 l0 x12_1).f1)) ∧ w'.cell? ⟨(ad288.add ((x12_1).toNat * 4)).block, (ad288.add ((x12_1).toNat * 4)).off + 2, none⟩ = some (.int .i64 ((rd_T28 l0 x12_1).f2)) ∧ w'.cell? ⟨(ad288.add ((x12_1).toNat * 4)).block, (ad288.add ((x12_1).toNat * 4)).off + 3, none⟩ = some (.int .i64 ((rd_T28 l0 x12_1).f3)) ∧ w'.cell? (ad288.add ((x12_1).toNat * 4)) = some (.int .i64 ((rd_T28 l0 x12_1).f0)) ∧ w'.cell? ⟨(ad288.add ((x12_1).toNat * 4)).block, (ad288.add ((x12_1).toNat * 4)).off + 1, none⟩ = some (.int .i64 ((rd_T28 l0 x12_1).f1)) ∧ w'.cell? ⟨(ad288.add ((x12_1).toNat * 4)).block, (ad288.add ((x12_1).toNat * 4)).off + 2, none⟩ = some (.int .i64 ((rd_T28 l0 x12_1).f2)) ∧ w'.cell? ⟨(ad288.add ((x12_1).toNat * 4)).block, (ad288.add ((x12_1).toNat * 4)).off + 3, none⟩ = some (.int .i64 ((rd_T28 l0 x12_1).f3))) (ds := [13]) #[false, false, false, false, false, false, false, false, false, false, false, false, false, false] (by kernel_rfl) rfl rfl ⟨(blk_cell BK285.out 0).trans rfl, (blk_cell BK285.out 1).trans rfl, ((HB.out.cell (World.block_lt_of_cell? w _ hw290_0)).trans hw290_0), ((HB.out.cell (World.block_lt_of_cell? w _ hw290_1)).trans hw290_1), ((HB.out.cell (World.block_lt_of_cell? w _ hw290_2)).trans hw290_2), ((HB.out.cell (World.block_lt_of_cell? w _ hw290_3)).trans hw290_3), ((HB.out.cell (World.block_lt_of_cell? w _ hw291_0)).trans hw291_0), ((HB.out.cell (World.block_lt_of_cell? w _ hw291_1)).trans hw291_1), ((HB.out.cell (World.block_lt_of_cell? w _ hw291_2)).trans hw291_2), ((HB.out.cell (World.block_lt_of_cell? w _ hw291_3)).trans hw291_3)⟩ (fun hHeld => ?_); refine with_tabW awardingbodyref14_Grant.tab9 awardingbodyref14_Grant.bits9 (fun HT_ HW_ => ?_)
       generalize w15.drew = w16 at BK283 BK285 HB hx290_0 hx290_1 hx290_2 hx290_3 hx291_0 hx291_1 hx291_2 hx291_3 hHeld ⊢
       refine pure_ (i := 1) (N := some 34) (v := ?_) (a' := ?_) #[false, true, false, false, false, false, false, false, false, false, false, false, false, false] rfl rfl (any_of HT_.out (by kernel_rfl)) (fun _ _ _ h => h) (Or.inl ⟨by rfl, ?_⟩) ?_ ?_
       rotate_left
       ·intro w'
        go_simp
        with_reducible rfl
       rotate_left
       ·simp only [Act.put, List.setIfInBounds_toArray, List.set_cons_zero, List.set_cons_succ, i64_w, i32_w]
        rfl
       refine pure_ (i := 2) (N := some 35) (v := ?_) (a' := ?_) #[false, true, true, false, false, false, false, false, false, false, false, false, false, false] rfl rfl (any_of HT_.out (by kernel_rfl)) (fun _ _ _ h => h) (Or.inl ⟨by rfl, ?_⟩) ?_ ?_
       rotate_left
       ·intro w'
        go_simp
        with_reducible rfl
       rotate_left
       ·simp only [Act.put, List.setIfInBounds_toArray, List.set_cons_zero, List.set_cons_succ, i64_w, i32_w]
        rfl
       refine pure_ (i := 3) (N := some 36) (v := ?_) (a' := ?_) #[false, true, true, true, false, false, false, false, false, false, false, false, false, false] rfl rfl (any_of HT_.out (by kernel_rfl)) (fun _ _ _ h => h) (Or.inl ⟨by rfl, ?_⟩) ?_ ?_
       rotate_left
       ·intro w'
        go_simp
        with_reducible rfl
       rotate_left
       ·simp only [Act.put, List.setIfInBounds_toArray, List.set_cons_zero, List.set_cons_succ, i64_w, i32_w]
        rfl
       refine pure_ (i := 4) (N := some 37) (v := ?_) (a' := ?_) #[false, true, true, true, true, false, false, false, false, false, false, false, false, false] rfl rfl (any_of HT_.out (by kernel_rfl)) (fun _ _ _ h => h) (Or.inl ⟨by rfl, ?_⟩) ?_ ?_
       rotate_left
       ·intro w'
        go_simp
        with_reducible rfl
       rotate_left
       ·simp only [Act.put, List.setIfInBounds_toArray, List.set_cons_zero, List.set_cons_succ, i64_w, i32_w]
        rfl
       refine pure_ (i := 6) (N := some 39) (v := ?_) (a' := ?_) #[false, true, true, true, true, false, true, false, false, false, false, false, false, false] rfl rfl (any_of HT_.out (by kernel_rfl)) (fun _ _ _ h => h) (Or.inl ⟨by rfl, ?_⟩) ?_ ?_
       rotate_left
       ·intro w'
        go_simp
        with_reducible rfl
       rotate_left
       ·simp only [Act.put, List.setIfInBounds_toArray, List.set_cons_zero, List.set_cons_succ, i64_w, i32_w]
        rfl
       refine pure_ (i := 7) (N := some 40) (v := ?_) (a' := ?_) #[false, true, true, true, true, false, true, true, false, false, false, false, false, false] rfl rfl (any_of HT_.out (by kernel_rfl)) (fun _ _ _ h => h) (Or.inl ⟨by rfl, ?_⟩) ?_ ?_
       rotate_left
       ·intro w'
        go_simp
        with_reducible rfl
       rotate_left
       ·simp only [Act.put, List.setIfInBounds_toArray, List.set_cons_zero, List.set_cons_succ, i64_w, i32_w]
        rfl
       refine pure_ (i := 8) (N := some 41) (v := ?_) (a' := ?_) #[false, true, true, true, true, false, true, true, true, false, false, false, false, false] rfl rfl (any_of HT_.out (by kernel_rfl)) (fun _ _ _ h => h) (Or.inl ⟨by rfl, ?_⟩) ?_ ?_
       rotate_left
       ·intro w'
        go_simp
        with_reducible rfl
       rotate_left
       ·simp only [Act.put, List.setIfInBounds_toArray, List.set_cons_zero, List.set_cons_succ, i64_w, i32_w]
        rfl
       refine pure_ (i := 9) (N := some 42) (v := ?_) (a' := ?_) #[false, true, true, true, true, false, true, true, true, true, false, false, false, false] rfl rfl (any_of HT_.out (by kernel_rfl)) (fun _ _ _ h => h) (Or.inl ⟨by rfl, ?_⟩) ?_ ?_
       rotate_left
       ·intro w'
        go_simp
        with_reducible rfl
       rotate_left
       ·simp only [Act.put, List.setIfInBounds_toArray, List.set_cons_zero, List.set_cons_succ, i64_w, i32_w]
        rfl
       refine take_ (i := 0) (N := some 33) (v := ?_) (a' := ?_) #[true, true, true, true, true, false, true, true, true, true, false, false, false, false] rfl rfl (take_ofW HT_.out HW_.out (by kernel_rfl)) (fun _ _ _ h => h) (Or.inl ⟨by rfl, ?_⟩) hHeld ?_ ?_
       rotate_left
       ·rintro w' ⟨s0, s1, s2, s3, s4, s5, s6, s7, s8, s9⟩
        go_simp
        with_reducible rfl
       rotate_left
       ·simp only [Act.put, List.setIfInBounds_toArray, List.set_cons_zero, List.set_cons_succ, i64_w, i32_w]
        rfl
       refine take_ (i := 5) (N := some 38) (v := ?_) (a' := ?_) #[true, true, true, true, true, true, true, true, true, true, false, false, false, false] rfl rfl (take_ofW HT_.out HW_.out (by kernel_rfl)) (fun _ _ _ h => h) (Or.inl ⟨by rfl, ?_⟩) hHeld ?_ ?_
       rotate_left
       ·rintro w' ⟨s0, s1, s2, s3, s4, s5, s6, s7, s8, s9⟩
        go_simp
        with_reducible rfl
       rotate_left
       ·simp only [Act.put, List.setIfInBounds_toArray, List.set_cons_zero, List.set_cons_succ, i64_w, i32_w]
        rfl
       refine take_ (i := 10) (N := some 43) (v := ?_) (a' := ?_) #[true, true, true, true, true, true, true, true, true, true, true, false, false, false] rfl rfl (take_ofW HT_.out HW_.out (by kernel_rfl)) (fun _ _ _ h => h) (Or.inl ⟨by rfl, ?_⟩) hHeld ?_ ?_
       rotate_left
       ·rintro w' ⟨s0, s1, s2, s3, s4, s5, s6, s7, s8, s9⟩
        go_simp
        with_reducible rfl
       rotate_left
       ·simp only [Act.put, List.setIfInBounds_toArray, List.set_cons_zero, List.set_cons_succ, i64_w, i32_w]
        rfl
       refine pure_ (i := 11) (N := some 44) (v := ?_) (a' := ?_) #[true, true, true, true, true, true, true, true, true, true, true, true, false, false] rfl rfl (any_of HT_.out (by kernel_rfl)) (fun _ _ _ h => h) (Or.inl ⟨by rfl, ?_⟩) ?_ ?_
       rotate_left
       ·intro w'
        go_simp
        with_reducible rfl
       rotate_left
       ·simp only [Act.put, List.setIfInBounds_toArray, List.set_cons_zero, List.set_cons_succ, i64_w, i32_w]
        rfl
       refine one_ (i := 12) (N := some 45) #[true, true, true, true, true, true, true, true, true, true, true, true, true, false] rfl rfl (one_of HT_.out (by kernel_rfl)) (by decide) (fun K hK => ?_)
       refine goes_ Try.func31 (by kernel_rfl) rfl #[.agg #[.int .i64 x286000_1, .int .i64 x286001_1], .agg #[.int .i64 ((rd_T28 l0 x12_1).f2), .int .i64 ((rd_T28 l0 x12_1).f3)]] (by rfl) rfl rfl (by (try simp only [List.map_toArray, List.map_cons, List.map_nil]); first | done | rfl | (simp only [List.length_drop, List.length_take]; rfl)) ?_
       with_reducible refine (awardingbodyref14_Join.calls x286000_1 x286001_1 ((rd_T28 l0 x12_1).f2) ((rd_T28 l0 x12_1).f3) t292 t293 _ A14.out).mono ?_
       rintro e w17 ⟨rfl, hb⟩
       refine ⟨_, rfl, ?_⟩
       have n0_ := Aside0.mk (blk_below (g := gb283) (o := .cells #[.int .i64 0, .int .i64 0] 38 (0, 0)) (by (with_reducible repeat (first | refine blk_drewN ?_ _ | refine blk_drew ?_ | refine blk_alloc ?_ _)); exact BK283.out) hb)
       have n1_ := Aside0.mk (blk_below (g := gb285) (o := .cells #[.int .i64 x286000_1, .int .i64 x286001_1] 38 (0, 0)) (by (with_reducible repeat (first | refine blk_drewN ?_ _ | refine blk_drew ?_ | refine blk_alloc ?_ _)); exact BK285.out) hb)
       have n2_ := Aside0.mk (below_step (by repeat (first | (with_reducible first | exact HB.out | apply below_alloc | apply pw_below_drewN | apply below_drew1 | refine below_set ?_ GE283.out | refine below_set ?_ GE285.out) | exact HB.out)) hb)
       clear BK283 BK285 HB
       have BK283 := n0_
       have BK285 := n1_
       have HB := n2_
       clear n0_ n1_ n2_
       (try clear hb)
       (try clear hb2)
       (try clear hk)
       (try clear hi)
       refine hK.out _ _ ⟨(blk_cell BK285.out 0).trans rfl, (blk_cell BK285.out 1).trans rfl, ((HB.out.cell (World.block_lt_of_cell? w _ hw290_0)).trans hw290_0), ((HB.out.cell (World.block_lt_of_cell? w _ hw290_1)).trans hw290_1), ((HB.out.cell (World.block_lt_of_cell? w _ hw290_2)).trans hw290_2), ((HB.out.cell (World.block_lt_of_cell? w _ hw290_3)).trans hw290_3), ((HB.out.cell (World.block_lt_of_cell? w _ hw291_0)).trans hw291_0), ((HB.out.cell (World.block_lt_of_cell? w _ hw291_1)).trans hw291_1), ((HB.out.cell (World.block_lt_of_cell? w _ hw291_2)).trans hw291_2), ((HB.out.cell (World.block_lt_of_cell? w _ hw291_3)).trans hw291_3)⟩ (fun hHeld => ?_)
       clear hK K
       refine norm_ (a' := ?_) ?_ ?_
       rotate_left
       ·show Act.put _ (some 45) _ = _
        simp only [Act.put, List.setIfInBounds_toArray, List.set_cons_zero, List.set_cons_succ, i64_w, i32_w]
        rfl
       refine last_ (i := 13) (N := none) #[true, true, true, true, true, true, true, true, true, true, true, true, true, true] rfl rfl (one_of HT_.out (by kernel_rfl)) (by decide) (fun K hK => ?_)
       have hs18 : w17.cell? ⟨gb285, 0, none⟩ = some (.int .i64 x286000_1) := (blk_cell BK285.out 0).trans rfl
       have hfs18 := blk_frozen BK285.out 0
       have hns18_0 := NB283_285.out
       have hms18_0 := NB285_283.out
       have hs19 : w17.cell? ⟨gb285, 1, none⟩ = some (.int .i64 x286001_1) := (blk_cell BK285.out 1).trans rfl
       have hfs19 := blk_frozen BK285.out 1
       have hns19_0 := NB283_285.out
       have hms19_0 := NB285_283.out
       refine skip_ (w1 := ?_) (by rfl) rfl ?_ ?_
       rotate_left
       ·go_simp
        rfl
       refine hK.out _ _ ?_
       clear hK K
       refine done_ (done_of HT_.out (by kernel_rfl)) ?_
       try go_wp2
       go_roundg k1
       case measure => have := HK1.out; omega
       case rel => exact ⟨(wrap64 (x12_1 + 1)), (t292), (t293), (by first | rfl | (simp; done) | (simp [*]; done)), H', ⟨by have := HK1.out; omega⟩, ⟨by (with_reducible repeat (first | refine blk_drewN ?_ _ | refine blk_drew ?_ | refine blk_alloc ?_ _)); refine blk_far ?_ NB283_285.out _; (with_reducible repeat (first | refine blk_drewN ?_ _ | refine blk_drew ?_ | refine blk_alloc ?_ _)); refine blk_far ?_ NB283_285.out _; (with_reducible repeat (first | refine blk_drewN ?_ _ | refine blk_drew ?_ | refine blk_alloc ?_ _)); exact BK283.out⟩, ⟨by (with_reducible repeat (first | refine blk_drewN ?_ _ | refine blk_drew ?_ | refine blk_alloc ?_ _)); refine blk_put (cs := #[.int .i64 t292, .int .i64 x286001_1]) ?_ 1 _ rfl; (with_reducible repeat (first | refine blk_drewN ?_ _ | refine blk_drew ?_ | refine blk_alloc ?_ _)); refine blk_put (cs := #[.int .i64 x286000_1, .int .i64 x286001_1]) ?_ 0 _ rfl; (with_reducible repeat (first | refine blk_drewN ?_ _ | refine blk_drew ?_ | refine blk_alloc ?_ _)); exact BK285.out⟩, ⟨by repeat (first | (with_reducible first | exact HB.out | apply below_alloc | apply pw_below_drewN | apply below_drew1 | refine below_set ?_ GE283.out | refine below_set ?_ GE285.out) | exact HB.out)⟩⟩
      ·replace c13 := Bool.eq_false_iff.mpr c13
       subst c13
       have H1 : (awardingbodyref14_Grant.l0 k1 l0 l1 a2 a3 (wrap64 (x12_1 + 1)) x286000_1 x286001_1) = some (r1, r2, r3) := by rw [if_neg (show ¬ (false = true) by decide)] at H; exact H
       clear H
       have H := H1
       clear H1
       have H' := Aside0.mk H
       clear H
       have p288 : 0 ≤ (x12_1 : Int) := of_decide_eq_true (by first | (with_reducible assumption) | assumption)
       have q288 : x12_1 < (l0.length : Int) := of_decide_eq_true (by first | (with_reducible assumption) | assumption)
       obtain ⟨ad288, e288, hx288_0, hx288_1, hx288_2, hx288_3⟩ := at_T28 HR0.out x12_1 p288 q288
       cases e288
       replace hx288_0 := (HB.out.cell (World.block_lt_of_cell? w _ hx288_0)).trans hx288_0
       replace hx288_1 := (HB.out.cell (World.block_lt_of_cell? w _ hx288_1)).trans hx288_1
       replace hx288_2 := (HB.out.cell (World.block_lt_of_cell? w _ hx288_2)).trans hx288_2
       replace hx288_3 := (HB.out.cell (World.block_lt_of_cell? w _ hx288_3)).trans hx288_3
       replace p288 := eq_true p288
       replace q288 := eq_true q288
       go_wp2_with (first | ((with_reducible refine gate_callee (f := 43) rfl ?_); refine goesL_ (some 32) rfl rfl Try.func43 (by kernel_rfl) rfl #[.agg #[.int .i64 ((rd_T28 l0 x12_1).f0), .int .i64 ((rd_T28 l0 x12_1).f1), .int .i64 ((rd_T28 l0 x12_1).f2), .int .i64 ((rd_T28 l0 x12_1).f3)], .slice A1 l1.length c1, .int .i64 a2, .int .i64 a3] rfl (by (try simp only [List.map_toArray, List.map_cons, List.map_nil]); first | done | rfl | (simp only [List.length_drop, List.length_take]; rfl)) ?_; (with_reducible refine (awardingbodyref14_applies.calls k1 ((rd_T28 l0 x12_1).f0) ((rd_T28 l0 x12_1).f1) ((rd_T28 l0 x12_1).f2) ((rd_T28 l0 x12_1).f3) _ _ l1 a2 a3 false _ ?side1 ?side2 A12.out).mono ?_); (case side1 => repeat (first | exact (Kd.C_below HR1.out HB.out) | (with_reducible refine Kd.C_alloc ?_ _) | (with_reducible refine Kd.C_drewN ?_ _) | (with_reducible refine Kd.C_drew ?_))); (case side2 => exact HC1.out); rintro e w20 ⟨rfl, hb⟩; refine ⟨_, rfl, ?_⟩; have n0_ := Aside0.mk (blk_below (g := gb283) (o := .cells #[.int .i64 0, .int .i64 0] 38 (0, 0)) (by (with_reducible repeat (first | refine blk_drewN ?_ _ | refine blk_drew ?_ | refine blk_alloc ?_ _)); exact BK283.out) hb); have n1_ := Aside0.mk (blk_below (g := gb285) (o := .cells #[.int .i64 x286000_1, .int .i64 x286001_1] 38 (0, 0)) (by (with_reducible repeat (first | refine blk_drewN ?_ _ | refine blk_drew ?_ | refine blk_alloc ?_ _)); exact BK285.out) hb); have n2_ := Aside0.mk (below_step (by repeat (first | (with_reducible first | exact HB.out | apply below_alloc | apply pw_below_drewN | apply below_drew1 | refine below_set ?_ GE283.out | refine below_set ?_ GE285.out) | exact HB.out)) hb); clear BK283 BK285 HB; have BK283 := n0_; have BK285 := n1_; have HB := n2_; clear n0_ n1_ n2_; (try clear hb); (try clear hb2); (try clear hk); (try clear hi)))
       go_roundg k1
       case measure => have := HK1.out; omega
       case rel => exact ⟨(wrap64 (x12_1 + 1)), (x286000_1), (x286001_1), (by first | rfl | (simp; done) | (simp [*]; done)), H', ⟨by have := HK1.out; omega⟩, ⟨by (with_reducible repeat (first | refine blk_drewN ?_ _ | refine blk_drew ?_ | refine blk_alloc ?_ _)); exact BK283.out⟩, ⟨by (with_reducible repeat (first | refine blk_drewN ?_ _ | refine blk_drew ?_ | refine blk_alloc ?_ _)); exact BK285.out⟩, ⟨by repeat (first | (with_reducible first | exact HB.out | apply below_alloc | apply pw_below_drewN | apply below_drew1 | refine below_set ?_ GE283.out | refine below_set ?_ GE285.out) | exact HB.out)⟩⟩
     ·rw [if_neg c11] at H
      exact absurd H (by simp)
    ·rw [if_neg c10] at H
     have c10b0 : decide (x12_1 < (l0.length : Int)) = false := decide_eq_false c10
     clear c10
     replace H := Option.bind_eq_some_iff.mp H
     obtain ⟨⟨t286, t287⟩, A210, H⟩ := H
     replace H : (some (t286, t287, 0)) = some (r1, r2, r3) := H
     have A21 := Aside0.mk A210
     clear A210
     simp only [Option.some.injEq, Prod.mk.injEq] at H
     obtain ⟨rfl, rfl, rfl⟩ := H
     have hnb22 := NB285_283.out
     have hnc22 := NB283_285.out
     have hcz23_0 : wr.cell? ⟨gb285, 0, none⟩ = some (.int .i64 x286000_1) := (blk_cell BK285.out 0).trans rfl
     have hcz23_1 : wr.cell? ⟨gb285, 1, none⟩ = some (.int .i64 x286001_1) := (blk_cell BK285.out 1).trans rfl
     have hfz23_0 := blk_frozen BK285.out 0
     have hfz23_1 := blk_frozen BK285.out 1
     go_wp2_with (first | ((with_reducible refine gate_callee (f := 33) rfl ?_); refine goesL_ (some 47) rfl rfl Try.func33 (by kernel_rfl) rfl #[.agg #[.int .i64 x286000_1, .int .i64 x286001_1]] rfl (by (try simp only [List.map_toArray, List.map_cons, List.map_nil]); first | done | rfl | (simp only [List.length_drop, List.length_take]; rfl)) ?_; (with_reducible refine (awardingbodyref14_Imply.calls x286000_1 x286001_1 t286 t287 _ A21.out).mono ?_); rintro e w24 ⟨rfl, hb⟩; refine ⟨_, rfl, ?_⟩; have n0_ := Aside0.mk (blk_below (g := gb283) (o := .cells #[.int .i64 0, .int .i64 0] 38 (0, 0)) (by (with_reducible repeat (first | refine blk_drewN ?_ _ | refine blk_drew ?_ | refine blk_alloc ?_ _)); exact BK283.out) hb); have n1_ := Aside0.mk (blk_below (g := gb285) (o := .cells #[.int .i64 x286000_1, .int .i64 x286001_1] 38 (0, 0)) (by (with_reducible repeat (first | refine blk_drewN ?_ _ | refine blk_drew ?_ | refine blk_alloc ?_ _)); exact BK285.out) hb); have n2_ := Aside0.mk (below_step (by repeat (first | (with_reducible first | exact HB.out | apply below_alloc | apply pw_below_drewN | apply below_drew1 | refine below_set ?_ GE283.out | refine below_set ?_ GE285.out) | exact HB.out)) hb); clear BK283 BK285 HB; have BK283 := n0_; have BK285 := n1_; have HB := n2_; clear n0_ n1_ n2_; (try clear hb); (try clear hb2); (try clear hk); (try clear hi); have hcz25_0 : w24.cell? ⟨gb283, 0, none⟩ = some (.int .i64 0) := (blk_cell BK283.out 0).trans rfl; have hcz25_1 : w24.cell? ⟨gb283, 1, none⟩ = some (.int .i64 0) := (blk_cell BK283.out 1).trans rfl; have hfz25_0 := blk_frozen BK283.out 0; have hfz25_1 := blk_frozen BK283.out 1))
     refine bodyPost_ret (results_ct rfl _ _ gb283 38 #[.int .i64 t286, .int .i64 t287] (0, 0) _ rfl (by (with_reducible repeat (first | refine blk_drewN ?_ _ | refine blk_drew ?_ | refine blk_alloc ?_ _)); refine blk_put (cs := #[.int .i64 t286, .int .i64 0]) ?_ 1 _ rfl; (with_reducible repeat (first | refine blk_drewN ?_ _ | refine blk_drew ?_ | refine blk_alloc ?_ _)); refine blk_put (cs := #[.int .i64 0, .int .i64 0]) ?_ 0 _ rfl; (with_reducible repeat (first | refine blk_drewN ?_ _ | refine blk_drew ?_ | refine blk_alloc ?_ _)); exact BK283.out) Try.underlying38 rfl (by kernel_rfl)) rfl ?_
     exact ⟨by first | rfl | (simp [errW_none, errW_some] <;> rfl) | (simp [*, errW_none, errW_some] <;> rfl), by repeat (first | (with_reducible first | exact HB.out | apply below_alloc | apply pw_below_drewN | apply below_drew1 | refine below_set ?_ GE283.out | refine below_set ?_ GE285.out) | exact HB.out)⟩
 ·rw [if_neg c6] at H
  have c6b0 : (t284 == 0) = false := beq_eq_false_iff_ne.mpr c6
  have c6b1 : (t284 != 0) = true := bne_iff_ne.mpr c6
  simp only [Option.some.injEq, Prod.mk.injEq] at H
  obtain ⟨rfl, rfl, rfl⟩ := H
  go_enter Try.func20, Try.ntmps20
  go_wp2_with (first | ((with_reducible refine gate_dst (N := 8) rfl ?_); refine box_event ?hg (N := 8) ?hd (cs := #[.int .i64 0, .int .i64 0]) (t := 38) ?hr ?_; (case hd => rfl); (case hg => rfl); (case hr => first | (go_simp; done) | (go_simp; rfl)); intro gb283 hg w26 hbox hb; have n0_ := Aside0.mk (below_step (by repeat (first | (with_reducible first | exact HB.out | apply below_alloc | apply pw_below_drewN | apply below_drew1) | exact HB.out)) hb); have n1_ := Aside0.mk (hbox); have n2_ := Aside0.mk ((by rw [hg]; exact (below_size (by repeat (first | (with_reducible first | exact HB.out | apply below_alloc | apply pw_below_drewN | apply below_drew1) | exact HB.out))) : w.heap.size ≤ gb283)); have n3_ := Aside0.mk ((by rw [hg]; exact (below_size (by repeat (first | (with_reducible first | exact HB.out | apply below_alloc | apply pw_below_drewN | apply below_drew1) | exact HB.out))) : w.heap.size ≤ gb283)); clear HB; have HB := n0_; have BK283 := n1_; have GW283 := n2_; have GE283 := n3_; clear n0_ n1_ n2_ n3_ hb hbox hg) | ((with_reducible refine gate_callee (f := 15) rfl ?_); refine goesL_ (some 14) rfl rfl Try.func15 (by kernel_rfl) rfl #[.slice A0 l0.length c0] rfl (by (try simp only [List.map_toArray, List.map_cons, List.map_nil]); first | done | rfl | (simp only [List.length_drop, List.length_take]; rfl)) ?_; (with_reducible refine (awardingbodyref14_Check.calls k _ _ l0 t284 _ ?side1 ?side2 A5.out).mono ?_); (case side1 => repeat (first | exact (Kd.C_below HR0.out HB.out) | (with_reducible refine Kd.C_alloc ?_ _) | (with_reducible refine Kd.C_drewN ?_ _) | (with_reducible refine Kd.C_drew ?_))); (case side2 => exact HC0.out); rintro e w27 ⟨rfl, hb⟩; refine ⟨_, rfl, ?_⟩; have n0_ := Aside0.mk (blk_below (g := gb283) (o := .cells #[.int .i64 0, .int .i64 0] 38 (0, 0)) (by (with_reducible repeat (first | refine blk_drewN ?_ _ | refine blk_drew ?_ | refine blk_alloc ?_ _)); exact BK283.out) hb); have n1_ := Aside0.mk (below_step (by repeat (first | (with_reducible first | exact HB.out | apply below_alloc | apply pw_below_drewN | apply below_drew1 | refine below_set ?_ GE283.out) | exact HB.out)) hb); clear BK283 HB; have BK283 := n0_; have HB := n1_; clear n0_ n1_; (try clear hb); (try clear hb2); (try clear hk); (try clear hi); have hcz28_0 : w27.cell? ⟨gb283, 0, none⟩ = some (.int .i64 0) := (blk_cell BK283.out 0).trans rfl; have hcz28_1 : w27.cell? ⟨gb283, 1, none⟩ = some (.int .i64 0) := (blk_cell BK283.out 1).trans rfl; have hfz28_0 := blk_frozen BK283.out 0; have hfz28_1 := blk_frozen BK283.out 1))
  refine bodyPost_ret (results_ct rfl _ _ gb283 38 #[.int .i64 0, .int .i64 0] (0, 0) _ rfl (by (with_reducible repeat (first | refine blk_drewN ?_ _ | refine blk_drew ?_ | refine blk_alloc ?_ _)); refine blk_put (cs := #[.int .i64 0, .int .i64 0]) ?_ 1 _ rfl; (with_reducible repeat (first | refine blk_drewN ?_ _ | refine blk_drew ?_ | refine blk_alloc ?_ _)); refine blk_put (cs := #[.int .i64 0, .int .i64 0]) ?_ 0 _ rfl; (with_reducible repeat (first | refine blk_drewN ?_ _ | refine blk_drew ?_ | refine blk_alloc ?_ _)); exact BK283.out) Try.underlying38 rfl (by kernel_rfl)) rfl ?_
  exact ⟨by first | rfl | (simp [errW_none, errW_some] <;> rfl) | (simp [*, errW_none, errW_some] <;> rfl), by repeat (first | (with_reducible first | exact HB.out | apply below_alloc | apply pw_below_drewN | apply below_drew1 | refine below_set ?_ GE283.out) | exact HB.out)⟩

end Go.Proofs.Ytbgeoadaeihgkaa.Print
