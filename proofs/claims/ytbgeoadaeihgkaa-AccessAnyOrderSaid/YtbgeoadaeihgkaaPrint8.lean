-- Printed by a program of this session (wip/own_print.py) out of the translation; Lean checks it.
import Derived.Test.YtbgeoadaeihgkaaPrint0
import Derived.Test.YtbgeoadaeihgkaaPrint3
import Derived.Test.YtbgeoadaeihgkaaPrint7
namespace Go.Proofs.Ytbgeoadaeihgkaa.Print
open Go.RowKit Go.Proofs.YtbgeoadaeihgkaaW.PrintWords Go.Proofs.YtbgeoadaeihgkaaW.PrintLast Go.Proofs.YtbgeoadaeihgkaaW.PrintMore
attribute [local go_sem] max2_int min2_int max_two min_two max_three min_three max_four min_four   -- for this text's walks alone
set_option linter.unusedVariables false
set_option linter.unusedSimpArgs false

/-! ### awardingbodyref14_Grant: function 20 -/
def awardingbodyref14_Grant.l0 : Nat → List (S28) → List (S49) → Int → Int → Int → Int → Int → Option (Int × Int × Int)
  | 0, _, _, _, _, _, _, _ => none
  | k + 1, x0, x1, x2, x3, x12, x270000, x270001 => if x12 < (x0.length : Int) then (if 0 ≤ x12 then ((awardingbodyref14_applies.f k ((rd_T28 x0 x12).f0) ((rd_T28 x0 x12).f1) ((rd_T28 x0 x12).f2) ((rd_T28 x0 x12).f3) x1 x2 x3).bind fun t273 => (if t273 = true then ((awardingbodyref14_Join.f x270000 x270001 ((rd_T28 x0 x12).f2) ((rd_T28 x0 x12).f3)).bind fun bt276 => (awardingbodyref14_Grant.l0 k x0 x1 x2 x3 (wrap64 (x12 + 1)) bt276.1 bt276.2)) else (awardingbodyref14_Grant.l0 k x0 x1 x2 x3 (wrap64 (x12 + 1)) x270000 x270001))) else (none)) else ((awardingbodyref14_Imply.f x270000 x270001).bind fun bt270 => (some (bt270.1, bt270.2, 0)))
def awardingbodyref14_Grant.f (k : Nat) (l0 : List (S28)) (l1 : List (S49)) (a2 : Int) (a3 : Int) : Option (Int × Int × Int) := (awardingbodyref14_Check.f k l0).bind fun t268 => (if t268 = 0 then (awardingbodyref14_Grant.l0 k l0 l1 a2 a3 0 0 0) else (some (0, 0, t268)))
theorem awardingbodyref14_Grant.mono_l : ∀ k, (∀ y0 y1 y2 y3 y4 y5 y6, LeO (awardingbodyref14_Grant.l0 k y0 y1 y2 y3 y4 y5 y6) (awardingbodyref14_Grant.l0 (k + 1) y0 y1 y2 y3 y4 y5 y6))
  | 0 => fun _ _ _ _ _ _ _ r h => by simp [awardingbodyref14_Grant.l0] at h
  | k + 1 => by
    have ih0 := awardingbodyref14_Grant.mono_l k
    · intro y0 y1 y2 y3 y4 y5 y6
      unfold awardingbodyref14_Grant.l0
      repeat' first
      | (with_reducible exact ih0 _ _ _ _ _ _ _)
      | (with_reducible exact awardingbodyref14_Check.mono _ _)
      | (with_reducible exact awardingbodyref14_applies.mono _ _ _ _ _ _ _ _)
      | (with_reducible exact LeO.refl _)
      | (with_reducible exact LeO.none _)
      | (with_reducible refine LeO.ite ?_ ?_)
      | (with_reducible refine LeO.bind ?_ (fun _ => ?_))
      | exact ih0 _ _ _ _ _ _ _
      | exact awardingbodyref14_Check.mono _ _
      | exact awardingbodyref14_applies.mono _ _ _ _ _ _ _ _
      | exact LeO.none _
      | refine LeO.ite ?_ ?_
      | refine LeO.bind ?_ (fun _ => ?_)
theorem awardingbodyref14_Grant.mono : ∀ a0 a1 a2 a3 k, LeO (awardingbodyref14_Grant.f k a0 a1 a2 a3) (awardingbodyref14_Grant.f (k + 1) a0 a1 a2 a3) := by
  intro a0 a1 a2 a3 k
  have ih0 := awardingbodyref14_Grant.mono_l k
  unfold awardingbodyref14_Grant.f
  repeat' first
      | (with_reducible exact ih0 _ _ _ _ _ _ _)
      | (with_reducible exact awardingbodyref14_Check.mono _ _)
      | (with_reducible exact awardingbodyref14_applies.mono _ _ _ _ _ _ _ _)
      | (with_reducible exact LeO.refl _)
      | (with_reducible exact LeO.none _)
      | (with_reducible refine LeO.ite ?_ ?_)
      | (with_reducible refine LeO.bind ?_ (fun _ => ?_))
      | exact ih0 _ _ _ _ _ _ _
      | exact awardingbodyref14_Check.mono _ _
      | exact awardingbodyref14_applies.mono _ _ _ _ _ _ _ _
      | exact LeO.none _
      | refine LeO.ite ?_ ?_
      | refine LeO.bind ?_ (fun _ => ?_)
def awardingbodyref14_Grant.T9 : Bool × List (List Nat × List Nat) := (true, [([], []), ([], []), ([], []), ([1, 2], [1, 2]), ([3], [3]), ([4], [4]), ([], []), ([], []), ([6, 7], [6, 7]), ([8], [8]), ([9], [9]), ([5, 10], [5, 10]), ([0, 11], [0, 11]), ([12, 12, 0, 1, 2, 3, 4, 5, 6, 7, 8, 9, 10, 11, 12], [12])])
def awardingbodyref14_Grant.B9 : List Nat := [0, 0, 0, 6, 14, 30, 0, 0, 192, 448, 960, 2046, 4095, 8191]
theorem awardingbodyref14_Grant.tab9 : rtab .any (opsOf Try.f20 9) = awardingbodyref14_Grant.T9 := by kernel_rfl
theorem awardingbodyref14_Grant.bits9 : waitsOk awardingbodyref14_Grant.T9.2 awardingbodyref14_Grant.B9 = true := by kernel_rfl
set_option maxHeartbeats 8000000 in
set_option maxRecDepth 100000 in
theorem awardingbodyref14_Grant.calls (k : Nat) (A0 : Option Addr) (c0 : Nat) (l0 : List (S28)) (A1 : Option Addr) (c1 : Nat) (l1 : List (S49)) (a2 : Int) (a3 : Int) (r1 : Int) (r2 : Int) (r3 : Int) (w : World) (hr0 : Kd.C k28 w A0 l0.length l0) (hc0 : l0.length ≤ c0) (hr1 : Kd.C k49 w A1 l1.length l1) (hc1 : l1.length ≤ c1) (h : awardingbodyref14_Grant.f k l0 l1 a2 a3 = some (r1, r2, r3)) :
    Calls Try.prog 20 #[.slice A0 l0.length c0, .slice A1 l1.length c1, .int .i64 a2, .int .i64 a3] w fun e w' => e = .returned (.tuple #[.agg #[.int .i64 r1, .int .i64 r2], .int .i64 r3]) ∧ Below w.heap.size w w' := by
 have hu38 := Try.underlying38
 have hu28 := Try.underlying28
 have HR0 := Aside0.mk hr0
 have HC0 := Aside0.mk hc0
 clear hr0 hc0
 have HR1 := Aside0.mk hr1
 have HC1 := Aside0.mk hc1
 clear hr1 hc1
 have HB := Aside0.mk (Below.refl w.heap.size w)
 have H : ((awardingbodyref14_Check.f k l0).bind fun t268 => (if t268 = 0 then (awardingbodyref14_Grant.l0 k l0 l1 a2 a3 0 0 0) else (some (0, 0, t268)))) = some (r1, r2, r3) := h
 clear h
 replace H := Option.bind_eq_some_iff.mp H
 obtain ⟨t268, A50, H⟩ := H
 replace H : (if t268 = 0 then (awardingbodyref14_Grant.l0 k l0 l1 a2 a3 0 0 0) else (some (0, 0, t268))) = some (r1, r2, r3) := H
 have A5 := Aside0.mk A50
 clear A50
 by_cases c6 : t268 = 0
 ·rw [if_pos c6] at H
  have c6b0 : (t268 == 0) = true := beq_iff_eq.mpr c6
  have c6b1 : (t268 != 0) = false := bne_eq_false_iff_eq.mpr c6
  clear c6
  have H' := Aside0.mk H
  clear H
  go_enter Try.func20, Try.ntmps20
  go_wp2_with (first | ((with_reducible refine gate_dst (N := 8) rfl ?_); refine box_event ?hg (N := 8) ?hd (cs := #[.int .i64 0, .int .i64 0]) (t := 38) ?hr ?_; (case hd => rfl); (case hg => rfl); (case hr => first | (go_simp; done) | (go_simp; rfl)); intro gb267 hg w7 hbox hb; have n0_ := Aside0.mk (below_step (by repeat (first | (with_reducible first | exact HB.out | apply below_alloc | apply pw_below_drewN | apply below_drew1) | exact HB.out)) hb); have n1_ := Aside0.mk (hbox); have n2_ := Aside0.mk ((by rw [hg]; exact (below_size (by repeat (first | (with_reducible first | exact HB.out | apply below_alloc | apply pw_below_drewN | apply below_drew1) | exact HB.out))) : w.heap.size ≤ gb267)); have n3_ := Aside0.mk ((by rw [hg]; exact (below_size (by repeat (first | (with_reducible first | exact HB.out | apply below_alloc | apply pw_below_drewN | apply below_drew1) | exact HB.out))) : w.heap.size ≤ gb267)); clear HB; have HB := n0_; have BK267 := n1_; have GW267 := n2_; have GE267 := n3_; clear n0_ n1_ n2_ n3_; clear hb hbox hg) | ((with_reducible refine gate_callee (f := 15) rfl ?_); refine goesL_ (some 14) rfl rfl Try.func15 (by kernel_rfl) rfl #[.slice A0 l0.length c0] rfl (by (try simp only [List.map_toArray, List.map_cons, List.map_nil]); first | done | rfl | (simp only [List.length_drop, List.length_take]; rfl)) ?_; (with_reducible refine (awardingbodyref14_Check.calls k _ _ l0 t268 _ ?side1 ?side2 A5.out).mono ?_); (case side1 => repeat (first | exact (Kd.C_below HR0.out HB.out) | (with_reducible refine Kd.C_alloc ?_ _) | (with_reducible refine Kd.C_drewN ?_ _) | (with_reducible refine Kd.C_drew ?_))); (case side2 => exact HC0.out); rintro e w8 ⟨rfl, hb⟩; refine ⟨_, rfl, ?_⟩; have n0_ := Aside0.mk (blk_below (g := gb267) (o := .cells #[.int .i64 0, .int .i64 0] 38 (0, 0)) (by (with_reducible repeat (first | refine blk_drewN ?_ _ | refine blk_drew ?_ | refine blk_alloc ?_ _)); exact BK267.out) hb); have n1_ := Aside0.mk (below_step (by repeat (first | (with_reducible first | exact HB.out | apply below_alloc | apply pw_below_drewN | apply below_drew1 | refine below_set ?_ GE267.out) | exact HB.out)) hb); clear BK267; clear HB; have BK267 := n0_; have HB := n1_; clear n0_ n1_; (try clear hb); (try clear hb2); (try clear hk); (try clear hi)) | ((with_reducible refine gate_dst (N := 11) rfl ?_); refine box_event ?hg (N := 11) ?hd (cs := #[.int .i64 0, .int .i64 0]) (t := 38) ?hr ?_; (case hd => rfl); (case hg => rfl); (case hr => first | (go_simp; done) | (go_simp; rfl)); intro gb269 hg w9 hbox hb; have n0_ := Aside0.mk (blk_below (g := gb267) (o := .cells #[.int .i64 0, .int .i64 0] 38 (0, 0)) (by (with_reducible repeat (first | refine blk_drewN ?_ _ | refine blk_drew ?_ | refine blk_alloc ?_ _)); exact BK267.out) hb); have n1_ := Aside0.mk (below_step (by repeat (first | (with_reducible first | exact HB.out | apply below_alloc | apply pw_below_drewN | apply below_drew1 | refine below_set ?_ GE267.out) | exact HB.out)) hb); have n2_ := Aside0.mk (hbox); have n3_ := Aside0.mk ((by rw [hg]; exact (below_size (by repeat (first | (with_reducible first | exact HB.out | apply below_alloc | apply pw_below_drewN | apply below_drew1 | refine below_set ?_ GE267.out) | exact HB.out))) : w.heap.size ≤ gb269)); have n4_ := Aside0.mk ((by rw [hg]; exact (below_size (by repeat (first | (with_reducible first | exact HB.out | apply below_alloc | apply pw_below_drewN | apply below_drew1 | refine below_set ?_ GE267.out) | exact HB.out))) : w.heap.size ≤ gb269)); have n5_ := Aside0.mk ((by rw [hg]; exact Nat.ne_of_lt (blk_lt (g := gb267) (o := .cells #[.int .i64 0, .int .i64 0] 38 (0, 0)) (by (with_reducible repeat (first | refine blk_drewN ?_ _ | refine blk_drew ?_ | refine blk_alloc ?_ _)); exact BK267.out)) : gb267 ≠ gb269)); have n6_ := Aside0.mk ((by rw [hg]; exact Nat.ne_of_gt (blk_lt (g := gb267) (o := .cells #[.int .i64 0, .int .i64 0] 38 (0, 0)) (by (with_reducible repeat (first | refine blk_drewN ?_ _ | refine blk_drew ?_ | refine blk_alloc ?_ _)); exact BK267.out)) : gb269 ≠ gb267)); clear BK267; clear HB; have BK267 := n0_; have HB := n1_; have BK269 := n2_; have GW269 := n3_; have GE269 := n4_; have NB267_269 := n5_; have NB269_267 := n6_; clear n0_ n1_ n2_ n3_ n4_ n5_ n6_; clear hb hbox hg))
  go_loopg [12] k (fun kq v12 w' => ∃ (x12_1 : Int) (x270000_1 : Int) (x270001_1 : Int), v12 = .int .i64 x12_1 ∧ Aside0 (awardingbodyref14_Grant.l0 kq l0 l1 a2 a3 x12_1 x270000_1 x270001_1 = some (r1, r2, r3)) ∧ Aside0 (kq ≤ k) ∧ Aside0 (w'.heap[gb267]? = some (.cells #[.int .i64 0, .int .i64 0] 38 (0, 0))) ∧ Aside0 (w'.heap[gb269]? = some (.cells #[.int .i64 x270000_1, .int .i64 x270001_1] 38 (0, 0))) ∧ Aside0 (Below w.heap.size w w'))
  case atStart => exact ⟨(0), (0), (0), (by first | rfl | (simp; done) | (simp [*]; done)), H', ⟨Nat.le_refl _⟩, ⟨by (with_reducible repeat (first | refine blk_drewN ?_ _ | refine blk_drew ?_ | refine blk_alloc ?_ _)); exact BK267.out⟩, ⟨by (with_reducible repeat (first | refine blk_drewN ?_ _ | refine blk_drew ?_ | refine blk_alloc ?_ _)); exact BK269.out⟩, ⟨by repeat (first | (with_reducible first | exact HB.out | apply below_alloc | apply pw_below_drewN | apply below_drew1 | refine below_set ?_ GE267.out | refine below_set ?_ GE269.out) | exact HB.out)⟩⟩
  case round =>
   clear H'
   try clear c1
   try clear c2
   try clear p2
   try clear c6
   try clear c6b0
   try clear c6b1
   obtain ⟨x12_1, x270000_1, x270001_1, rfl, HA, HK1, BK267, BK269, HB⟩ := hrel
   cases gk with
   | zero => exact absurd HA.out (by simp [awardingbodyref14_Grant.l0])
   | succ k1 =>
    have H := HA.out
    clear HA
    simp only [awardingbodyref14_Grant.l0] at H
    by_cases c10 : x12_1 < (l0.length : Int)
    ·rw [if_pos c10] at H
     have c10b0 : decide (x12_1 < (l0.length : Int)) = true := decide_eq_true c10
     clear c10
     by_cases c11 : 0 ≤ x12_1
     ·rw [if_pos c11] at H
      have c11b0 : decide (0 ≤ x12_1) = true := decide_eq_true c11
      clear c11
      replace H := Option.bind_eq_some_iff.mp H
      obtain ⟨t273, A120, H⟩ := H
      replace H : (if t273 = true then ((awardingbodyref14_Join.f x270000_1 x270001_1 ((rd_T28 l0 x12_1).f2) ((rd_T28 l0 x12_1).f3)).bind fun bt276 => (awardingbodyref14_Grant.l0 k1 l0 l1 a2 a3 (wrap64 (x12_1 + 1)) bt276.1 bt276.2)) else (awardingbodyref14_Grant.l0 k1 l0 l1 a2 a3 (wrap64 (x12_1 + 1)) x270000_1 x270001_1)) = some (r1, r2, r3) := H
      have A12 := Aside0.mk A120
      clear A120
      by_cases c13 : t273 = true
      ·subst c13
       have H1 : ((awardingbodyref14_Join.f x270000_1 x270001_1 ((rd_T28 l0 x12_1).f2) ((rd_T28 l0 x12_1).f3)).bind fun bt276 => (awardingbodyref14_Grant.l0 k1 l0 l1 a2 a3 (wrap64 (x12_1 + 1)) bt276.1 bt276.2)) = some (r1, r2, r3) := by rw [if_pos rfl] at H; exact H
       clear H
       have H := H1
       clear H1
       replace H := Option.bind_eq_some_iff.mp H
       obtain ⟨⟨t276, t277⟩, A140, H⟩ := H
       replace H : (awardingbodyref14_Grant.l0 k1 l0 l1 a2 a3 (wrap64 (x12_1 + 1)) t276 t277) = some (r1, r2, r3) := H
       have A14 := Aside0.mk A140
       clear A140
       have H' := Aside0.mk H
       clear H
       have p272 : 0 ≤ (x12_1 : Int) := of_decide_eq_true (by first | (with_reducible assumption) | assumption)
       have q272 : x12_1 < (l0.length : Int) := of_decide_eq_true (by first | (with_reducible assumption) | assumption)
       obtain ⟨ad272, e272, hx272_0, hx272_1, hx272_2, hx272_3⟩ := at_T28 HR0.out x12_1 p272 q272
       cases e272
       replace hx272_0 := (HB.out.cell (World.block_lt_of_cell? w _ hx272_0)).trans hx272_0
       replace hx272_1 := (HB.out.cell (World.block_lt_of_cell? w _ hx272_1)).trans hx272_1
       replace hx272_2 := (HB.out.cell (World.block_lt_of_cell? w _ hx272_2)).trans hx272_2
       replace hx272_3 := (HB.out.cell (World.block_lt_of_cell? w _ hx272_3)).trans hx272_3
       replace p272 := eq_true p272
       replace q272 := eq_true q272
       try go_wp2_with (first | ((with_reducible refine gate_callee (f := 43) rfl ?_); refine goesL_ (some 32) rfl rfl Try.func43 (by kernel_rfl) rfl #[.agg #[.int .i64 ((rd_T28 l0 x12_1).f0), .int .i64 ((rd_T28 l0 x12_1).f1), .int .i64 ((rd_T28 l0 x12_1).f2), .int .i64 ((rd_T28 l0 x12_1).f3)], .slice A1 l1.length c1, .int .i64 a2, .int .i64 a3] rfl (by (try simp only [List.map_toArray, List.map_cons, List.map_nil]); first | done | rfl | (simp only [List.length_drop, List.length_take]; rfl)) ?_; (with_reducible refine (awardingbodyref14_applies.calls k1 ((rd_T28 l0 x12_1).f0) ((rd_T28 l0 x12_1).f1) ((rd_T28 l0 x12_1).f2) ((rd_T28 l0 x12_1).f3) _ _ l1 a2 a3 true _ ?side1 ?side2 A12.out).mono ?_); (case side1 => repeat (first | exact (Kd.C_below HR1.out HB.out) | (with_reducible refine Kd.C_alloc ?_ _) | (with_reducible refine Kd.C_drewN ?_ _) | (with_reducible refine Kd.C_drew ?_))); (case side2 => exact HC1.out); rintro e w15 ⟨rfl, hb⟩; refine ⟨_, rfl, ?_⟩; have n0_ := Aside0.mk (blk_below (g := gb267) (o := .cells #[.int .i64 0, .int .i64 0] 38 (0, 0)) (by (with_reducible repeat (first | refine blk_drewN ?_ _ | refine blk_drew ?_ | refine blk_alloc ?_ _)); exact BK267.out) hb); have n1_ := Aside0.mk (blk_below (g := gb269) (o := .cells #[.int .i64 x270000_1, .int .i64 x270001_1] 38 (0, 0)) (by (with_reducible repeat (first | refine blk_drewN ?_ _ | refine blk_drew ?_ | refine blk_alloc ?_ _)); exact BK269.out) hb); have n2_ := Aside0.mk (below_step (by repeat (first | (with_reducible first | exact HB.out | apply below_alloc | apply pw_below_drewN | apply below_drew1 | refine below_set ?_ GE267.out | refine below_set ?_ GE269.out) | exact HB.out)) hb); clear BK267; clear BK269; clear HB; have BK267 := n0_; have BK269 := n1_; have HB := n2_; clear n0_ n1_ n2_; (try clear hb); (try clear hb2); (try clear hk); (try clear hi)))
       have n0_ := Aside0.mk (blk_drew BK267.out)
       have n1_ := Aside0.mk (blk_drew BK269.out)
       have n2_ := Aside0.mk (below_drew1 HB.out)
       clear BK267
       clear BK269
       clear HB
       have BK267 := n0_
       have BK269 := n1_
       have HB := n2_
       clear n0_ n1_ n2_
       have p274 : 0 ≤ (x12_1 : Int) := of_decide_eq_true (by first | (with_reducible assumption) | assumption)
       have q274 : x12_1 < (l0.length : Int) := of_decide_eq_true (by first | (with_reducible assumption) | assumption)
       obtain ⟨ad274, e274, hx274_0, hx274_1, hx274_2, hx274_3⟩ := at_T28 HR0.out x12_1 p274 q274
       have hw274_3 := hx274_3
       have hw274_2 := hx274_2
       have hw274_1 := hx274_1
       have hw274_0 := hx274_0
       obtain rfl : ad272 = ad274 := (by injection e274)
       replace hx274_0 := (HB.out.cell (World.block_lt_of_cell? w _ hx274_0)).trans hx274_0
       replace hx274_1 := (HB.out.cell (World.block_lt_of_cell? w _ hx274_1)).trans hx274_1
       replace hx274_2 := (HB.out.cell (World.block_lt_of_cell? w _ hx274_2)).trans hx274_2
       replace hx274_3 := (HB.out.cell (World.block_lt_of_cell? w _ hx274_3)).trans hx274_3
       replace p274 := eq_true p274
       replace q274 := eq_true q274
       have p275 : 0 ≤ (x12_1 : Int) := of_decide_eq_true (by first | (with_reducible assumption) | assumption)
       have q275 : x12_1 < (l0.length : Int) := of_decide_eq_true (by first | (with_reducible assumption) | assumption)
       obtain ⟨ad275, e275, hx275_0, hx275_1, hx275_2, hx275_3⟩ := at_T28 HR0.out x12_1 p275 q275
       have hw275_3 := hx275_3
       have hw275_2 := hx275_2
       have hw275_1 := hx275_1
       have hw275_0 := hx275_0
       obtain rfl : ad272 = ad275 := (by injection e275)
       replace hx275_0 := (HB.out.cell (World.block_lt_of_cell? w _ hx275_0)).trans hx275_0
       replace hx275_1 := (HB.out.cell (World.block_lt_of_cell? w _ hx275_1)).trans hx275_1
       replace hx275_2 := (HB.out.cell (World.block_lt_of_cell? w _ hx275_2)).trans hx275_2
       replace hx275_3 := (HB.out.cell (World.block_lt_of_cell? w _ hx275_3)).trans hx275_3
       replace p275 := eq_true p275
       replace q275 := eq_true q275
       refine start_ (n := 14) (S := fun w' => w'.cell? ⟨gb269, 0, none⟩ = some (.int .i64 x270000_1) ∧ w'.cell? ⟨gb269, 1, none⟩ = some (.int .i64 x270001_1) ∧ w'.cell? (ad272.add ((x12_1).toNat * 4)) = some (.int .i64 ((rd_T28 l0 x12_1).f0)) ∧ w'.cell? ⟨(ad272.add ((x12_1).toNat * 4)).block, (ad272.add ((x12_1).toNat * 4)).off + 1, none⟩ = some (.int .i64 ((rd_T28 l0 x12_1).f1)) ∧ w'.cell? ⟨(ad272.add ((x12_1).toNat * 4)).block, (ad272.add ((x12_1).toNat * 4)).off + 2, none⟩ = some (.int .i64 ((rd_T28 l0 x12_1).f2)) ∧ w'.cell? ⟨(ad272.add ((x12_1).toNat * 4)).block, (ad272.add ((x12_1).toNat * 4)).off + 3, none⟩ = some (.int .i64 ((rd_T28 l0 x12_1).f3)) ∧ w'.cell? (ad272.add ((x12_1).toNat * 4)) = some (.int .i64 ((rd_T28 l0 x12_1).f0)) ∧ w'.cell? ⟨(ad272.add ((x12_1).toNat * 4)).block, (ad272.add ((x12_1).toNat * 4)).off + 1, none⟩ = some (.int .i64 ((rd_T28 l0 x12_1).f1)) ∧ w'.cell? ⟨(ad272.add ((x12_1).toNat * 4)).block, (ad272.add ((x12_1).toNat * 4)).off + 2, none⟩ = some (.int .i64 ((rd_T28 l0 x12_1).f2)) ∧ w'.cell? ⟨(ad272.add ((x12_1).toNat * 4)).block, (ad272.add ((x12_1).toNat * 4)).off + 3, none⟩ = some (.int .i64 ((rd_T28 l0 x12_1).f3))) (ds := [13]) #[false, false, false, false, false, false, false, false, false, false, false, false, false, false] (by kernel_rfl) rfl rfl ⟨(blk_cell BK269.out 0).trans rfl, (blk_cell BK269.out 1).trans rfl, ((HB.out.cell (World.block_lt_of_cell? w _ hw274_0)).trans hw274_0), ((HB.out.cell (World.block_lt_of_cell? w _ hw274_1)).trans hw274_1), ((HB.out.cell (World.block_lt_of_cell? w _ hw274_2)).trans hw274_2), ((HB.out.cell (World.block_lt_of_cell? w _ hw274_3)).trans hw274_3), ((HB.out.cell (World.block_lt_of_cell? w _ hw275_0)).trans hw275_0), ((HB.out.cell (World.block_lt_of_cell? w _ hw275_1)).trans hw275_1), ((HB.out.cell (World.block_lt_of_cell? w _ hw275_2)).trans hw275_2), ((HB.out.cell (World.block_lt_of_cell? w _ hw275_3)).trans hw275_3)⟩ (fun hHeld => ?_); refine with_tabW awardingbodyref14_Grant.tab9 awardingbodyref14_Grant.bits9 (fun HT_ HW_ => ?_)
       generalize w15.drew = w16 at BK267 BK269 HB hx274_0 hx274_1 hx274_2 hx274_3 hx275_0 hx275_1 hx275_2 hx275_3 hHeld ⊢
       refine pure_ (i := 1) (N := some 34) (v := ?_) (a' := ?_) #[false, true, false, false, false, false, false, false, false, false, false, false, false, false] rfl rfl (any_of HT_.out (by kernel_rfl)) (fun _ _ _ h => h) (Or.inl ⟨by rfl, ?_⟩) ?_ ?_
       rotate_left
       ·intro w'
        go_simp
        with_reducible rfl
       rotate_left
       ·simp only [Act.put, List.setIfInBounds_toArray, List.set_cons_zero, List.set_cons_succ, i64_w, i32_w]
        rfl
       refine pure_ (i := 2) (N := some 35) (v := ?_) (a' := ?_) #[false, true, true, false, false, false, false, false, false, false, false, false, false, false] rfl rfl (any_of HT_.out (by kernel_rfl)) (fun _ _ _ h => h) (Or.inl ⟨by rfl, ?_⟩) ?_ ?_
       rotate_left
       ·intro w'
        go_simp
        with_reducible rfl
       rotate_left
       ·simp only [Act.put, List.setIfInBounds_toArray, List.set_cons_zero, List.set_cons_succ, i64_w, i32_w]
        rfl
       refine pure_ (i := 3) (N := some 36) (v := ?_) (a' := ?_) #[false, true, true, true, false, false, false, false, false, false, false, false, false, false] rfl rfl (any_of HT_.out (by kernel_rfl)) (fun _ _ _ h => h) (Or.inl ⟨by rfl, ?_⟩) ?_ ?_
       rotate_left
       ·intro w'
        go_simp
        with_reducible rfl
       rotate_left
       ·simp only [Act.put, List.setIfInBounds_toArray, List.set_cons_zero, List.set_cons_succ, i64_w, i32_w]
        rfl
       refine pure_ (i := 4) (N := some 37) (v := ?_) (a' := ?_) #[false, true, true, true, true, false, false, false, false, false, false, false, false, false] rfl rfl (any_of HT_.out (by kernel_rfl)) (fun _ _ _ h => h) (Or.inl ⟨by rfl, ?_⟩) ?_ ?_
       rotate_left
       ·intro w'
        go_simp
        with_reducible rfl
       rotate_left
       ·simp only [Act.put, List.setIfInBounds_toArray, List.set_cons_zero, List.set_cons_succ, i64_w, i32_w]
        rfl
       refine pure_ (i := 6) (N := some 39) (v := ?_) (a' := ?_) #[false, true, true, true, true, false, true, false, false, false, false, false, false, false] rfl rfl (any_of HT_.out (by kernel_rfl)) (fun _ _ _ h => h) (Or.inl ⟨by rfl, ?_⟩) ?_ ?_
       rotate_left
       ·intro w'
        go_simp
        with_reducible rfl
       rotate_left
       ·simp only [Act.put, List.setIfInBounds_toArray, List.set_cons_zero, List.set_cons_succ, i64_w, i32_w]
        rfl
       refine pure_ (i := 7) (N := some 40) (v := ?_) (a' := ?_) #[false, true, true, true, true, false, true, true, false, false, false, false, false, false] rfl rfl (any_of HT_.out (by kernel_rfl)) (fun _ _ _ h => h) (Or.inl ⟨by rfl, ?_⟩) ?_ ?_
       rotate_left
       ·intro w'
        go_simp
        with_reducible rfl
       rotate_left
       ·simp only [Act.put, List.setIfInBounds_toArray, List.set_cons_zero, List.set_cons_succ, i64_w, i32_w]
        rfl
       refine pure_ (i := 8) (N := some 41) (v := ?_) (a' := ?_) #[false, true, true, true, true, false, true, true, true, false, false, false, false, false] rfl rfl (any_of HT_.out (by kernel_rfl)) (fun _ _ _ h => h) (Or.inl ⟨by rfl, ?_⟩) ?_ ?_
       rotate_left
       ·intro w'
        go_simp
        with_reducible rfl
       rotate_left
       ·simp only [Act.put, List.setIfInBounds_toArray, List.set_cons_zero, List.set_cons_succ, i64_w, i32_w]
        rfl
       refine pure_ (i := 9) (N := some 42) (v := ?_) (a' := ?_) #[false, true, true, true, true, false, true, true, true, true, false, false, false, false] rfl rfl (any_of HT_.out (by kernel_rfl)) (fun _ _ _ h => h) (Or.inl ⟨by rfl, ?_⟩) ?_ ?_
       rotate_left
       ·intro w'
        go_simp
        with_reducible rfl
       rotate_left
       ·simp only [Act.put, List.setIfInBounds_toArray, List.set_cons_zero, List.set_cons_succ, i64_w, i32_w]
        rfl
       refine take_ (i := 0) (N := some 33) (v := ?_) (a' := ?_) #[true, true, true, true, true, false, true, true, true, true, false, false, false, false] rfl rfl (take_ofW HT_.out HW_.out (by kernel_rfl)) (fun _ _ _ h => h) (Or.inl ⟨by rfl, ?_⟩) hHeld ?_ ?_
       rotate_left
       ·rintro w' ⟨s0, s1, s2, s3, s4, s5, s6, s7, s8, s9⟩
        go_simp
        with_reducible rfl
       rotate_left
       ·simp only [Act.put, List.setIfInBounds_toArray, List.set_cons_zero, List.set_cons_succ, i64_w, i32_w]
        rfl
       refine take_ (i := 5) (N := some 38) (v := ?_) (a' := ?_) #[true, true, true, true, true, true, true, true, true, true, false, false, false, false] rfl rfl (take_ofW HT_.out HW_.out (by kernel_rfl)) (fun _ _ _ h => h) (Or.inl ⟨by rfl, ?_⟩) hHeld ?_ ?_
       rotate_left
       ·rintro w' ⟨s0, s1, s2, s3, s4, s5, s6, s7, s8, s9⟩
        go_simp
        with_reducible rfl
       rotate_left
       ·simp only [Act.put, List.setIfInBounds_toArray, List.set_cons_zero, List.set_cons_succ, i64_w, i32_w]
        rfl
       refine take_ (i := 10) (N := some 43) (v := ?_) (a' := ?_) #[true, true, true, true, true, true, true, true, true, true, true, false, false, false] rfl rfl (take_ofW HT_.out HW_.out (by kernel_rfl)) (fun _ _ _ h => h) (Or.inl ⟨by rfl, ?_⟩) hHeld ?_ ?_
       rotate_left
       ·rintro w' ⟨s0, s1, s2, s3, s4, s5, s6, s7, s8, s9⟩
        go_simp
        with_reducible rfl
       rotate_left
       ·simp only [Act.put, List.setIfInBounds_toArray, List.set_cons_zero, List.set_cons_succ, i64_w, i32_w]
        rfl
       refine pure_ (i := 11) (N := some 44) (v := ?_) (a' := ?_) #[true, true, true, true, true, true, true, true, true, true, true, true, false, false] rfl rfl (any_of HT_.out (by kernel_rfl)) (fun _ _ _ h => h) (Or.inl ⟨by rfl, ?_⟩) ?_ ?_
       rotate_left
       ·intro w'
        go_simp
        with_reducible rfl
       rotate_left
       ·simp only [Act.put, List.setIfInBounds_toArray, List.set_cons_zero, List.set_cons_succ, i64_w, i32_w]
        rfl
       refine one_ (i := 12) (N := some 45) #[true, true, true, true, true, true, true, true, true, true, true, true, true, false] rfl rfl (one_of HT_.out (by kernel_rfl)) (by decide) (fun K hK => ?_)
       refine goes_ Try.func31 (by kernel_rfl) rfl #[.agg #[.int .i64 x270000_1, .int .i64 x270001_1], .agg #[.int .i64 ((rd_T28 l0 x12_1).f2), .int .i64 ((rd_T28 l0 x12_1).f3)]] (by rfl) rfl rfl (by (try simp only [List.map_toArray, List.map_cons, List.map_nil]); first | done | rfl | (simp only [List.length_drop, List.length_take]; rfl)) ?_
       with_reducible refine (awardingbodyref14_Join.calls x270000_1 x270001_1 ((rd_T28 l0 x12_1).f2) ((rd_T28 l0 x12_1).f3) t276 t277 _ A14.out).mono ?_
       rintro e w17 ⟨rfl, hb⟩
       refine ⟨_, rfl, ?_⟩
       have n0_ := Aside0.mk (blk_below (g := gb267) (o := .cells #[.int .i64 0, .int .i64 0] 38 (0, 0)) (by (with_reducible repeat (first | refine blk_drewN ?_ _ | refine blk_drew ?_ | refine blk_alloc ?_ _)); exact BK267.out) hb)
       have n1_ := Aside0.mk (blk_below (g := gb269) (o := .cells #[.int .i64 x270000_1, .int .i64 x270001_1] 38 (0, 0)) (by (with_reducible repeat (first | refine blk_drewN ?_ _ | refine blk_drew ?_ | refine blk_alloc ?_ _)); exact BK269.out) hb)
       have n2_ := Aside0.mk (below_step (by repeat (first | (with_reducible first | exact HB.out | apply below_alloc | apply pw_below_drewN | apply below_drew1 | refine below_set ?_ GE267.out | refine below_set ?_ GE269.out) | exact HB.out)) hb)
       clear BK267
       clear BK269
       clear HB
       have BK267 := n0_
       have BK269 := n1_
       have HB := n2_
       clear n0_ n1_ n2_
       (try clear hb)
       (try clear hb2)
       (try clear hk)
       (try clear hi)
       refine hK.out _ _ ⟨(blk_cell BK269.out 0).trans rfl, (blk_cell BK269.out 1).trans rfl, ((HB.out.cell (World.block_lt_of_cell? w _ hw274_0)).trans hw274_0), ((HB.out.cell (World.block_lt_of_cell? w _ hw274_1)).trans hw274_1), ((HB.out.cell (World.block_lt_of_cell? w _ hw274_2)).trans hw274_2), ((HB.out.cell (World.block_lt_of_cell? w _ hw274_3)).trans hw274_3), ((HB.out.cell (World.block_lt_of_cell? w _ hw275_0)).trans hw275_0), ((HB.out.cell (World.block_lt_of_cell? w _ hw275_1)).trans hw275_1), ((HB.out.cell (World.block_lt_of_cell? w _ hw275_2)).trans hw275_2), ((HB.out.cell (World.block_lt_of_cell? w _ hw275_3)).trans hw275_3)⟩ (fun hHeld => ?_)
       clear hK K
       refine norm_ (a' := ?_) ?_ ?_
       rotate_left
       ·show Act.put _ (some 45) _ = _
        simp only [Act.put, List.setIfInBounds_toArray, List.set_cons_zero, List.set_cons_succ, i64_w, i32_w]
        rfl
       refine last_ (i := 13) (N := none) #[true, true, true, true, true, true, true, true, true, true, true, true, true, true] rfl rfl (one_of HT_.out (by kernel_rfl)) (by decide) (fun K hK => ?_)
       have hs18 : w17.cell? ⟨gb269, 0, none⟩ = some (.int .i64 x270000_1) := (blk_cell BK269.out 0).trans rfl
       have hfs18 := blk_frozen BK269.out 0
       have hns18_0 := NB267_269.out
       have hms18_0 := NB269_267.out
       have hs19 : w17.cell? ⟨gb269, 1, none⟩ = some (.int .i64 x270001_1) := (blk_cell BK269.out 1).trans rfl
       have hfs19 := blk_frozen BK269.out 1
       have hns19_0 := NB267_269.out
       have hms19_0 := NB269_267.out
       refine skip_ (w1 := ?_) (by rfl) rfl ?_ ?_
       rotate_left
       ·go_simp
        rfl
       refine hK.out _ _ ?_
       clear hK K
       refine done_ (done_of HT_.out (by kernel_rfl)) ?_
       try go_wp2
       go_roundg k1
       case measure => have := HK1.out; omega
       case rel => exact ⟨(wrap64 (x12_1 + 1)), (t276), (t277), (by first | rfl | (simp; done) | (simp [*]; done)), H', ⟨by have := HK1.out; omega⟩, ⟨by (with_reducible repeat (first | refine blk_drewN ?_ _ | refine blk_drew ?_ | refine blk_alloc ?_ _)); refine blk_far ?_ NB267_269.out _; (with_reducible repeat (first | refine blk_drewN ?_ _ | refine blk_drew ?_ | refine blk_alloc ?_ _)); refine blk_far ?_ NB267_269.out _; (with_reducible repeat (first | refine blk_drewN ?_ _ | refine blk_drew ?_ | refine blk_alloc ?_ _)); exact BK267.out⟩, ⟨by (with_reducible repeat (first | refine blk_drewN ?_ _ | refine blk_drew ?_ | refine blk_alloc ?_ _)); refine blk_put (cs := #[.int .i64 t276, .int .i64 x270001_1]) ?_ 1 _ rfl; (with_reducible repeat (first | refine blk_drewN ?_ _ | refine blk_drew ?_ | refine blk_alloc ?_ _)); refine blk_put (cs := #[.int .i64 x270000_1, .int .i64 x270001_1]) ?_ 0 _ rfl; (with_reducible repeat (first | refine blk_drewN ?_ _ | refine blk_drew ?_ | refine blk_alloc ?_ _)); exact BK269.out⟩, ⟨by repeat (first | (with_reducible first | exact HB.out | apply below_alloc | apply pw_below_drewN | apply below_drew1 | refine below_set ?_ GE267.out | refine below_set ?_ GE269.out) | exact HB.out)⟩⟩
      ·replace c13 := Bool.eq_false_iff.mpr c13
       subst c13
       have H1 : (awardingbodyref14_Grant.l0 k1 l0 l1 a2 a3 (wrap64 (x12_1 + 1)) x270000_1 x270001_1) = some (r1, r2, r3) := by rw [if_neg (show ¬ (false = true) by decide)] at H; exact H
       clear H
       have H := H1
       clear H1
       have H' := Aside0.mk H
       clear H
       have p272 : 0 ≤ (x12_1 : Int) := of_decide_eq_true (by first | (with_reducible assumption) | assumption)
       have q272 : x12_1 < (l0.length : Int) := of_decide_eq_true (by first | (with_reducible assumption) | assumption)
       obtain ⟨ad272, e272, hx272_0, hx272_1, hx272_2, hx272_3⟩ := at_T28 HR0.out x12_1 p272 q272
       cases e272
       replace hx272_0 := (HB.out.cell (World.block_lt_of_cell? w _ hx272_0)).trans hx272_0
       replace hx272_1 := (HB.out.cell (World.block_lt_of_cell? w _ hx272_1)).trans hx272_1
       replace hx272_2 := (HB.out.cell (World.block_lt_of_cell? w _ hx272_2)).trans hx272_2
       replace hx272_3 := (HB.out.cell (World.block_lt_of_cell? w _ hx272_3)).trans hx272_3
       replace p272 := eq_true p272
       replace q272 := eq_true q272
       go_wp2_with (first | ((with_reducible refine gate_callee (f := 43) rfl ?_); refine goesL_ (some 32) rfl rfl Try.func43 (by kernel_rfl) rfl #[.agg #[.int .i64 ((rd_T28 l0 x12_1).f0), .int .i64 ((rd_T28 l0 x12_1).f1), .int .i64 ((rd_T28 l0 x12_1).f2), .int .i64 ((rd_T28 l0 x12_1).f3)], .slice A1 l1.length c1, .int .i64 a2, .int .i64 a3] rfl (by (try simp only [List.map_toArray, List.map_cons, List.map_nil]); first | done | rfl | (simp only [List.length_drop, List.length_take]; rfl)) ?_; (with_reducible refine (awardingbodyref14_applies.calls k1 ((rd_T28 l0 x12_1).f0) ((rd_T28 l0 x12_1).f1) ((rd_T28 l0 x12_1).f2) ((rd_T28 l0 x12_1).f3) _ _ l1 a2 a3 false _ ?side1 ?side2 A12.out).mono ?_); (case side1 => repeat (first | exact (Kd.C_below HR1.out HB.out) | (with_reducible refine Kd.C_alloc ?_ _) | (with_reducible refine Kd.C_drewN ?_ _) | (with_reducible refine Kd.C_drew ?_))); (case side2 => exact HC1.out); rintro e w20 ⟨rfl, hb⟩; refine ⟨_, rfl, ?_⟩; have n0_ := Aside0.mk (blk_below (g := gb267) (o := .cells #[.int .i64 0, .int .i64 0] 38 (0, 0)) (by (with_reducible repeat (first | refine blk_drewN ?_ _ | refine blk_drew ?_ | refine blk_alloc ?_ _)); exact BK267.out) hb); have n1_ := Aside0.mk (blk_below (g := gb269) (o := .cells #[.int .i64 x270000_1, .int .i64 x270001_1] 38 (0, 0)) (by (with_reducible repeat (first | refine blk_drewN ?_ _ | refine blk_drew ?_ | refine blk_alloc ?_ _)); exact BK269.out) hb); have n2_ := Aside0.mk (below_step (by repeat (first | (with_reducible first | exact HB.out | apply below_alloc | apply pw_below_drewN | apply below_drew1 | refine below_set ?_ GE267.out | refine below_set ?_ GE269.out) | exact HB.out)) hb); clear BK267; clear BK269; clear HB; have BK267 := n0_; have BK269 := n1_; have HB := n2_; clear n0_ n1_ n2_; (try clear hb); (try clear hb2); (try clear hk); (try clear hi)))
       go_roundg k1
       case measure => have := HK1.out; omega
       case rel => exact ⟨(wrap64 (x12_1 + 1)), (x270000_1), (x270001_1), (by first | rfl | (simp; done) | (simp [*]; done)), H', ⟨by have := HK1.out; omega⟩, ⟨by (with_reducible repeat (first | refine blk_drewN ?_ _ | refine blk_drew ?_ | refine blk_alloc ?_ _)); exact BK267.out⟩, ⟨by (with_reducible repeat (first | refine blk_drewN ?_ _ | refine blk_drew ?_ | refine blk_alloc ?_ _)); exact BK269.out⟩, ⟨by repeat (first | (with_reducible first | exact HB.out | apply below_alloc | apply pw_below_drewN | apply below_drew1 | refine below_set ?_ GE267.out | refine below_set ?_ GE269.out) | exact HB.out)⟩⟩
     ·rw [if_neg c11] at H
      exact absurd H (by simp)
    ·rw [if_neg c10] at H
     have c10b0 : decide (x12_1 < (l0.length : Int)) = false := decide_eq_false c10
     clear c10
     replace H := Option.bind_eq_some_iff.mp H
     obtain ⟨⟨t270, t271⟩, A210, H⟩ := H
     replace H : (some (t270, t271, 0)) = some (r1, r2, r3) := H
     have A21 := Aside0.mk A210
     clear A210
     simp only [Option.some.injEq, Prod.mk.injEq] at H
     obtain ⟨rfl, rfl, rfl⟩ := H
     have hnb22 := NB269_267.out
     have hnc22 := NB267_269.out
     have hcz23_0 : wr.cell? ⟨gb269, 0, none⟩ = some (.int .i64 x270000_1) := (blk_cell BK269.out 0).trans rfl
     have hcz23_1 : wr.cell? ⟨gb269, 1, none⟩ = some (.int .i64 x270001_1) := (blk_cell BK269.out 1).trans rfl
     have hfz23_0 := blk_frozen BK269.out 0
     have hfz23_1 := blk_frozen BK269.out 1
     go_wp2_with (first | ((with_reducible refine gate_callee (f := 33) rfl ?_); refine goesL_ (some 47) rfl rfl Try.func33 (by kernel_rfl) rfl #[.agg #[.int .i64 x270000_1, .int .i64 x270001_1]] rfl (by (try simp only [List.map_toArray, List.map_cons, List.map_nil]); first | done | rfl | (simp only [List.length_drop, List.length_take]; rfl)) ?_; (with_reducible refine (awardingbodyref14_Imply.calls x270000_1 x270001_1 t270 t271 _ A21.out).mono ?_); rintro e w24 ⟨rfl, hb⟩; refine ⟨_, rfl, ?_⟩; have n0_ := Aside0.mk (blk_below (g := gb267) (o := .cells #[.int .i64 0, .int .i64 0] 38 (0, 0)) (by (with_reducible repeat (first | refine blk_drewN ?_ _ | refine blk_drew ?_ | refine blk_alloc ?_ _)); exact BK267.out) hb); have n1_ := Aside0.mk (blk_below (g := gb269) (o := .cells #[.int .i64 x270000_1, .int .i64 x270001_1] 38 (0, 0)) (by (with_reducible repeat (first | refine blk_drewN ?_ _ | refine blk_drew ?_ | refine blk_alloc ?_ _)); exact BK269.out) hb); have n2_ := Aside0.mk (below_step (by repeat (first | (with_reducible first | exact HB.out | apply below_alloc | apply pw_below_drewN | apply below_drew1 | refine below_set ?_ GE267.out | refine below_set ?_ GE269.out) | exact HB.out)) hb); clear BK267; clear BK269; clear HB; have BK267 := n0_; have BK269 := n1_; have HB := n2_; clear n0_ n1_ n2_; (try clear hb); (try clear hb2); (try clear hk); (try clear hi); have hcz25_0 : w24.cell? ⟨gb267, 0, none⟩ = some (.int .i64 0) := (blk_cell BK267.out 0).trans rfl; have hcz25_1 : w24.cell? ⟨gb267, 1, none⟩ = some (.int .i64 0) := (blk_cell BK267.out 1).trans rfl; have hfz25_0 := blk_frozen BK267.out 0; have hfz25_1 := blk_frozen BK267.out 1))
     refine bodyPost_ret (results_ct rfl _ _ gb267 38 #[.int .i64 t270, .int .i64 t271] (0, 0) _ rfl (by (with_reducible repeat (first | refine blk_drewN ?_ _ | refine blk_drew ?_ | refine blk_alloc ?_ _)); refine blk_put (cs := #[.int .i64 t270, .int .i64 0]) ?_ 1 _ rfl; (with_reducible repeat (first | refine blk_drewN ?_ _ | refine blk_drew ?_ | refine blk_alloc ?_ _)); refine blk_put (cs := #[.int .i64 0, .int .i64 0]) ?_ 0 _ rfl; (with_reducible repeat (first | refine blk_drewN ?_ _ | refine blk_drew ?_ | refine blk_alloc ?_ _)); exact BK267.out) Try.underlying38 rfl (by kernel_rfl)) rfl ?_
     exact ⟨by first | rfl | (simp [errW_none, errW_some] <;> rfl) | (simp [*, errW_none, errW_some] <;> rfl), by repeat (first | (with_reducible first | exact HB.out | apply below_alloc | apply pw_below_drewN | apply below_drew1 | refine below_set ?_ GE267.out | refine below_set ?_ GE269.out) | exact HB.out)⟩
 ·rw [if_neg c6] at H
  have c6b0 : (t268 == 0) = false := beq_eq_false_iff_ne.mpr c6
  have c6b1 : (t268 != 0) = true := bne_iff_ne.mpr c6
  simp only [Option.some.injEq, Prod.mk.injEq] at H
  obtain ⟨rfl, rfl, rfl⟩ := H
  go_enter Try.func20, Try.ntmps20
  go_wp2_with (first | ((with_reducible refine gate_dst (N := 8) rfl ?_); refine box_event ?hg (N := 8) ?hd (cs := #[.int .i64 0, .int .i64 0]) (t := 38) ?hr ?_; (case hd => rfl); (case hg => rfl); (case hr => first | (go_simp; done) | (go_simp; rfl)); intro gb267 hg w26 hbox hb; have n0_ := Aside0.mk (below_step (by repeat (first | (with_reducible first | exact HB.out | apply below_alloc | apply pw_below_drewN | apply below_drew1) | exact HB.out)) hb); have n1_ := Aside0.mk (hbox); have n2_ := Aside0.mk ((by rw [hg]; exact (below_size (by repeat (first | (with_reducible first | exact HB.out | apply below_alloc | apply pw_below_drewN | apply below_drew1) | exact HB.out))) : w.heap.size ≤ gb267)); have n3_ := Aside0.mk ((by rw [hg]; exact (below_size (by repeat (first | (with_reducible first | exact HB.out | apply below_alloc | apply pw_below_drewN | apply below_drew1) | exact HB.out))) : w.heap.size ≤ gb267)); clear HB; have HB := n0_; have BK267 := n1_; have GW267 := n2_; have GE267 := n3_; clear n0_ n1_ n2_ n3_; clear hb hbox hg) | ((with_reducible refine gate_callee (f := 15) rfl ?_); refine goesL_ (some 14) rfl rfl Try.func15 (by kernel_rfl) rfl #[.slice A0 l0.length c0] rfl (by (try simp only [List.map_toArray, List.map_cons, List.map_nil]); first | done | rfl | (simp only [List.length_drop, List.length_take]; rfl)) ?_; (with_reducible refine (awardingbodyref14_Check.calls k _ _ l0 t268 _ ?side1 ?side2 A5.out).mono ?_); (case side1 => repeat (first | exact (Kd.C_below HR0.out HB.out) | (with_reducible refine Kd.C_alloc ?_ _) | (with_reducible refine Kd.C_drewN ?_ _) | (with_reducible refine Kd.C_drew ?_))); (case side2 => exact HC0.out); rintro e w27 ⟨rfl, hb⟩; refine ⟨_, rfl, ?_⟩; have n0_ := Aside0.mk (blk_below (g := gb267) (o := .cells #[.int .i64 0, .int .i64 0] 38 (0, 0)) (by (with_reducible repeat (first | refine blk_drewN ?_ _ | refine blk_drew ?_ | refine blk_alloc ?_ _)); exact BK267.out) hb); have n1_ := Aside0.mk (below_step (by repeat (first | (with_reducible first | exact HB.out | apply below_alloc | apply pw_below_drewN | apply below_drew1 | refine below_set ?_ GE267.out) | exact HB.out)) hb); clear BK267; clear HB; have BK267 := n0_; have HB := n1_; clear n0_ n1_; (try clear hb); (try clear hb2); (try clear hk); (try clear hi); have hcz28_0 : w27.cell? ⟨gb267, 0, none⟩ = some (.int .i64 0) := (blk_cell BK267.out 0).trans rfl; have hcz28_1 : w27.cell? ⟨gb267, 1, none⟩ = some (.int .i64 0) := (blk_cell BK267.out 1).trans rfl; have hfz28_0 := blk_frozen BK267.out 0; have hfz28_1 := blk_frozen BK267.out 1))
  refine bodyPost_ret (results_ct rfl _ _ gb267 38 #[.int .i64 0, .int .i64 0] (0, 0) _ rfl (by (with_reducible repeat (first | refine blk_drewN ?_ _ | refine blk_drew ?_ | refine blk_alloc ?_ _)); refine blk_put (cs := #[.int .i64 0, .int .i64 0]) ?_ 1 _ rfl; (with_reducible repeat (first | refine blk_drewN ?_ _ | refine blk_drew ?_ | refine blk_alloc ?_ _)); refine blk_put (cs := #[.int .i64 0, .int .i64 0]) ?_ 0 _ rfl; (with_reducible repeat (first | refine blk_drewN ?_ _ | refine blk_drew ?_ | refine blk_alloc ?_ _)); exact BK267.out) Try.underlying38 rfl (by kernel_rfl)) rfl ?_
  exact ⟨by first | rfl | (simp [errW_none, errW_some] <;> rfl) | (simp [*, errW_none, errW_some] <;> rfl), by repeat (first | (with_reducible first | exact HB.out | apply below_alloc | apply pw_below_drewN | apply below_drew1 | refine below_set ?_ GE267.out) | exact HB.out)⟩

/-! ### awardingbodyref06_Ints: function 21 -/
def awardingbodyref06_Ints.l0 : Nat → List Int → List Int → Int → Option (Bool)
  | 0, _, _, _ => none
  | k + 1, x0, x1, x5 => if x5 < (x0.length : Int) then (if 0 ≤ x5 then (if x5 < (x1.length : Int) then (if (rd x0 x5) = (rd x1 x5) then (awardingbodyref06_Ints.l0 k x0 x1 (wrap64 (x5 + 1))) else (some false)) else (none)) else (none)) else (some true)
def awardingbodyref06_Ints.f (k : Nat) (l0 : List Int) (l1 : List Int) : Option (Bool) := if (l0.length : Int) = (l1.length : Int) then (awardingbodyref06_Ints.l0 k l0 l1 0) else (some false)
theorem awardingbodyref06_Ints.mono_l : ∀ k, (∀ y0 y1 y2, LeO (awardingbodyref06_Ints.l0 k y0 y1 y2) (awardingbodyref06_Ints.l0 (k + 1) y0 y1 y2))
  | 0 => fun _ _ _ r h => by simp [awardingbodyref06_Ints.l0] at h
  | k + 1 => by
    have ih0 := awardingbodyref06_Ints.mono_l k
    · intro y0 y1 y2
      unfold awardingbodyref06_Ints.l0
      repeat' first
      | (with_reducible exact ih0 _ _ _)
      | (with_reducible exact LeO.refl _)
      | (with_reducible exact LeO.none _)
      | (with_reducible refine LeO.ite ?_ ?_)
      | (with_reducible refine LeO.bind ?_ (fun _ => ?_))
      | exact ih0 _ _ _
      | exact LeO.none _
      | refine LeO.ite ?_ ?_
      | refine LeO.bind ?_ (fun _ => ?_)
theorem awardingbodyref06_Ints.mono : ∀ a0 a1 k, LeO (awardingbodyref06_Ints.f k a0 a1) (awardingbodyref06_Ints.f (k + 1) a0 a1) := by
  intro a0 a1 k
  have ih0 := awardingbodyref06_Ints.mono_l k
  unfold awardingbodyref06_Ints.f
  repeat' first
      | (with_reducible exact ih0 _ _ _)
      | (with_reducible exact LeO.refl _)
      | (with_reducible exact LeO.none _)
      | (with_reducible refine LeO.ite ?_ ?_)
      | (with_reducible refine LeO.bind ?_ (fun _ => ?_))
      | exact ih0 _ _ _
      | exact LeO.none _
      | refine LeO.ite ?_ ?_
      | refine LeO.bind ?_ (fun _ => ?_)
set_option maxHeartbeats 8000000 in
set_option maxRecDepth 100000 in
theorem awardingbodyref06_Ints.calls (k : Nat) (A0 : Option Addr) (c0 : Nat) (l0 : List Int) (A1 : Option Addr) (c1 : Nat) (l1 : List Int) (r : Bool) (w : World) (hr0 : Kd.C (Kd.int .i64) w A0 l0.length l0) (hc0 : l0.length ≤ c0) (hr1 : Kd.C (Kd.int .i64) w A1 l1.length l1) (hc1 : l1.length ≤ c1) (h : awardingbodyref06_Ints.f k l0 l1 = some r) :
    Calls Try.prog 21 #[.slice A0 l0.length c0, .slice A1 l1.length c1] w fun e w' => e = .returned (.bool r) ∧ Drawn0 w w' := by
 have HR0 := Aside0.mk hr0
 have HC0 := Aside0.mk hc0
 clear hr0 hc0
 have HR1 := Aside0.mk hr1
 have HC1 := Aside0.mk hc1
 clear hr1 hc1
 have H : (if (l0.length : Int) = (l1.length : Int) then (awardingbodyref06_Ints.l0 k l0 l1 0) else (some false)) = some r := h
 clear h
 by_cases c3 : (l0.length : Int) = (l1.length : Int)
 ·rw [if_pos c3] at H
  have c3b0 : ((l0.length : Int) == (l1.length : Int)) = true := beq_iff_eq.mpr c3
  have c3b1 : ((l0.length : Int) != (l1.length : Int)) = false := bne_eq_false_iff_eq.mpr c3
  have c3b2 : (l0.length == l1.length) = true := by first | simpa using c3 | (simp at c3 ⊢; omega)
  clear c3
  have H' := Aside0.mk H
  clear H
  go_enter Try.func21, Try.ntmps21
  go_wp2
  repeat (go_quiet (fail); try go_wp2)
  go_loopg [5] k (fun kq v5 w' => ∃ (x5_1 : Int), v5 = .int .i64 x5_1 ∧ Aside0 (awardingbodyref06_Ints.l0 kq l0 l1 x5_1 = some r) ∧ Aside0 (kq ≤ k) ∧ Drawn0 w w')
  case atStart => exact ⟨(0), (by first | rfl | (simp; done) | (simp [*]; done)), H', ⟨Nat.le_refl _⟩, by repeat (first | exact Drawn0.refl _ | apply Drawn0.step)⟩
  case round =>
   clear H'
   try clear c1
   try clear c2
   try clear p2
   try clear c3
   try clear c3b0
   try clear c3b1
   try clear c3b2
   obtain ⟨x5_1, rfl, HA, HK1, ⟨m1, rfl⟩⟩ := hrel
   cases gk with
   | zero => exact absurd HA.out (by simp [awardingbodyref06_Ints.l0])
   | succ k1 =>
    have H := HA.out
    clear HA
    simp only [awardingbodyref06_Ints.l0] at H
    by_cases c4 : x5_1 < (l0.length : Int)
    ·rw [if_pos c4] at H
     have c4b0 : decide (x5_1 < (l0.length : Int)) = true := decide_eq_true c4
     clear c4
     by_cases c5 : 0 ≤ x5_1
     ·rw [if_pos c5] at H
      have c5b0 : decide (0 ≤ x5_1) = true := decide_eq_true c5
      clear c5
      by_cases c6 : x5_1 < (l1.length : Int)
      ·rw [if_pos c6] at H
       have c6b0 : decide (x5_1 < (l1.length : Int)) = true := decide_eq_true c6
       clear c6
       by_cases c7 : (rd l0 x5_1) = (rd l1 x5_1)
       ·rw [if_pos c7] at H
        have c7b0 : ((rd l0 x5_1) == (rd l1 x5_1)) = true := beq_iff_eq.mpr c7
        have c7b1 : ((rd l0 x5_1) != (rd l1 x5_1)) = false := bne_eq_false_iff_eq.mpr c7
        clear c7
        have H' := Aside0.mk H
        clear H
        have p278 : 0 ≤ (x5_1 : Int) := of_decide_eq_true (by first | (with_reducible assumption) | assumption)
        have q278 : x5_1 < (l0.length : Int) := of_decide_eq_true (by first | (with_reducible assumption) | assumption)
        obtain ⟨ad278, e278, hx278_0⟩ := Kd.at_int HR0.out x5_1 p278 q278
        cases e278
        replace p278 := eq_true p278
        replace q278 := eq_true q278
        have p279 : 0 ≤ (x5_1 : Int) := of_decide_eq_true (by first | (with_reducible assumption) | assumption)
        have q279 : x5_1 < (l1.length : Int) := of_decide_eq_true (by first | (with_reducible assumption) | assumption)
        obtain ⟨ad279, e279, hx279_0⟩ := Kd.at_int HR1.out x5_1 p279 q279
        cases e279
        replace p279 := eq_true p279
        replace q279 := eq_true q279
        go_wp2
        repeat (go_quiet (fail); try go_wp2)
        go_roundg k1
        case measure => have := HK1.out; omega
        case rel => exact ⟨(wrap64 (x5_1 + 1)), (by first | rfl | (simp; done) | (simp [*]; done)), H', ⟨by have := HK1.out; omega⟩, by repeat (first | exact Drawn0.refl _ | apply Drawn0.step)⟩
       ·rw [if_neg c7] at H
        have c7b0 : ((rd l0 x5_1) == (rd l1 x5_1)) = false := beq_eq_false_iff_ne.mpr c7
        have c7b1 : ((rd l0 x5_1) != (rd l1 x5_1)) = true := bne_iff_ne.mpr c7
        obtain rfl := Option.some.inj H
        have p278 : 0 ≤ (x5_1 : Int) := of_decide_eq_true (by first | (with_reducible assumption) | assumption)
        have q278 : x5_1 < (l0.length : Int) := of_decide_eq_true (by first | (with_reducible assumption) | assumption)
        obtain ⟨ad278, e278, hx278_0⟩ := Kd.at_int HR0.out x5_1 p278 q278
        cases e278
        replace p278 := eq_true p278
        replace q278 := eq_true q278
        have p279 : 0 ≤ (x5_1 : Int) := of_decide_eq_true (by first | (with_reducible assumption) | assumption)
        have q279 : x5_1 < (l1.length : Int) := of_decide_eq_true (by first | (with_reducible assumption) | assumption)
        obtain ⟨ad279, e279, hx279_0⟩ := Kd.at_int HR1.out x5_1 p279 q279
        cases e279
        replace p279 := eq_true p279
        replace q279 := eq_true q279
        go_wp2
        repeat (go_quiet (fail); try go_wp2)
        go_ret
        exact ⟨by first | rfl | (simp; done) | (simp [*]; done), by repeat (first | exact Drawn0.refl _ | apply Drawn0.step)⟩
      ·rw [if_neg c6] at H
       exact absurd H (by simp)
     ·rw [if_neg c5] at H
      exact absurd H (by simp)
    ·rw [if_neg c4] at H
     have c4b0 : decide (x5_1 < (l0.length : Int)) = false := decide_eq_false c4
     clear c4
     obtain rfl := Option.some.inj H
     go_wp2
     repeat (go_quiet (fail); try go_wp2)
     go_ret
     exact ⟨by first | rfl | (simp; done) | (simp [*]; done), by repeat (first | exact Drawn0.refl _ | apply Drawn0.step)⟩
 ·rw [if_neg c3] at H
  have c3b0 : ((l0.length : Int) == (l1.length : Int)) = false := beq_eq_false_iff_ne.mpr c3
  have c3b1 : ((l0.length : Int) != (l1.length : Int)) = true := bne_iff_ne.mpr c3
  have c3b2 : (l0.length == l1.length) = false := by first | simpa using c3 | (simp at c3 ⊢; omega)
  obtain rfl := Option.some.inj H
  go_enter Try.func21, Try.ntmps21
  go_wp2
  repeat (go_quiet (fail); try go_wp2)
  go_ret
  exact ⟨by first | rfl | (simp; done) | (simp [*]; done), by repeat (first | exact Drawn0.refl _ | apply Drawn0.step)⟩

/-! ### awardingbodyref14_Reasons: function 23 -/
def awardingbodyref14_Reasons.l0 : Nat → List (S28) → List (S49) → Int → Int → List Int → Int → Option (List Int)
  | 0, _, _, _, _, _, _ => none
  | k + 1, x0, x1, x2, x3, x9, x10 => if x10 < (x0.length : Int) then (if 0 ≤ x10 then ((awardingbodyref14_applies.f k ((rd_T28 x0 x10).f0) ((rd_T28 x0 x10).f1) ((rd_T28 x0 x10).f2) ((rd_T28 x0 x10).f3) x1 x2 x3).bind fun t282 => (if t282 = true then (if x9.length < 17592186044416 then (awardingbodyref14_Reasons.l0 k x0 x1 x2 x3 (x9 ++ [x10]) (wrap64 (x10 + 1))) else (none)) else (awardingbodyref14_Reasons.l0 k x0 x1 x2 x3 x9 (wrap64 (x10 + 1))))) else (none)) else (some x9)
def awardingbodyref14_Reasons.f (k : Nat) (l0 : List (S28)) (l1 : List (S49)) (a2 : Int) (a3 : Int) : Option (List Int) := (awardingbodyref14_Check.f k l0).bind fun t280 => (if t280 = 0 then (awardingbodyref14_Reasons.l0 k l0 l1 a2 a3 ([] : List Int) 0) else (some ([] : List Int)))
theorem awardingbodyref14_Reasons.mono_l : ∀ k, (∀ y0 y1 y2 y3 y4 y5, LeO (awardingbodyref14_Reasons.l0 k y0 y1 y2 y3 y4 y5) (awardingbodyref14_Reasons.l0 (k + 1) y0 y1 y2 y3 y4 y5))
  | 0 => fun _ _ _ _ _ _ r h => by simp [awardingbodyref14_Reasons.l0] at h
  | k + 1 => by
    have ih0 := awardingbodyref14_Reasons.mono_l k
    · intro y0 y1 y2 y3 y4 y5
      unfold awardingbodyref14_Reasons.l0
      repeat' first
      | (with_reducible exact ih0 _ _ _ _ _ _)
      | (with_reducible exact awardingbodyref14_Check.mono _ _)
      | (with_reducible exact awardingbodyref14_applies.mono _ _ _ _ _ _ _ _)
      | (with_reducible exact LeO.refl _)
      | (with_reducible exact LeO.none _)
      | (with_reducible refine LeO.ite ?_ ?_)
      | (with_reducible refine LeO.bind ?_ (fun _ => ?_))
      | exact ih0 _ _ _ _ _ _
      | exact awardingbodyref14_Check.mono _ _
      | exact awardingbodyref14_applies.mono _ _ _ _ _ _ _ _
      | exact LeO.none _
      | refine LeO.ite ?_ ?_
      | refine LeO.bind ?_ (fun _ => ?_)
theorem awardingbodyref14_Reasons.mono : ∀ a0 a1 a2 a3 k, LeO (awardingbodyref14_Reasons.f k a0 a1 a2 a3) (awardingbodyref14_Reasons.f (k + 1) a0 a1 a2 a3) := by
  intro a0 a1 a2 a3 k
  have ih0 := awardingbodyref14_Reasons.mono_l k
  unfold awardingbodyref14_Reasons.f
  repeat' first
      | (with_reducible exact ih0 _ _ _ _ _ _)
      | (with_reducible exact awardingbodyref14_Check.mono _ _)
      | (with_reducible exact awardingbodyref14_applies.mono _ _ _ _ _ _ _ _)
      | (with_reducible exact LeO.refl _)
      | (with_reducible exact LeO.none _)
      | (with_reducible refine LeO.ite ?_ ?_)
      | (with_reducible refine LeO.bind ?_ (fun _ => ?_))
      | exact ih0 _ _ _ _ _ _
      | exact awardingbodyref14_Check.mono _ _
      | exact awardingbodyref14_applies.mono _ _ _ _ _ _ _ _
      | exact LeO.none _
      | refine LeO.ite ?_ ?_
      | refine LeO.bind ?_ (fun _ => ?_)
set_option maxHeartbeats 8000000 in
set_option maxRecDepth 100000 in
theorem awardingbodyref14_Reasons.calls (k : Nat) (A0 : Option Addr) (c0 : Nat) (l0 : List (S28)) (A1 : Option Addr) (c1 : Nat) (l1 : List (S49)) (a2 : Int) (a3 : Int) (r : List Int) (w : World) (hr0 : Kd.C k28 w A0 l0.length l0) (hc0 : l0.length ≤ c0) (hr1 : Kd.C k49 w A1 l1.length l1) (hc1 : l1.length ≤ c1) (h : awardingbodyref14_Reasons.f k l0 l1 a2 a3 = some r) :
    Calls Try.prog 23 #[.slice A0 l0.length c0, .slice A1 l1.length c1, .int .i64 a2, .int .i64 a3] w fun e w' => ∃ v0_ : Value, e = .returned (v0_) ∧ Kd.R (Kd.int .i64) 3 w' w.heap.size (fun _ => True) v0_ r ∧ Below w.heap.size w w' := by
 have hu28 := Try.underlying28
 have HR0 := Aside0.mk hr0
 have HC0 := Aside0.mk hc0
 clear hr0 hc0
 have HR1 := Aside0.mk hr1
 have HC1 := Aside0.mk hc1
 clear hr1 hc1
 have HB := Aside0.mk (Below.refl w.heap.size w)
 have H : ((awardingbodyref14_Check.f k l0).bind fun t280 => (if t280 = 0 then (awardingbodyref14_Reasons.l0 k l0 l1 a2 a3 ([] : List Int) 0) else (some ([] : List Int)))) = some r := h
 clear h
 replace H := Option.bind_eq_some_iff.mp H
 obtain ⟨t280, A50, H⟩ := H
 replace H : (if t280 = 0 then (awardingbodyref14_Reasons.l0 k l0 l1 a2 a3 ([] : List Int) 0) else (some ([] : List Int))) = some r := H
 have A5 := Aside0.mk A50
 clear A50
 by_cases c6 : t280 = 0
 ·rw [if_pos c6] at H
  have c6b0 : (t280 == 0) = true := beq_iff_eq.mpr c6
  have c6b1 : (t280 != 0) = false := bne_eq_false_iff_eq.mpr c6
  clear c6
  have H' := Aside0.mk H
  clear H
  go_enter Try.func23, Try.ntmps23
  go_wp2_with (first | ((with_reducible refine gate_callee (f := 15) rfl ?_); refine goesL_ (some 12) rfl rfl Try.func15 (by kernel_rfl) rfl #[.slice A0 l0.length c0] rfl (by (try simp only [List.map_toArray, List.map_cons, List.map_nil]); first | done | rfl | (simp only [List.length_drop, List.length_take]; rfl)) ?_; (with_reducible refine (awardingbodyref14_Check.calls k _ _ l0 t280 _ ?side1 ?side2 A5.out).mono ?_); (case side1 => repeat (first | exact HR0.out | (with_reducible refine Kd.C_alloc ?_ _) | (with_reducible refine Kd.C_drewN ?_ _) | (with_reducible refine Kd.C_drew ?_))); (case side2 => exact HC0.out); rintro e w7 ⟨rfl, hb⟩; refine ⟨_, rfl, ?_⟩; have n0_ := Aside0.mk (below_step (by repeat (first | (with_reducible first | exact HB.out | apply below_alloc | apply pw_below_drewN | apply below_drew1) | exact HB.out)) hb); clear HB; have HB := n0_; clear n0_; (try clear hb); (try clear hb2); (try clear hk); (try clear hi)))
  go_loopg [9, 10] k (fun kq v9 v10 w' => ∃ (x9_1 : List Int) (x10_1 : Int), v10 = .int .i64 x10_1 ∧ Aside0 (awardingbodyref14_Reasons.l0 kq l0 l1 a2 a3 x9_1 x10_1 = some r) ∧ Aside0 (kq ≤ k) ∧ Aside0 (Kd.R (Kd.int .i64) 3 w' w.heap.size (fun _ => True) v9 x9_1) ∧ Aside0 (Below w.heap.size w w'))
  case atStart => exact ⟨(([] : List Int)), (0), (by first | rfl | (simp; done) | (simp [*]; done)), H', ⟨Nat.le_refl _⟩, ⟨by first | exact Kd.R_nil _ _ _ _ _ | exact Kd.N_nil _ _ _ _ _ | exact Kd.V_nil _ _ _ _ _ | exact Kd.Q_nil _ _ _ _ _ | exact Kd.S_nil _ _ _ _ _⟩, ⟨by repeat (first | (with_reducible first | exact HB.out | apply below_alloc | apply pw_below_drewN | apply below_drew1) | exact HB.out)⟩⟩
  case round =>
   clear H'
   try clear c1
   try clear c2
   try clear p2
   try clear c6
   try clear c6b0
   try clear c6b1
   obtain ⟨x9_1, x10_1, rfl, HA, HK1, HO_9, HB⟩ := hrel
   cases gk with
   | zero => exact absurd HA.out (by simp [awardingbodyref14_Reasons.l0])
   | succ k1 =>
    have H := HA.out
    clear HA
    simp only [awardingbodyref14_Reasons.l0] at H
    by_cases c8 : x10_1 < (l0.length : Int)
    ·rw [if_pos c8] at H
     have c8b0 : decide (x10_1 < (l0.length : Int)) = true := decide_eq_true c8
     clear c8
     by_cases c9 : 0 ≤ x10_1
     ·rw [if_pos c9] at H
      have c9b0 : decide (0 ≤ x10_1) = true := decide_eq_true c9
      clear c9
      replace H := Option.bind_eq_some_iff.mp H
      obtain ⟨t282, A100, H⟩ := H
      replace H : (if t282 = true then (if x9_1.length < 17592186044416 then (awardingbodyref14_Reasons.l0 k1 l0 l1 a2 a3 (x9_1 ++ [x10_1]) (wrap64 (x10_1 + 1))) else (none)) else (awardingbodyref14_Reasons.l0 k1 l0 l1 a2 a3 x9_1 (wrap64 (x10_1 + 1)))) = some r := H
      have A10 := Aside0.mk A100
      clear A100
      by_cases c11 : t282 = true
      ·subst c11
       have H1 : (if x9_1.length < 17592186044416 then (awardingbodyref14_Reasons.l0 k1 l0 l1 a2 a3 (x9_1 ++ [x10_1]) (wrap64 (x10_1 + 1))) else (none)) = some r := by rw [if_pos rfl] at H; exact H
       clear H
       have H := H1
       clear H1
       by_cases c12 : x9_1.length < 17592186044416
       ·rw [if_pos c12] at H
        have LMc12 := Aside0.mk c12
        clear c12
        obtain ⟨y283, hy283⟩ : ∃ y_ : List Int, y_ = (x9_1 ++ [x10_1]) := ⟨_, rfl⟩
        replace H : (awardingbodyref14_Reasons.l0 k1 l0 l1 a2 a3 y283 (wrap64 (x10_1 + 1))) = some r := by first | (rw [hy283]; with_reducible exact H) | (have H2_ := (Option.bind_some _ _).symm.trans H; rw [hy283]; with_reducible exact H2_) | (have H2_ := (Option.bind_some _ _).symm.trans H; with_reducible exact H2_) | with_reducible exact H | (rw [hy283]; exact H) | exact H
        have Ny283 := Aside0.mk hy283
        clear hy283
        have H' := Aside0.mk H
        clear H
        have p281 : 0 ≤ (x10_1 : Int) := of_decide_eq_true (by first | (with_reducible assumption) | assumption)
        have q281 : x10_1 < (l0.length : Int) := of_decide_eq_true (by first | (with_reducible assumption) | assumption)
        obtain ⟨ad281, e281, hx281_0, hx281_1, hx281_2, hx281_3⟩ := at_T28 HR0.out x10_1 p281 q281
        cases e281
        replace hx281_0 := (HB.out.cell (World.block_lt_of_cell? w _ hx281_0)).trans hx281_0
        replace hx281_1 := (HB.out.cell (World.block_lt_of_cell? w _ hx281_1)).trans hx281_1
        replace hx281_2 := (HB.out.cell (World.block_lt_of_cell? w _ hx281_2)).trans hx281_2
        replace hx281_3 := (HB.out.cell (World.block_lt_of_cell? w _ hx281_3)).trans hx281_3
        replace p281 := eq_true p281
        replace q281 := eq_true q281
        go_wp2_with (first | ((with_reducible refine gate_callee (f := 43) rfl ?_); refine goesL_ (some 27) rfl rfl Try.func43 (by kernel_rfl) rfl #[.agg #[.int .i64 ((rd_T28 l0 x10_1).f0), .int .i64 ((rd_T28 l0 x10_1).f1), .int .i64 ((rd_T28 l0 x10_1).f2), .int .i64 ((rd_T28 l0 x10_1).f3)], .slice A1 l1.length c1, .int .i64 a2, .int .i64 a3] rfl (by (try simp only [List.map_toArray, List.map_cons, List.map_nil]); first | done | rfl | (simp only [List.length_drop, List.length_take]; rfl)) ?_; (with_reducible refine (awardingbodyref14_applies.calls k1 ((rd_T28 l0 x10_1).f0) ((rd_T28 l0 x10_1).f1) ((rd_T28 l0 x10_1).f2) ((rd_T28 l0 x10_1).f3) _ _ l1 a2 a3 true _ ?side1 ?side2 A10.out).mono ?_); (case side1 => repeat (first | exact (Kd.C_below HR1.out HB.out) | (with_reducible refine Kd.C_alloc ?_ _) | (with_reducible refine Kd.C_drewN ?_ _) | (with_reducible refine Kd.C_drew ?_))); (case side2 => exact HC1.out); rintro e w13 ⟨rfl, hb⟩; refine ⟨_, rfl, ?_⟩; have n0_ := Aside0.mk (Kd.R_below (by (with_reducible repeat (first | apply Kd.R_alloc | apply Kd.R_drewN | apply Kd.R_drew)); exact HO_9.out) hb); have n1_ := Aside0.mk (below_step (by repeat (first | (with_reducible first | exact HB.out | apply below_alloc | apply pw_below_drewN | apply below_drew1) | exact HB.out)) hb); clear HO_9; clear HB; have HO_9 := n0_; have HB := n1_; clear n0_ n1_; (try clear hb); (try clear hb2); (try clear hk); (try clear hi)) | ((with_reducible refine gate_builtin (b := .append) (xs := #[.tmp 28, .tmp 30]) rfl ?_); at_builtin; refine Kd.R_append (Kd.int .i64) (w0 := w) w.heap.size rfl (.tmp 28) (.tmp 30) 22 3 (.int .i64 0) 8 rfl Try.underlying22 info3 rfl (by decide) (by omega) u9 x9_1 x10_1 [.int .i64 x10_1] (fun _ => True) (fun _ => False) rfl rfl ?aP (fun _ hk => hk.elim) ?aF ?aO ?aB ?aS ?aL ?_; (case aP => exact rfl); (case aB => exact (by repeat (first | (with_reducible first | exact HB.out | apply below_alloc | apply pw_below_drewN | apply below_drew1) | exact HB.out))); (case aF => exact (fun _ _ => trivial)); (case aO => exact (by (with_reducible repeat (first | apply Kd.R_alloc | apply Kd.R_drewN | apply Kd.R_drew)); exact HO_9.out)); (case aS => exact (below_size (by repeat (first | (with_reducible first | exact HB.out | apply below_alloc | apply pw_below_drewN | apply below_drew1) | exact HB.out)))); (case aL => have := LMc12.out; omega); intro v284 w14 ho hb hg hat; rw [← Ny283.out] at ho; have n0_ := Aside0.mk (hb); have n1_ := Aside0.mk (ho); clear HB; clear HO_9; have HB := n0_; have HO285 := n1_; clear n0_ n1_; clear ho hb hg hat))
        go_roundg k1
        case measure => have := HK1.out; omega
        case rel => exact ⟨(y283), (wrap64 (x10_1 + 1)), (by first | rfl | (simp; done) | (simp [*]; done)), H', ⟨by have := HK1.out; omega⟩, ⟨by (with_reducible repeat (first | apply Kd.R_alloc | apply Kd.R_drewN | apply Kd.R_drew)); exact HO285.out⟩, ⟨by repeat (first | (with_reducible first | exact HB.out | apply below_alloc | apply pw_below_drewN | apply below_drew1) | exact HB.out)⟩⟩
       ·rw [if_neg c12] at H
        exact absurd H (by simp)
      ·replace c11 := Bool.eq_false_iff.mpr c11
       subst c11
       have H1 : (awardingbodyref14_Reasons.l0 k1 l0 l1 a2 a3 x9_1 (wrap64 (x10_1 + 1))) = some r := by rw [if_neg (show ¬ (false = true) by decide)] at H; exact H
       clear H
       have H := H1
       clear H1
       have H' := Aside0.mk H
       clear H
       have p281 : 0 ≤ (x10_1 : Int) := of_decide_eq_true (by first | (with_reducible assumption) | assumption)
       have q281 : x10_1 < (l0.length : Int) := of_decide_eq_true (by first | (with_reducible assumption) | assumption)
       obtain ⟨ad281, e281, hx281_0, hx281_1, hx281_2, hx281_3⟩ := at_T28 HR0.out x10_1 p281 q281
       cases e281
       replace hx281_0 := (HB.out.cell (World.block_lt_of_cell? w _ hx281_0)).trans hx281_0
       replace hx281_1 := (HB.out.cell (World.block_lt_of_cell? w _ hx281_1)).trans hx281_1
       replace hx281_2 := (HB.out.cell (World.block_lt_of_cell? w _ hx281_2)).trans hx281_2
       replace hx281_3 := (HB.out.cell (World.block_lt_of_cell? w _ hx281_3)).trans hx281_3
       replace p281 := eq_true p281
       replace q281 := eq_true q281
       go_wp2_with (first | ((with_reducible refine gate_callee (f := 43) rfl ?_); refine goesL_ (some 27) rfl rfl Try.func43 (by kernel_rfl) rfl #[.agg #[.int .i64 ((rd_T28 l0 x10_1).f0), .int .i64 ((rd_T28 l0 x10_1).f1), .int .i64 ((rd_T28 l0 x10_1).f2), .int .i64 ((rd_T28 l0 x10_1).f3)], .slice A1 l1.length c1, .int .i64 a2, .int .i64 a3] rfl (by (try simp only [List.map_toArray, List.map_cons, List.map_nil]); first | done | rfl | (simp only [List.length_drop, List.length_take]; rfl)) ?_; (with_reducible refine (awardingbodyref14_applies.calls k1 ((rd_T28 l0 x10_1).f0) ((rd_T28 l0 x10_1).f1) ((rd_T28 l0 x10_1).f2) ((rd_T28 l0 x10_1).f3) _ _ l1 a2 a3 false _ ?side1 ?side2 A10.out).mono ?_); (case side1 => repeat (first | exact (Kd.C_below HR1.out HB.out) | (with_reducible refine Kd.C_alloc ?_ _) | (with_reducible refine Kd.C_drewN ?_ _) | (with_reducible refine Kd.C_drew ?_))); (case side2 => exact HC1.out); rintro e w15 ⟨rfl, hb⟩; refine ⟨_, rfl, ?_⟩; have n0_ := Aside0.mk (Kd.R_below (by (with_reducible repeat (first | apply Kd.R_alloc | apply Kd.R_drewN | apply Kd.R_drew)); exact HO_9.out) hb); have n1_ := Aside0.mk (below_step (by repeat (first | (with_reducible first | exact HB.out | apply below_alloc | apply pw_below_drewN | apply below_drew1) | exact HB.out)) hb); clear HO_9; clear HB; have HO_9 := n0_; have HB := n1_; clear n0_ n1_; (try clear hb); (try clear hb2); (try clear hk); (try clear hi)))
       go_roundg k1
       case measure => have := HK1.out; omega
       case rel => exact ⟨(x9_1), (wrap64 (x10_1 + 1)), (by first | rfl | (simp; done) | (simp [*]; done)), H', ⟨by have := HK1.out; omega⟩, ⟨by (with_reducible repeat (first | apply Kd.R_alloc | apply Kd.R_drewN | apply Kd.R_drew)); exact HO_9.out⟩, ⟨by repeat (first | (with_reducible first | exact HB.out | apply below_alloc | apply pw_below_drewN | apply below_drew1) | exact HB.out)⟩⟩
     ·rw [if_neg c9] at H
      exact absurd H (by simp)
    ·rw [if_neg c8] at H
     have c8b0 : decide (x10_1 < (l0.length : Int)) = false := decide_eq_false c8
     clear c8
     obtain rfl := Option.some.inj H
     go_wp2
     go_ret
     exact ⟨_, by first | rfl | (simp [errW_none, errW_some] <;> rfl) | (simp [*, errW_none, errW_some] <;> rfl), by (with_reducible repeat (first | apply Kd.R_alloc | apply Kd.R_drewN | apply Kd.R_drew)); exact HO_9.out, by repeat (first | (with_reducible first | exact HB.out | apply below_alloc | apply pw_below_drewN | apply below_drew1) | exact HB.out)⟩
 ·rw [if_neg c6] at H
  have c6b0 : (t280 == 0) = false := beq_eq_false_iff_ne.mpr c6
  have c6b1 : (t280 != 0) = true := bne_iff_ne.mpr c6
  obtain rfl := Option.some.inj H
  go_enter Try.func23, Try.ntmps23
  go_wp2_with (first | ((with_reducible refine gate_callee (f := 15) rfl ?_); refine goesL_ (some 12) rfl rfl Try.func15 (by kernel_rfl) rfl #[.slice A0 l0.length c0] rfl (by (try simp only [List.map_toArray, List.map_cons, List.map_nil]); first | done | rfl | (simp only [List.length_drop, List.length_take]; rfl)) ?_; (with_reducible refine (awardingbodyref14_Check.calls k _ _ l0 t280 _ ?side1 ?side2 A5.out).mono ?_); (case side1 => repeat (first | exact HR0.out | (with_reducible refine Kd.C_alloc ?_ _) | (with_reducible refine Kd.C_drewN ?_ _) | (with_reducible refine Kd.C_drew ?_))); (case side2 => exact HC0.out); rintro e w16 ⟨rfl, hb⟩; refine ⟨_, rfl, ?_⟩; have n0_ := Aside0.mk (below_step (by repeat (first | (with_reducible first | exact HB.out | apply below_alloc | apply pw_below_drewN | apply below_drew1) | exact HB.out)) hb); clear HB; have HB := n0_; clear n0_; (try clear hb); (try clear hb2); (try clear hk); (try clear hi)))
  go_ret
  exact ⟨_, by first | rfl | (simp [errW_none, errW_some] <;> rfl) | (simp [*, errW_none, errW_some] <;> rfl), by first | exact Kd.R_nil _ _ _ _ _ | exact Kd.N_nil _ _ _ _ _ | exact Kd.V_nil _ _ _ _ _ | exact Kd.Q_nil _ _ _ _ _ | exact Kd.S_nil _ _ _ _ _, by repeat (first | (with_reducible first | exact HB.out | apply below_alloc | apply pw_below_drewN | apply below_drew1) | exact HB.out)⟩

end Go.Proofs.Ytbgeoadaeihgkaa.Print
