-- Printed by a program of this session (wip/own_print.py) out of the translation; Lean checks it.
import Derived.Test.YtinmdoemkejanaaPrint0
import Derived.Test.YtinmdoemkejanaaPrint19
namespace Go.Proofs.Ytinmdoemkejanaa.Print
open Go.RowKit Go.Proofs.YtinmdoemkejanaaW.PrintWords Go.Proofs.YtinmdoemkejanaaW.PrintLast Go.Proofs.YtinmdoemkejanaaW.PrintMore
attribute [local go_sem] max2_int min2_int max_two min_two max_three min_three max_four min_four   -- for this text's walks alone
set_option linter.unusedVariables false
set_option linter.unusedSimpArgs false

/-! ### item_Choices: function 34 -/
def item_Choices.l0 : Nat → List Int → List (S23) → Int → Int → Option (List Int)
  | 0, _, _, _, _ => none
  | k + 1, x3, x10, x11, x12 => if x12 < x11 then (if 0 ≤ x12 then (if x12 < (x10.length : Int) then (if ((rd_T23 x10 x12).f0) = 2 then (if x3.length < 17592186044416 then (item_Choices.l0 k (x3 ++ [x12]) x10 x11 (wrap64 (x12 + 1))) else (none)) else (item_Choices.l0 k x3 x10 x11 (wrap64 (x12 + 1)))) else (none)) else (none)) else (some x3)
def item_Choices.f (k : Nat) (a0_0 : Int) (a0_1 : Int) (l0_2 : List (S23)) : Option (List Int) := (item_ValidPaper.f k a0_0 a0_1 l0_2).bind fun t580 => (if t580 = true then (item_Choices.l0 k ([] : List Int) l0_2 (l0_2.length : Int) 0) else (some ([] : List Int)))
theorem item_Choices.mono_l : ∀ k, (∀ y0 y1 y2 y3, LeO (item_Choices.l0 k y0 y1 y2 y3) (item_Choices.l0 (k + 1) y0 y1 y2 y3))
  | 0 => fun _ _ _ _ r h => by simp [item_Choices.l0] at h
  | k + 1 => by
    have ih0 := item_Choices.mono_l k
    · intro y0 y1 y2 y3
      unfold item_Choices.l0
      repeat' first
      | (with_reducible exact ih0 _ _ _ _)
      | (with_reducible exact item_ValidPaper.mono _ _ _ _)
      | (with_reducible exact LeO.refl _)
      | (with_reducible exact LeO.none _)
      | (with_reducible refine LeO.ite ?_ ?_)
      | (with_reducible refine LeO.bind ?_ (fun _ => ?_))
      | exact ih0 _ _ _ _
      | exact item_ValidPaper.mono _ _ _ _
      | exact LeO.none _
      | refine LeO.ite ?_ ?_
      | refine LeO.bind ?_ (fun _ => ?_)
theorem item_Choices.mono : ∀ a0 a1 a2 k, LeO (item_Choices.f k a0 a1 a2) (item_Choices.f (k + 1) a0 a1 a2) := by
  intro a0 a1 a2 k
  have ih0 := item_Choices.mono_l k
  unfold item_Choices.f
  repeat' first
      | (with_reducible exact ih0 _ _ _ _)
      | (with_reducible exact item_ValidPaper.mono _ _ _ _)
      | (with_reducible exact LeO.refl _)
      | (with_reducible exact LeO.none _)
      | (with_reducible refine LeO.ite ?_ ?_)
      | (with_reducible refine LeO.bind ?_ (fun _ => ?_))
      | exact ih0 _ _ _ _
      | exact item_ValidPaper.mono _ _ _ _
      | exact LeO.none _
      | refine LeO.ite ?_ ?_
      | refine LeO.bind ?_ (fun _ => ?_)
set_option maxHeartbeats 8000000 in
set_option maxRecDepth 100000 in
theorem item_Choices.calls (k : Nat) (a0_0 : Int) (a0_1 : Int) (A0_2 : Option Addr) (c0_2 : Nat) (l0_2 : List (S23)) (r : List Int) (w : World) (hr0_2 : Kd.C k23 w A0_2 l0_2.length l0_2) (hc0_2 : l0_2.length ≤ c0_2) (h : item_Choices.f k a0_0 a0_1 l0_2 = some r) :
    Calls Try.prog 34 #[.agg #[.int .i64 a0_0, .int .i64 a0_1, .slice A0_2 l0_2.length c0_2]] w fun e w' => ∃ v0_ : Value, e = .returned (v0_) ∧ Kd.R (Kd.int .i64) 3 w' w.heap.size (fun _ => True) v0_ r ∧ Below w.heap.size w w' := by
 have hu45 := Try.underlying45
 have hu23 := Try.underlying23
 have HR0_2 := Aside0.mk hr0_2
 have HC0_2 := Aside0.mk hc0_2
 clear hr0_2 hc0_2
 have HB := Aside0.mk (Below.refl w.heap.size w)
 have H : ((item_ValidPaper.f k a0_0 a0_1 l0_2).bind fun t580 => (if t580 = true then (item_Choices.l0 k ([] : List Int) l0_2 (l0_2.length : Int) 0) else (some ([] : List Int)))) = some r := h
 clear h
 replace H := Option.bind_eq_some_iff.mp H
 obtain ⟨t580, A20, H⟩ := H
 replace H : (if t580 = true then (item_Choices.l0 k ([] : List Int) l0_2 (l0_2.length : Int) 0) else (some ([] : List Int))) = some r := H
 have A2 := Aside0.mk A20
 clear A20
 by_cases c3 : t580 = true
 ·subst c3
  have H1 : (item_Choices.l0 k ([] : List Int) l0_2 (l0_2.length : Int) 0) = some r := by rw [if_pos rfl] at H; exact H
  clear H
  have H := H1
  clear H1
  have H' := Aside0.mk H
  clear H
  go_enter Try.func34, Try.ntmps34
  go_wp2_with (first | ((with_reducible refine gate_dst (N := 1) rfl ?_); refine box_event ?hg (N := 1) ?hd (cs := #[.int .i64 a0_0, .int .i64 a0_1, .slice A0_2 l0_2.length c0_2]) (t := 45) ?hr ?_; (case hd => rfl); (case hg => rfl); (case hr => first | (go_simp; done) | (go_simp; rfl)); intro gb579 hg w4 hbox hb; have n0_ := Aside0.mk (below_step (by repeat (first | (with_reducible first | exact HB.out | apply below_alloc | apply pw_below_drewN | apply below_drew1) | exact HB.out)) hb); have n1_ := Aside0.mk (hbox); have n2_ := Aside0.mk ((by rw [hg]; exact (below_size (by repeat (first | (with_reducible first | exact HB.out | apply below_alloc | apply pw_below_drewN | apply below_drew1) | exact HB.out))) : w.heap.size ≤ gb579)); have n3_ := Aside0.mk ((by rw [hg]; exact (below_size (by repeat (first | (with_reducible first | exact HB.out | apply below_alloc | apply pw_below_drewN | apply below_drew1) | exact HB.out))) : w.heap.size ≤ gb579)); clear HB; have HB := n0_; have BK579 := n1_; have GW579 := n2_; have GE579 := n3_; clear n0_ n1_ n2_ n3_ hb hbox hg; have hcz5_0 : w4.cell? ⟨gb579, 0, none⟩ = some (.int .i64 a0_0) := (blk_cell BK579.out 0).trans rfl; have hcz5_1 : w4.cell? ⟨gb579, 1, none⟩ = some (.int .i64 a0_1) := (blk_cell BK579.out 1).trans rfl; have hcz5_2 : w4.cell? ⟨gb579, 2, none⟩ = some (.slice A0_2 l0_2.length c0_2) := (blk_cell BK579.out 2).trans rfl; have hfz5_0 := blk_frozen BK579.out 0; have hfz5_1 := blk_frozen BK579.out 1; have hfz5_2 := blk_frozen BK579.out 2) | ((with_reducible refine gate_callee (f := 27) rfl ?_); refine goesL_ (some 7) rfl rfl Try.func27 (by kernel_rfl) rfl #[.agg #[.int .i64 a0_0, .int .i64 a0_1, .slice A0_2 l0_2.length c0_2]] rfl (by (try simp only [List.map_toArray, List.map_cons, List.map_nil]); first | done | rfl | (simp only [List.length_drop, List.length_take]; rfl)) ?_; (with_reducible refine (item_ValidPaper.calls k a0_0 a0_1 _ _ l0_2 true _ ?side1 ?side2 A2.out).mono ?_); (case side1 => repeat (first | exact (Kd.C_below HR0_2.out HB.out) | (with_reducible refine Kd.C_alloc ?_ _) | (with_reducible refine Kd.C_drewN ?_ _) | (with_reducible refine Kd.C_drew ?_))); (case side2 => exact HC0_2.out); rintro e w6 ⟨rfl, hb⟩; refine ⟨_, rfl, ?_⟩; have n0_ := Aside0.mk (blk_below (g := gb579) (o := .cells #[.int .i64 a0_0, .int .i64 a0_1, .slice A0_2 l0_2.length c0_2] 45 (0, 0)) (by (with_reducible repeat (first | refine blk_drewN ?_ _ | refine blk_drew ?_ | refine blk_alloc ?_ _)); exact BK579.out) hb); have n1_ := Aside0.mk (below_step (by repeat (first | (with_reducible first | exact HB.out | apply below_alloc | apply pw_below_drewN | apply below_drew1 | refine below_set ?_ GE579.out) | exact HB.out)) hb); clear BK579 HB; have BK579 := n0_; have HB := n1_; clear n0_ n1_; (try clear hb); (try clear hb2); (try clear hk); (try clear hi); have hcz7_0 : w6.cell? ⟨gb579, 0, none⟩ = some (.int .i64 a0_0) := (blk_cell BK579.out 0).trans rfl; have hcz7_1 : w6.cell? ⟨gb579, 1, none⟩ = some (.int .i64 a0_1) := (blk_cell BK579.out 1).trans rfl; have hcz7_2 : w6.cell? ⟨gb579, 2, none⟩ = some (.slice A0_2 l0_2.length c0_2) := (blk_cell BK579.out 2).trans rfl; have hfz7_0 := blk_frozen BK579.out 0; have hfz7_1 := blk_frozen BK579.out 1; have hfz7_2 := blk_frozen BK579.out 2))
  go_loopg [3, 12] k (fun kq v3 v12 w' => ∃ (x3_1 : List Int) (x12_1 : Int), v12 = .int .i64 x12_1 ∧ Aside0 (item_Choices.l0 kq x3_1 l0_2 (l0_2.length : Int) x12_1 = some r) ∧ Aside0 (kq ≤ k) ∧ Aside0 (Kd.R (Kd.int .i64) 3 w' w.heap.size (fun _ => True) v3 x3_1) ∧ Aside0 (w'.heap[gb579]? = some (.cells #[.int .i64 a0_0, .int .i64 a0_1, (.slice A0_2 l0_2.length c0_2)] 45 (0, 0))) ∧ Aside0 (Below w.heap.size w w'))
  case atStart => exact ⟨(([] : List Int)), (0), (by first | rfl | (simp; done) | (simp [*]; done)), H', ⟨Nat.le_refl _⟩, ⟨by first | exact Kd.R_nil _ _ _ _ _ | exact Kd.N_nil _ _ _ _ _ | exact Kd.V_nil _ _ _ _ _ | exact Kd.Q_nil _ _ _ _ _ | exact Kd.S_nil _ _ _ _ _⟩, ⟨by (with_reducible repeat (first | refine blk_drewN ?_ _ | refine blk_drew ?_ | refine blk_alloc ?_ _)); exact BK579.out⟩, ⟨by repeat (first | (with_reducible first | exact HB.out | apply below_alloc | apply pw_below_drewN | apply below_drew1 | refine below_set ?_ GE579.out) | exact HB.out)⟩⟩
  case round =>
   clear H'
   try clear c2
   try clear p2
   try clear c3
   try clear hcz5_0
   try clear hcz5_1
   try clear hcz5_2
   try clear hcz7_0
   try clear hcz7_1
   try clear hcz7_2
   try clear hfz5_0
   try clear hfz5_1
   try clear hfz5_2
   try clear hfz7_0
   try clear hfz7_1
   try clear hfz7_2
   obtain ⟨x3_1, x12_1, rfl, HA, HK1, HO_3, BK579, HB⟩ := hrel
   cases gk with
   | zero => exact absurd HA.out (by simp [item_Choices.l0])
   | succ k1 =>
    have H := HA.out
    clear HA
    simp only [item_Choices.l0] at H
    by_cases c8 : x12_1 < (l0_2.length : Int)
    ·rw [if_pos c8] at H
     have c8b0 : decide (x12_1 < (l0_2.length : Int)) = true := decide_eq_true c8
     clear c8
     by_cases c9 : 0 ≤ x12_1
     ·rw [if_pos c9] at H
      have c9b0 : decide (0 ≤ x12_1) = true := decide_eq_true c9
      clear c9
      by_cases c10 : x12_1 < (l0_2.length : Int)
      ·rw [if_pos c10] at H
       have c10b0 : decide (x12_1 < (l0_2.length : Int)) = true := decide_eq_true c10
       clear c10
       by_cases c11 : ((rd_T23 l0_2 x12_1).f0) = 2
       ·rw [if_pos c11] at H
        have c11b0 : (((rd_T23 l0_2 x12_1).f0) == 2) = true := beq_iff_eq.mpr c11
        have c11b1 : (((rd_T23 l0_2 x12_1).f0) != 2) = false := bne_eq_false_iff_eq.mpr c11
        clear c11
        by_cases c12 : x3_1.length < 17592186044416
        ·rw [if_pos c12] at H
         have LMc12 := Aside0.mk c12
         clear c12
         obtain ⟨y583, hy583⟩ : ∃ y_ : List Int, y_ = (x3_1 ++ [x12_1]) := ⟨_, rfl⟩
         replace H : (item_Choices.l0 k1 y583 l0_2 (l0_2.length : Int) (wrap64 (x12_1 + 1))) = some r := by first | (rw [hy583]; with_reducible exact H) | (have H2_ := (Option.bind_some _ _).symm.trans H; rw [hy583]; with_reducible exact H2_) | (have H2_ := (Option.bind_some _ _).symm.trans H; with_reducible exact H2_) | with_reducible exact H | (rw [hy583]; exact H) | exact H
         have Ny583 := Aside0.mk hy583
         clear hy583
         have H' := Aside0.mk H
         clear H
         have p581 : 0 ≤ (x12_1 : Int) := of_decide_eq_true (by first | (with_reducible assumption) | assumption)
         have q581 : x12_1 < (l0_2.length : Int) := of_decide_eq_true (by first | (with_reducible assumption) | assumption)
         obtain ⟨ad581, e581, hx581_0, hx581_1, hx581_2, hx581_3, hx581_4, hx581_5⟩ := at_T23 HR0_2.out x12_1 p581 q581
         cases e581
         replace hx581_0 := (HB.out.cell (World.block_lt_of_cell? w _ hx581_0)).trans hx581_0
         replace hx581_1 := (HB.out.cell (World.block_lt_of_cell? w _ hx581_1)).trans hx581_1
         replace hx581_2 := (HB.out.cell (World.block_lt_of_cell? w _ hx581_2)).trans hx581_2
         replace hx581_3 := (HB.out.cell (World.block_lt_of_cell? w _ hx581_3)).trans hx581_3
         replace hx581_4 := (HB.out.cell (World.block_lt_of_cell? w _ hx581_4)).trans hx581_4
         replace hx581_5 := (HB.out.cell (World.block_lt_of_cell? w _ hx581_5)).trans hx581_5
         replace p581 := eq_true p581
         replace q581 := eq_true q581
         go_wp2_with (first | ((with_reducible refine gate_dst (N := 5) rfl ?_); refine box_event ?hg (N := 5) ?hd (cs := #[.int .i64 0, .int .i64 0, .int .i64 0, .int .i64 0, .int .i64 0, .int .i64 0]) (t := 23) ?hr ?_; (case hd => rfl); (case hg => rfl); (case hr => first | (go_simp; done) | (go_simp; rfl)); intro gb582 hg w13 hbox hb; have n0_ := Aside0.mk (Kd.R_below (by (with_reducible repeat (first | apply Kd.R_alloc | apply Kd.R_drewN | apply Kd.R_drew)); exact HO_3.out) hb); have n1_ := Aside0.mk (blk_below (g := gb579) (o := .cells #[.int .i64 a0_0, .int .i64 a0_1, .slice (some ad581) l0_2.length c0_2] 45 (0, 0)) (by (with_reducible repeat (first | refine blk_drewN ?_ _ | refine blk_drew ?_ | refine blk_alloc ?_ _)); exact BK579.out) hb); have n2_ := Aside0.mk (below_step (by repeat (first | (with_reducible first | exact HB.out | apply below_alloc | apply pw_below_drewN | apply below_drew1 | refine below_set ?_ GE579.out) | exact HB.out)) hb); have n3_ := Aside0.mk (hbox); have n4_ := Aside0.mk ((by rw [hg]; exact (below_size (by repeat (first | (with_reducible first | exact HB.out | apply below_alloc | apply pw_below_drewN | apply below_drew1 | refine below_set ?_ GE579.out) | exact HB.out))) : w.heap.size ≤ gb582)); have n5_ := Aside0.mk ((by rw [hg]; exact (below_size (by repeat (first | (with_reducible first | exact HB.out | apply below_alloc | apply pw_below_drewN | apply below_drew1 | refine below_set ?_ GE579.out) | exact HB.out))) : w.heap.size ≤ gb582)); have n6_ := Aside0.mk ((by rw [hg]; exact Nat.ne_of_lt (blk_lt (g := gb579) (o := .cells #[.int .i64 a0_0, .int .i64 a0_1, .slice (some ad581) l0_2.length c0_2] 45 (0, 0)) (by (with_reducible repeat (first | refine blk_drewN ?_ _ | refine blk_drew ?_ | refine blk_alloc ?_ _)); exact BK579.out)) : gb579 ≠ gb582)); have n7_ := Aside0.mk ((by rw [hg]; exact Nat.ne_of_gt (blk_lt (g := gb579) (o := .cells #[.int .i64 a0_0, .int .i64 a0_1, .slice (some ad581) l0_2.length c0_2] 45 (0, 0)) (by (with_reducible repeat (first | refine blk_drewN ?_ _ | refine blk_drew ?_ | refine blk_alloc ?_ _)); exact BK579.out)) : gb582 ≠ gb579)); clear HO_3 BK579 HB; have HO_3 := n0_; have BK579 := n1_; have HB := n2_; have BK582 := n3_; have GW582 := n4_; have GE582 := n5_; have NB579_582 := n6_; have NB582_579 := n7_; clear n0_ n1_ n2_ n3_ n4_ n5_ n6_ n7_ hb hbox hg; have hnb14 := NB582_579.out; have hnc14 := NB579_582.out; have hcz15_0 : w13.cell? ⟨gb582, 0, none⟩ = some (.int .i64 0) := (blk_cell BK582.out 0).trans rfl; have hcz15_1 : w13.cell? ⟨gb582, 1, none⟩ = some (.int .i64 0) := (blk_cell BK582.out 1).trans rfl; have hcz15_2 : w13.cell? ⟨gb582, 2, none⟩ = some (.int .i64 0) := (blk_cell BK582.out 2).trans rfl; have hcz15_3 : w13.cell? ⟨gb582, 3, none⟩ = some (.int .i64 0) := (blk_cell BK582.out 3).trans rfl; have hcz15_4 : w13.cell? ⟨gb582, 4, none⟩ = some (.int .i64 0) := (blk_cell BK582.out 4).trans rfl; have hcz15_5 : w13.cell? ⟨gb582, 5, none⟩ = some (.int .i64 0) := (blk_cell BK582.out 5).trans rfl; have hfz15_0 := blk_frozen BK582.out 0; have hfz15_1 := blk_frozen BK582.out 1; have hfz15_2 := blk_frozen BK582.out 2; have hfz15_3 := blk_frozen BK582.out 3; have hfz15_4 := blk_frozen BK582.out 4; have hfz15_5 := blk_frozen BK582.out 5) | ((with_reducible refine gate_builtin (b := .append) (xs := #[.tmp 20, .tmp 22]) rfl ?_); at_builtin; refine Kd.R_append (Kd.int .i64) (w0 := w) w.heap.size rfl (.tmp 20) (.tmp 22) 28 3 (.int .i64 0) 8 rfl Try.underlying28 info3 rfl (by decide) (by omega) u3 x3_1 x12_1 [.int .i64 x12_1] (fun _ => True) (fun _ => False) rfl (by first | (go_simp; done) | (go_simp; rfl)) ?aP (fun _ hk => hk.elim) ?aF ?aO ?aB ?aS ?aL ?_; (case aP => exact rfl); (case aB => exact (by repeat (first | (with_reducible first | exact HB.out | apply below_alloc | apply pw_below_drewN | apply below_drew1 | refine below_set ?_ GE579.out | refine below_set ?_ GE582.out) | exact HB.out))); (case aF => exact (fun _ _ => trivial)); (case aO => exact (by (with_reducible repeat (first | apply Kd.R_alloc | apply Kd.R_drewN | apply Kd.R_drew)); exact Kd.R_mono (Kd.R_far (p := ⟨gb582, 5, none⟩) (Kd.R_far (p := ⟨gb582, 4, none⟩) (Kd.R_far (p := ⟨gb582, 3, none⟩) (Kd.R_far (p := ⟨gb582, 2, none⟩) (Kd.R_far (p := ⟨gb582, 1, none⟩) (Kd.R_far (p := ⟨gb582, 0, none⟩) (Kd.R_types HO_3.out BK582.out (by decide)) (fun _ hk => hk.2) (.int .i64 ((rd_T23 l0_2 x12_1).f0))) (fun _ hk => hk.2) (.int .i64 ((rd_T23 l0_2 x12_1).f1))) (fun _ hk => hk.2) (.int .i64 ((rd_T23 l0_2 x12_1).f2))) (fun _ hk => hk.2) (.int .i64 ((rd_T23 l0_2 x12_1).f3))) (fun _ hk => hk.2) (.int .i64 ((rd_T23 l0_2 x12_1).f4))) (fun _ hk => hk.2) (.int .i64 ((rd_T23 l0_2 x12_1).f5))) (fun _ hk => trivial))); (case aS => exact (below_size (by repeat (first | (with_reducible first | exact HB.out | apply below_alloc | apply pw_below_drewN | apply below_drew1 | refine below_set ?_ GE579.out | refine below_set ?_ GE582.out) | exact HB.out)))); (case aL => have := LMc12.out; omega); intro v584 w16 ho hb hg hat; rw [← Ny583.out] at ho; have n0_ := Aside0.mk (blk_grown (g := gb579) (o := .cells #[.int .i64 a0_0, .int .i64 a0_1, .slice (some ad581) l0_2.length c0_2] 45 (0, 0)) (by (with_reducible repeat (first | refine blk_drewN ?_ _ | refine blk_drew ?_ | refine blk_alloc ?_ _)); refine blk_far ?_ NB579_582.out _; (with_reducible repeat (first | refine blk_drewN ?_ _ | refine blk_drew ?_ | refine blk_alloc ?_ _)); refine blk_far ?_ NB579_582.out _; (with_reducible repeat (first | refine blk_drewN ?_ _ | refine blk_drew ?_ | refine blk_alloc ?_ _)); refine blk_far ?_ NB579_582.out _; (with_reducible repeat (first | refine blk_drewN ?_ _ | refine blk_drew ?_ | refine blk_alloc ?_ _)); refine blk_far ?_ NB579_582.out _; (with_reducible repeat (first | refine blk_drewN ?_ _ | refine blk_drew ?_ | refine blk_alloc ?_ _)); refine blk_far ?_ NB579_582.out _; (with_reducible repeat (first | refine blk_drewN ?_ _ | refine blk_drew ?_ | refine blk_alloc ?_ _)); refine blk_far ?_ NB579_582.out _; (with_reducible repeat (first | refine blk_drewN ?_ _ | refine blk_drew ?_ | refine blk_alloc ?_ _)); exact BK579.out) hg (Kd.R_ne HO_3.out BK579.out (by decide))); have n1_ := Aside0.mk (blk_grown (g := gb582) (o := .cells #[.int .i64 ((rd_T23 l0_2 x12_1).f0), .int .i64 ((rd_T23 l0_2 x12_1).f1), .int .i64 ((rd_T23 l0_2 x12_1).f2), .int .i64 ((rd_T23 l0_2 x12_1).f3), .int .i64 ((rd_T23 l0_2 x12_1).f4), .int .i64 ((rd_T23 l0_2 x12_1).f5)] 23 (0, 0)) (by (with_reducible repeat (first | refine blk_drewN ?_ _ | refine blk_drew ?_ | refine blk_alloc ?_ _)); refine blk_put (cs := #[.int .i64 ((rd_T23 l0_2 x12_1).f0), .int .i64 ((rd_T23 l0_2 x12_1).f1), .int .i64 ((rd_T23 l0_2 x12_1).f2), .int .i64 ((rd_T23 l0_2 x12_1).f3), .int .i64 ((rd_T23 l0_2 x12_1).f4), .int .i64 0]) ?_ 5 _ rfl; (with_reducible repeat (first | refine blk_drewN ?_ _ | refine blk_drew ?_ | refine blk_alloc ?_ _)); refine blk_put (cs := #[.int .i64 ((rd_T23 l0_2 x12_1).f0), .int .i64 ((rd_T23 l0_2 x12_1).f1), .int .i64 ((rd_T23 l0_2 x12_1).f2), .int .i64 ((rd_T23 l0_2 x12_1).f3), .int .i64 0, .int .i64 0]) ?_ 4 _ rfl; (with_reducible repeat (first | refine blk_drewN ?_ _ | refine blk_drew ?_ | refine blk_alloc ?_ _)); refine blk_put (cs := #[.int .i64 ((rd_T23 l0_2 x12_1).f0), .int .i64 ((rd_T23 l0_2 x12_1).f1), .int .i64 ((rd_T23 l0_2 x12_1).f2), .int .i64 0, .int .i64 0, .int .i64 0]) ?_ 3 _ rfl; (with_reducible repeat (first | refine blk_drewN ?_ _ | refine blk_drew ?_ | refine blk_alloc ?_ _)); refine blk_put (cs := #[.int .i64 ((rd_T23 l0_2 x12_1).f0), .int .i64 ((rd_T23 l0_2 x12_1).f1), .int .i64 0, .int .i64 0, .int .i64 0, .int .i64 0]) ?_ 2 _ rfl; (with_reducible repeat (first | refine blk_drewN ?_ _ | refine blk_drew ?_ | refine blk_alloc ?_ _)); refine blk_put (cs := #[.int .i64 ((rd_T23 l0_2 x12_1).f0), .int .i64 0, .int .i64 0, .int .i64 0, .int .i64 0, .int .i64 0]) ?_ 1 _ rfl; (with_reducible repeat (first | refine blk_drewN ?_ _ | refine blk_drew ?_ | refine blk_alloc ?_ _)); refine blk_put (cs := #[.int .i64 0, .int .i64 0, .int .i64 0, .int .i64 0, .int .i64 0, .int .i64 0]) ?_ 0 _ rfl; (with_reducible repeat (first | refine blk_drewN ?_ _ | refine blk_drew ?_ | refine blk_alloc ?_ _)); exact BK582.out) hg (Kd.R_ne HO_3.out BK582.out (by decide))); have n2_ := Aside0.mk (hb); have n3_ := Aside0.mk (ho); clear BK579 BK582 HB HO_3; have BK579 := n0_; have BK582 := n1_; have HB := n2_; have HO585 := n3_; clear n0_ n1_ n2_ n3_ ho hb hg hat))
         go_roundg k1
         case measure => have := HK1.out; omega
         case rel => exact ⟨(y583), (wrap64 (x12_1 + 1)), (by first | rfl | (simp; done) | (simp [*]; done)), H', ⟨by have := HK1.out; omega⟩, ⟨by (with_reducible repeat (first | apply Kd.R_alloc | apply Kd.R_drewN | apply Kd.R_drew)); exact HO585.out⟩, ⟨by (with_reducible repeat (first | refine blk_drewN ?_ _ | refine blk_drew ?_ | refine blk_alloc ?_ _)); exact BK579.out⟩, ⟨by repeat (first | (with_reducible first | exact HB.out | apply below_alloc | apply pw_below_drewN | apply below_drew1 | refine below_set ?_ GE579.out | refine below_set ?_ GE582.out) | exact HB.out)⟩⟩
        ·rw [if_neg c12] at H
         exact absurd H (by simp)
       ·rw [if_neg c11] at H
        have c11b0 : (((rd_T23 l0_2 x12_1).f0) == 2) = false := beq_eq_false_iff_ne.mpr c11
        have c11b1 : (((rd_T23 l0_2 x12_1).f0) != 2) = true := bne_iff_ne.mpr c11
        have H' := Aside0.mk H
        clear H
        have p581 : 0 ≤ (x12_1 : Int) := of_decide_eq_true (by first | (with_reducible assumption) | assumption)
        have q581 : x12_1 < (l0_2.length : Int) := of_decide_eq_true (by first | (with_reducible assumption) | assumption)
        obtain ⟨ad581, e581, hx581_0, hx581_1, hx581_2, hx581_3, hx581_4, hx581_5⟩ := at_T23 HR0_2.out x12_1 p581 q581
        cases e581
        replace hx581_0 := (HB.out.cell (World.block_lt_of_cell? w _ hx581_0)).trans hx581_0
        replace hx581_1 := (HB.out.cell (World.block_lt_of_cell? w _ hx581_1)).trans hx581_1
        replace hx581_2 := (HB.out.cell (World.block_lt_of_cell? w _ hx581_2)).trans hx581_2
        replace hx581_3 := (HB.out.cell (World.block_lt_of_cell? w _ hx581_3)).trans hx581_3
        replace hx581_4 := (HB.out.cell (World.block_lt_of_cell? w _ hx581_4)).trans hx581_4
        replace hx581_5 := (HB.out.cell (World.block_lt_of_cell? w _ hx581_5)).trans hx581_5
        replace p581 := eq_true p581
        replace q581 := eq_true q581
        go_wp2_with (first | ((with_reducible refine gate_dst (N := 5) rfl ?_); refine box_event ?hg (N := 5) ?hd (cs := #[.int .i64 0, .int .i64 0, .int .i64 0, .int .i64 0, .int .i64 0, .int .i64 0]) (t := 23) ?hr ?_; (case hd => rfl); (case hg => rfl); (case hr => first | (go_simp; done) | (go_simp; rfl)); intro gb582 hg w17 hbox hb; have n0_ := Aside0.mk (Kd.R_below (by (with_reducible repeat (first | apply Kd.R_alloc | apply Kd.R_drewN | apply Kd.R_drew)); exact HO_3.out) hb); have n1_ := Aside0.mk (blk_below (g := gb579) (o := .cells #[.int .i64 a0_0, .int .i64 a0_1, .slice (some ad581) l0_2.length c0_2] 45 (0, 0)) (by (with_reducible repeat (first | refine blk_drewN ?_ _ | refine blk_drew ?_ | refine blk_alloc ?_ _)); exact BK579.out) hb); have n2_ := Aside0.mk (below_step (by repeat (first | (with_reducible first | exact HB.out | apply below_alloc | apply pw_below_drewN | apply below_drew1 | refine below_set ?_ GE579.out) | exact HB.out)) hb); have n3_ := Aside0.mk (hbox); have n4_ := Aside0.mk ((by rw [hg]; exact (below_size (by repeat (first | (with_reducible first | exact HB.out | apply below_alloc | apply pw_below_drewN | apply below_drew1 | refine below_set ?_ GE579.out) | exact HB.out))) : w.heap.size ≤ gb582)); have n5_ := Aside0.mk ((by rw [hg]; exact (below_size (by repeat (first | (with_reducible first | exact HB.out | apply below_alloc | apply pw_below_drewN | apply below_drew1 | refine below_set ?_ GE579.out) | exact HB.out))) : w.heap.size ≤ gb582)); have n6_ := Aside0.mk ((by rw [hg]; exact Nat.ne_of_lt (blk_lt (g := gb579) (o := .cells #[.int .i64 a0_0, .int .i64 a0_1, .slice (some ad581) l0_2.length c0_2] 45 (0, 0)) (by (with_reducible repeat (first | refine blk_drewN ?_ _ | refine blk_drew ?_ | refine blk_alloc ?_ _)); exact BK579.out)) : gb579 ≠ gb582)); have n7_ := Aside0.mk ((by rw [hg]; exact Nat.ne_of_gt (blk_lt (g := gb579) (o := .cells #[.int .i64 a0_0, .int .i64 a0_1, .slice (some ad581) l0_2.length c0_2] 45 (0, 0)) (by (with_reducible repeat (first | refine blk_drewN ?_ _ | refine blk_drew ?_ | refine blk_alloc ?_ _)); exact BK579.out)) : gb582 ≠ gb579)); clear HO_3 BK579 HB; have HO_3 := n0_; have BK579 := n1_; have HB := n2_; have BK582 := n3_; have GW582 := n4_; have GE582 := n5_; have NB579_582 := n6_; have NB582_579 := n7_; clear n0_ n1_ n2_ n3_ n4_ n5_ n6_ n7_ hb hbox hg; have hnb18 := NB582_579.out; have hnc18 := NB579_582.out; have hcz19_0 : w17.cell? ⟨gb582, 0, none⟩ = some (.int .i64 0) := (blk_cell BK582.out 0).trans rfl; have hcz19_1 : w17.cell? ⟨gb582, 1, none⟩ = some (.int .i64 0) := (blk_cell BK582.out 1).trans rfl; have hcz19_2 : w17.cell? ⟨gb582, 2, none⟩ = some (.int .i64 0) := (blk_cell BK582.out 2).trans rfl; have hcz19_3 : w17.cell? ⟨gb582, 3, none⟩ = some (.int .i64 0) := (blk_cell BK582.out 3).trans rfl; have hcz19_4 : w17.cell? ⟨gb582, 4, none⟩ = some (.int .i64 0) := (blk_cell BK582.out 4).trans rfl; have hcz19_5 : w17.cell? ⟨gb582, 5, none⟩ = some (.int .i64 0) := (blk_cell BK582.out 5).trans rfl; have hfz19_0 := blk_frozen BK582.out 0; have hfz19_1 := blk_frozen BK582.out 1; have hfz19_2 := blk_frozen BK582.out 2; have hfz19_3 := blk_frozen BK582.out 3; have hfz19_4 := blk_frozen BK582.out 4; have hfz19_5 := blk_frozen BK582.out 5))
        go_roundg k1
        case measure => have := HK1.out; omega
        case rel => exact ⟨(x3_1), (wrap64 (x12_1 + 1)), (by first | rfl | (simp; done) | (simp [*]; done)), H', ⟨by have := HK1.out; omega⟩, ⟨by (with_reducible repeat (first | apply Kd.R_alloc | apply Kd.R_drewN | apply Kd.R_drew)); exact Kd.R_mono (Kd.R_far (p := ⟨gb582, 5, none⟩) (Kd.R_far (p := ⟨gb582, 4, none⟩) (Kd.R_far (p := ⟨gb582, 3, none⟩) (Kd.R_far (p := ⟨gb582, 2, none⟩) (Kd.R_far (p := ⟨gb582, 1, none⟩) (Kd.R_far (p := ⟨gb582, 0, none⟩) (Kd.R_types HO_3.out BK582.out (by decide)) (fun _ hk => hk.2) (.int .i64 ((rd_T23 l0_2 x12_1).f0))) (fun _ hk => hk.2) (.int .i64 ((rd_T23 l0_2 x12_1).f1))) (fun _ hk => hk.2) (.int .i64 ((rd_T23 l0_2 x12_1).f2))) (fun _ hk => hk.2) (.int .i64 ((rd_T23 l0_2 x12_1).f3))) (fun _ hk => hk.2) (.int .i64 ((rd_T23 l0_2 x12_1).f4))) (fun _ hk => hk.2) (.int .i64 ((rd_T23 l0_2 x12_1).f5))) (fun _ hk => trivial)⟩, ⟨by (with_reducible repeat (first | refine blk_drewN ?_ _ | refine blk_drew ?_ | refine blk_alloc ?_ _)); refine blk_far ?_ NB579_582.out _; (with_reducible repeat (first | refine blk_drewN ?_ _ | refine blk_drew ?_ | refine blk_alloc ?_ _)); refine blk_far ?_ NB579_582.out _; (with_reducible repeat (first | refine blk_drewN ?_ _ | refine blk_drew ?_ | refine blk_alloc ?_ _)); refine blk_far ?_ NB579_582.out _; (with_reducible repeat (first | refine blk_drewN ?_ _ | refine blk_drew ?_ | refine blk_alloc ?_ _)); refine blk_far ?_ NB579_582.out _; (with_reducible repeat (first | refine blk_drewN ?_ _ | refine blk_drew ?_ | refine blk_alloc ?_ _)); refine blk_far ?_ NB579_582.out _; (with_reducible repeat (first | refine blk_drewN ?_ _ | refine blk_drew ?_ | refine blk_alloc ?_ _)); refine blk_far ?_ NB579_582.out _; (with_reducible repeat (first | refine blk_drewN ?_ _ | refine blk_drew ?_ | refine blk_alloc ?_ _)); exact BK579.out⟩, ⟨by repeat (first | (with_reducible first | exact HB.out | apply below_alloc | apply pw_below_drewN | apply below_drew1 | refine below_set ?_ GE579.out | refine below_set ?_ GE582.out) | exact HB.out)⟩⟩
      ·rw [if_neg c10] at H
       exact absurd H (by simp)
     ·rw [if_neg c9] at H
      exact absurd H (by simp)
    ·rw [if_neg c8] at H
     have c8b0 : decide (x12_1 < (l0_2.length : Int)) = false := decide_eq_false c8
     clear c8
     obtain rfl := Option.some.inj H
     go_wp2
     go_ret
     exact ⟨_, by first | rfl | (simp [errW_none, errW_some] <;> rfl) | (simp [*, errW_none, errW_some] <;> rfl), by (with_reducible repeat (first | apply Kd.R_alloc | apply Kd.R_drewN | apply Kd.R_drew)); exact HO_3.out, by repeat (first | (with_reducible first | exact HB.out | apply below_alloc | apply pw_below_drewN | apply below_drew1 | refine below_set ?_ GE579.out) | exact HB.out)⟩
 ·replace c3 := Bool.eq_false_iff.mpr c3
  subst c3
  have H1 : (some ([] : List Int)) = some r := by rw [if_neg (show ¬ (false = true) by decide)] at H; exact H
  clear H
  have H := H1
  clear H1
  obtain rfl := Option.some.inj H
  go_enter Try.func34, Try.ntmps34
  go_wp2_with (first | ((with_reducible refine gate_dst (N := 1) rfl ?_); refine box_event ?hg (N := 1) ?hd (cs := #[.int .i64 a0_0, .int .i64 a0_1, .slice A0_2 l0_2.length c0_2]) (t := 45) ?hr ?_; (case hd => rfl); (case hg => rfl); (case hr => first | (go_simp; done) | (go_simp; rfl)); intro gb579 hg w20 hbox hb; have n0_ := Aside0.mk (below_step (by repeat (first | (with_reducible first | exact HB.out | apply below_alloc | apply pw_below_drewN | apply below_drew1) | exact HB.out)) hb); have n1_ := Aside0.mk (hbox); have n2_ := Aside0.mk ((by rw [hg]; exact (below_size (by repeat (first | (with_reducible first | exact HB.out | apply below_alloc | apply pw_below_drewN | apply below_drew1) | exact HB.out))) : w.heap.size ≤ gb579)); have n3_ := Aside0.mk ((by rw [hg]; exact (below_size (by repeat (first | (with_reducible first | exact HB.out | apply below_alloc | apply pw_below_drewN | apply below_drew1) | exact HB.out))) : w.heap.size ≤ gb579)); clear HB; have HB := n0_; have BK579 := n1_; have GW579 := n2_; have GE579 := n3_; clear n0_ n1_ n2_ n3_ hb hbox hg; have hcz21_0 : w20.cell? ⟨gb579, 0, none⟩ = some (.int .i64 a0_0) := (blk_cell BK579.out 0).trans rfl; have hcz21_1 : w20.cell? ⟨gb579, 1, none⟩ = some (.int .i64 a0_1) := (blk_cell BK579.out 1).trans rfl; have hcz21_2 : w20.cell? ⟨gb579, 2, none⟩ = some (.slice A0_2 l0_2.length c0_2) := (blk_cell BK579.out 2).trans rfl; have hfz21_0 := blk_frozen BK579.out 0; have hfz21_1 := blk_frozen BK579.out 1; have hfz21_2 := blk_frozen BK579.out 2) | ((with_reducible refine gate_callee (f := 27) rfl ?_); refine goesL_ (some 7) rfl rfl Try.func27 (by kernel_rfl) rfl #[.agg #[.int .i64 a0_0, .int .i64 a0_1, .slice A0_2 l0_2.length c0_2]] rfl (by (try simp only [List.map_toArray, List.map_cons, List.map_nil]); first | done | rfl | (simp only [List.length_drop, List.length_take]; rfl)) ?_; (with_reducible refine (item_ValidPaper.calls k a0_0 a0_1 _ _ l0_2 false _ ?side1 ?side2 A2.out).mono ?_); (case side1 => repeat (first | exact (Kd.C_below HR0_2.out HB.out) | (with_reducible refine Kd.C_alloc ?_ _) | (with_reducible refine Kd.C_drewN ?_ _) | (with_reducible refine Kd.C_drew ?_))); (case side2 => exact HC0_2.out); rintro e w22 ⟨rfl, hb⟩; refine ⟨_, rfl, ?_⟩; have n0_ := Aside0.mk (blk_below (g := gb579) (o := .cells #[.int .i64 a0_0, .int .i64 a0_1, .slice A0_2 l0_2.length c0_2] 45 (0, 0)) (by (with_reducible repeat (first | refine blk_drewN ?_ _ | refine blk_drew ?_ | refine blk_alloc ?_ _)); exact BK579.out) hb); have n1_ := Aside0.mk (below_step (by repeat (first | (with_reducible first | exact HB.out | apply below_alloc | apply pw_below_drewN | apply below_drew1 | refine below_set ?_ GE579.out) | exact HB.out)) hb); clear BK579 HB; have BK579 := n0_; have HB := n1_; clear n0_ n1_; (try clear hb); (try clear hb2); (try clear hk); (try clear hi)))
  go_ret
  exact ⟨_, by first | rfl | (simp [errW_none, errW_some] <;> rfl) | (simp [*, errW_none, errW_some] <;> rfl), by first | exact Kd.R_nil _ _ _ _ _ | exact Kd.N_nil _ _ _ _ _ | exact Kd.V_nil _ _ _ _ _ | exact Kd.Q_nil _ _ _ _ _ | exact Kd.S_nil _ _ _ _ _, by repeat (first | (with_reducible first | exact HB.out | apply below_alloc | apply pw_below_drewN | apply below_drew1 | refine below_set ?_ GE579.out) | exact HB.out)⟩

/-! ### awardingbodyref06_Choices: function 35 -/
def awardingbodyref06_Choices.l0 : Nat → List Int → Int → Int → Int → List (S23) → Option (List Int)
  | 0, _, _, _, _, _ => none
  | k + 1, x3, x4, x587000, x587001, x587002 => if x4 < (x587002.length : Int) then (if 0 ≤ x4 then (if ((rd_T23 x587002 x4).f0) = 2 then (if x3.length < 17592186044416 then (awardingbodyref06_Choices.l0 k (x3 ++ [x4]) (wrap64 (x4 + 1)) x587000 x587001 x587002) else (none)) else (awardingbodyref06_Choices.l0 k x3 (wrap64 (x4 + 1)) x587000 x587001 x587002)) else (none)) else (some x3)
def awardingbodyref06_Choices.f (k : Nat) (a0_0 : Int) (a0_1 : Int) (l0_2 : List (S23)) : Option (List Int) := (awardingbodyref06_ValidPaper.f k a0_0 a0_1 l0_2).bind fun t587 => (if t587 = true then (awardingbodyref06_Choices.l0 k ([] : List Int) 0 a0_0 a0_1 l0_2) else (some ([] : List Int)))
theorem awardingbodyref06_Choices.mono_l : ∀ k, (∀ y0 y1 y2 y3 y4, LeO (awardingbodyref06_Choices.l0 k y0 y1 y2 y3 y4) (awardingbodyref06_Choices.l0 (k + 1) y0 y1 y2 y3 y4))
  | 0 => fun _ _ _ _ _ r h => by simp [awardingbodyref06_Choices.l0] at h
  | k + 1 => by
    have ih0 := awardingbodyref06_Choices.mono_l k
    · intro y0 y1 y2 y3 y4
      unfold awardingbodyref06_Choices.l0
      repeat' first
      | (with_reducible exact ih0 _ _ _ _ _)
      | (with_reducible exact awardingbodyref06_ValidPaper.mono _ _ _ _)
      | (with_reducible exact LeO.refl _)
      | (with_reducible exact LeO.none _)
      | (with_reducible refine LeO.ite ?_ ?_)
      | (with_reducible refine LeO.bind ?_ (fun _ => ?_))
      | exact ih0 _ _ _ _ _
      | exact awardingbodyref06_ValidPaper.mono _ _ _ _
      | exact LeO.none _
      | refine LeO.ite ?_ ?_
      | refine LeO.bind ?_ (fun _ => ?_)
theorem awardingbodyref06_Choices.mono : ∀ a0 a1 a2 k, LeO (awardingbodyref06_Choices.f k a0 a1 a2) (awardingbodyref06_Choices.f (k + 1) a0 a1 a2) := by
  intro a0 a1 a2 k
  have ih0 := awardingbodyref06_Choices.mono_l k
  unfold awardingbodyref06_Choices.f
  repeat' first
      | (with_reducible exact ih0 _ _ _ _ _)
      | (with_reducible exact awardingbodyref06_ValidPaper.mono _ _ _ _)
      | (with_reducible exact LeO.refl _)
      | (with_reducible exact LeO.none _)
      | (with_reducible refine LeO.ite ?_ ?_)
      | (with_reducible refine LeO.bind ?_ (fun _ => ?_))
      | exact ih0 _ _ _ _ _
      | exact awardingbodyref06_ValidPaper.mono _ _ _ _
      | exact LeO.none _
      | refine LeO.ite ?_ ?_
      | refine LeO.bind ?_ (fun _ => ?_)
set_option maxHeartbeats 8000000 in
set_option maxRecDepth 100000 in
theorem awardingbodyref06_Choices.calls (k : Nat) (a0_0 : Int) (a0_1 : Int) (A0_2 : Option Addr) (c0_2 : Nat) (l0_2 : List (S23)) (r : List Int) (w : World) (hr0_2 : Kd.C k23 w A0_2 l0_2.length l0_2) (hc0_2 : l0_2.length ≤ c0_2) (h : awardingbodyref06_Choices.f k a0_0 a0_1 l0_2 = some r) :
    Calls Try.prog 35 #[.agg #[.int .i64 a0_0, .int .i64 a0_1, .slice A0_2 l0_2.length c0_2]] w fun e w' => ∃ v0_ : Value, e = .returned (v0_) ∧ Kd.R (Kd.int .i64) 3 w' w.heap.size (fun _ => True) v0_ r ∧ Below w.heap.size w w' := by
 have hu45 := Try.underlying45
 have HR0_2 := Aside0.mk hr0_2
 have HC0_2 := Aside0.mk hc0_2
 clear hr0_2 hc0_2
 have HB := Aside0.mk (Below.refl w.heap.size w)
 have H : ((awardingbodyref06_ValidPaper.f k a0_0 a0_1 l0_2).bind fun t587 => (if t587 = true then (awardingbodyref06_Choices.l0 k ([] : List Int) 0 a0_0 a0_1 l0_2) else (some ([] : List Int)))) = some r := h
 clear h
 replace H := Option.bind_eq_some_iff.mp H
 obtain ⟨t587, A20, H⟩ := H
 replace H : (if t587 = true then (awardingbodyref06_Choices.l0 k ([] : List Int) 0 a0_0 a0_1 l0_2) else (some ([] : List Int))) = some r := H
 have A2 := Aside0.mk A20
 clear A20
 by_cases c3 : t587 = true
 ·subst c3
  have H1 : (awardingbodyref06_Choices.l0 k ([] : List Int) 0 a0_0 a0_1 l0_2) = some r := by rw [if_pos rfl] at H; exact H
  clear H
  have H := H1
  clear H1
  have H' := Aside0.mk H
  clear H
  go_enter Try.func35, Try.ntmps35
  go_wp2_with (first | ((with_reducible refine gate_dst (N := 1) rfl ?_); refine box_event ?hg (N := 1) ?hd (cs := #[.int .i64 a0_0, .int .i64 a0_1, .slice A0_2 l0_2.length c0_2]) (t := 45) ?hr ?_; (case hd => rfl); (case hg => rfl); (case hr => first | (go_simp; done) | (go_simp; rfl)); intro gb586 hg w4 hbox hb; have n0_ := Aside0.mk (below_step (by repeat (first | (with_reducible first | exact HB.out | apply below_alloc | apply pw_below_drewN | apply below_drew1) | exact HB.out)) hb); have n1_ := Aside0.mk (hbox); have n2_ := Aside0.mk ((by rw [hg]; exact (below_size (by repeat (first | (with_reducible first | exact HB.out | apply below_alloc | apply pw_below_drewN | apply below_drew1) | exact HB.out))) : w.heap.size ≤ gb586)); have n3_ := Aside0.mk ((by rw [hg]; exact (below_size (by repeat (first | (with_reducible first | exact HB.out | apply below_alloc | apply pw_below_drewN | apply below_drew1) | exact HB.out))) : w.heap.size ≤ gb586)); clear HB; have HB := n0_; have BK586 := n1_; have GW586 := n2_; have GE586 := n3_; clear n0_ n1_ n2_ n3_ hb hbox hg; have hcz5_0 : w4.cell? ⟨gb586, 0, none⟩ = some (.int .i64 a0_0) := (blk_cell BK586.out 0).trans rfl; have hcz5_1 : w4.cell? ⟨gb586, 1, none⟩ = some (.int .i64 a0_1) := (blk_cell BK586.out 1).trans rfl; have hcz5_2 : w4.cell? ⟨gb586, 2, none⟩ = some (.slice A0_2 l0_2.length c0_2) := (blk_cell BK586.out 2).trans rfl; have hfz5_0 := blk_frozen BK586.out 0; have hfz5_1 := blk_frozen BK586.out 1; have hfz5_2 := blk_frozen BK586.out 2) | ((with_reducible refine gate_callee (f := 28) rfl ?_); refine goesL_ (some 6) rfl rfl Try.func28 (by kernel_rfl) rfl #[.agg #[.int .i64 a0_0, .int .i64 a0_1, .slice A0_2 l0_2.length c0_2]] rfl (by (try simp only [List.map_toArray, List.map_cons, List.map_nil]); first | done | rfl | (simp only [List.length_drop, List.length_take]; rfl)) ?_; (with_reducible refine (awardingbodyref06_ValidPaper.calls k a0_0 a0_1 _ _ l0_2 true _ ?side1 ?side2 A2.out).mono ?_); (case side1 => repeat (first | exact (Kd.C_below HR0_2.out HB.out) | (with_reducible refine Kd.C_alloc ?_ _) | (with_reducible refine Kd.C_drewN ?_ _) | (with_reducible refine Kd.C_drew ?_))); (case side2 => exact HC0_2.out); rintro e w6 ⟨rfl, hb⟩; refine ⟨_, rfl, ?_⟩; have n0_ := Aside0.mk (blk_below (g := gb586) (o := .cells #[.int .i64 a0_0, .int .i64 a0_1, .slice A0_2 l0_2.length c0_2] 45 (0, 0)) (by (with_reducible repeat (first | refine blk_drewN ?_ _ | refine blk_drew ?_ | refine blk_alloc ?_ _)); exact BK586.out) hb); have n1_ := Aside0.mk (below_step (by repeat (first | (with_reducible first | exact HB.out | apply below_alloc | apply pw_below_drewN | apply below_drew1 | refine below_set ?_ GE586.out) | exact HB.out)) hb); clear BK586 HB; have BK586 := n0_; have HB := n1_; clear n0_ n1_; (try clear hb); (try clear hb2); (try clear hk); (try clear hi)))
  go_loopg [3, 4] k (fun kq v3 v4 w' => ∃ (x3_1 : List Int) (x4_1 : Int), v4 = .int .i64 x4_1 ∧ Aside0 (awardingbodyref06_Choices.l0 kq x3_1 x4_1 a0_0 a0_1 l0_2 = some r) ∧ Aside0 (kq ≤ k) ∧ Aside0 (Kd.R (Kd.int .i64) 3 w' w.heap.size (fun _ => True) v3 x3_1) ∧ Aside0 (w'.heap[gb586]? = some (.cells #[.int .i64 a0_0, .int .i64 a0_1, (.slice A0_2 l0_2.length c0_2)] 45 (0, 0))) ∧ Aside0 (Below w.heap.size w w'))
  case atStart => exact ⟨(([] : List Int)), (0), (by first | rfl | (simp; done) | (simp [*]; done)), H', ⟨Nat.le_refl _⟩, ⟨by first | exact Kd.R_nil _ _ _ _ _ | exact Kd.N_nil _ _ _ _ _ | exact Kd.V_nil _ _ _ _ _ | exact Kd.Q_nil _ _ _ _ _ | exact Kd.S_nil _ _ _ _ _⟩, ⟨by (with_reducible repeat (first | refine blk_drewN ?_ _ | refine blk_drew ?_ | refine blk_alloc ?_ _)); exact BK586.out⟩, ⟨by repeat (first | (with_reducible first | exact HB.out | apply below_alloc | apply pw_below_drewN | apply below_drew1 | refine below_set ?_ GE586.out) | exact HB.out)⟩⟩
  case round =>
   clear H'
   try clear c2
   try clear p2
   try clear c3
   try clear hcz5_0
   try clear hcz5_1
   try clear hcz5_2
   try clear hfz5_0
   try clear hfz5_1
   try clear hfz5_2
   obtain ⟨x3_1, x4_1, rfl, HA, HK1, HO_3, BK586, HB⟩ := hrel
   cases gk with
   | zero => exact absurd HA.out (by simp [awardingbodyref06_Choices.l0])
   | succ k1 =>
    have H := HA.out
    clear HA
    simp only [awardingbodyref06_Choices.l0] at H
    by_cases c7 : x4_1 < (l0_2.length : Int)
    ·rw [if_pos c7] at H
     have c7b0 : decide (x4_1 < (l0_2.length : Int)) = true := decide_eq_true c7
     clear c7
     by_cases c8 : 0 ≤ x4_1
     ·rw [if_pos c8] at H
      have c8b0 : decide (0 ≤ x4_1) = true := decide_eq_true c8
      clear c8
      by_cases c9 : ((rd_T23 l0_2 x4_1).f0) = 2
      ·rw [if_pos c9] at H
       have c9b0 : (((rd_T23 l0_2 x4_1).f0) == 2) = true := beq_iff_eq.mpr c9
       have c9b1 : (((rd_T23 l0_2 x4_1).f0) != 2) = false := bne_eq_false_iff_eq.mpr c9
       clear c9
       by_cases c10 : x3_1.length < 17592186044416
       ·rw [if_pos c10] at H
        have LMc10 := Aside0.mk c10
        clear c10
        obtain ⟨y589, hy589⟩ : ∃ y_ : List Int, y_ = (x3_1 ++ [x4_1]) := ⟨_, rfl⟩
        replace H : (awardingbodyref06_Choices.l0 k1 y589 (wrap64 (x4_1 + 1)) a0_0 a0_1 l0_2) = some r := by first | (rw [hy589]; with_reducible exact H) | (have H2_ := (Option.bind_some _ _).symm.trans H; rw [hy589]; with_reducible exact H2_) | (have H2_ := (Option.bind_some _ _).symm.trans H; with_reducible exact H2_) | with_reducible exact H | (rw [hy589]; exact H) | exact H
        have Ny589 := Aside0.mk hy589
        clear hy589
        have H' := Aside0.mk H
        clear H
        have hcz11_0 : wr.cell? ⟨gb586, 0, none⟩ = some (.int .i64 a0_0) := (blk_cell BK586.out 0).trans rfl
        have hcz11_1 : wr.cell? ⟨gb586, 1, none⟩ = some (.int .i64 a0_1) := (blk_cell BK586.out 1).trans rfl
        have hcz11_2 : wr.cell? ⟨gb586, 2, none⟩ = some (.slice A0_2 l0_2.length c0_2) := (blk_cell BK586.out 2).trans rfl
        have hfz11_0 := blk_frozen BK586.out 0
        have hfz11_1 := blk_frozen BK586.out 1
        have hfz11_2 := blk_frozen BK586.out 2
        have p588 : 0 ≤ (x4_1 : Int) := of_decide_eq_true (by first | (with_reducible assumption) | assumption)
        have q588 : x4_1 < (l0_2.length : Int) := of_decide_eq_true (by first | (with_reducible assumption) | assumption)
        obtain ⟨ad588, e588, hx588_0, hx588_1, hx588_2, hx588_3, hx588_4, hx588_5⟩ := at_T23 HR0_2.out x4_1 p588 q588
        cases e588
        replace hx588_0 := (HB.out.cell (World.block_lt_of_cell? w _ hx588_0)).trans hx588_0
        replace hx588_1 := (HB.out.cell (World.block_lt_of_cell? w _ hx588_1)).trans hx588_1
        replace hx588_2 := (HB.out.cell (World.block_lt_of_cell? w _ hx588_2)).trans hx588_2
        replace hx588_3 := (HB.out.cell (World.block_lt_of_cell? w _ hx588_3)).trans hx588_3
        replace hx588_4 := (HB.out.cell (World.block_lt_of_cell? w _ hx588_4)).trans hx588_4
        replace hx588_5 := (HB.out.cell (World.block_lt_of_cell? w _ hx588_5)).trans hx588_5
        replace p588 := eq_true p588
        replace q588 := eq_true q588
        go_wp2_with (first | ((with_reducible refine gate_builtin (b := .append) (xs := #[.tmp 22, .tmp 24]) rfl ?_); at_builtin; refine Kd.R_append (Kd.int .i64) (w0 := w) w.heap.size rfl (.tmp 22) (.tmp 24) 28 3 (.int .i64 0) 8 rfl Try.underlying28 info3 rfl (by decide) (by omega) u3 x3_1 x4_1 [.int .i64 x4_1] (fun _ => True) (fun _ => False) rfl rfl ?aP (fun _ hk => hk.elim) ?aF ?aO ?aB ?aS ?aL ?_; (case aP => exact rfl); (case aB => exact (by repeat (first | (with_reducible first | exact HB.out | apply below_alloc | apply pw_below_drewN | apply below_drew1 | refine below_set ?_ GE586.out) | exact HB.out))); (case aF => exact (fun _ _ => trivial)); (case aO => exact (by (with_reducible repeat (first | apply Kd.R_alloc | apply Kd.R_drewN | apply Kd.R_drew)); exact HO_3.out)); (case aS => exact (below_size (by repeat (first | (with_reducible first | exact HB.out | apply below_alloc | apply pw_below_drewN | apply below_drew1 | refine below_set ?_ GE586.out) | exact HB.out)))); (case aL => have := LMc10.out; omega); intro v590 w12 ho hb hg hat; rw [← Ny589.out] at ho; have n0_ := Aside0.mk (blk_grown (g := gb586) (o := .cells #[.int .i64 a0_0, .int .i64 a0_1, .slice (some ad588) l0_2.length c0_2] 45 (0, 0)) (by (with_reducible repeat (first | refine blk_drewN ?_ _ | refine blk_drew ?_ | refine blk_alloc ?_ _)); exact BK586.out) hg (Kd.R_ne HO_3.out BK586.out (by decide))); have n1_ := Aside0.mk (hb); have n2_ := Aside0.mk (ho); clear BK586 HB HO_3; have BK586 := n0_; have HB := n1_; have HO591 := n2_; clear n0_ n1_ n2_ ho hb hg hat))
        go_roundg k1
        case measure => have := HK1.out; omega
        case rel => exact ⟨(y589), (wrap64 (x4_1 + 1)), (by first | rfl | (simp; done) | (simp [*]; done)), H', ⟨by have := HK1.out; omega⟩, ⟨by (with_reducible repeat (first | apply Kd.R_alloc | apply Kd.R_drewN | apply Kd.R_drew)); exact HO591.out⟩, ⟨by (with_reducible repeat (first | refine blk_drewN ?_ _ | refine blk_drew ?_ | refine blk_alloc ?_ _)); exact BK586.out⟩, ⟨by repeat (first | (with_reducible first | exact HB.out | apply below_alloc | apply pw_below_drewN | apply below_drew1 | refine below_set ?_ GE586.out) | exact HB.out)⟩⟩
       ·rw [if_neg c10] at H
        exact absurd H (by simp)
      ·rw [if_neg c9] at H
       have c9b0 : (((rd_T23 l0_2 x4_1).f0) == 2) = false := beq_eq_false_iff_ne.mpr c9
       have c9b1 : (((rd_T23 l0_2 x4_1).f0) != 2) = true := bne_iff_ne.mpr c9
       have H' := Aside0.mk H
       clear H
       have hcz13_0 : wr.cell? ⟨gb586, 0, none⟩ = some (.int .i64 a0_0) := (blk_cell BK586.out 0).trans rfl
       have hcz13_1 : wr.cell? ⟨gb586, 1, none⟩ = some (.int .i64 a0_1) := (blk_cell BK586.out 1).trans rfl
       have hcz13_2 : wr.cell? ⟨gb586, 2, none⟩ = some (.slice A0_2 l0_2.length c0_2) := (blk_cell BK586.out 2).trans rfl
       have hfz13_0 := blk_frozen BK586.out 0
       have hfz13_1 := blk_frozen BK586.out 1
       have hfz13_2 := blk_frozen BK586.out 2
       have p588 : 0 ≤ (x4_1 : Int) := of_decide_eq_true (by first | (with_reducible assumption) | assumption)
       have q588 : x4_1 < (l0_2.length : Int) := of_decide_eq_true (by first | (with_reducible assumption) | assumption)
       obtain ⟨ad588, e588, hx588_0, hx588_1, hx588_2, hx588_3, hx588_4, hx588_5⟩ := at_T23 HR0_2.out x4_1 p588 q588
       cases e588
       replace hx588_0 := (HB.out.cell (World.block_lt_of_cell? w _ hx588_0)).trans hx588_0
       replace hx588_1 := (HB.out.cell (World.block_lt_of_cell? w _ hx588_1)).trans hx588_1
       replace hx588_2 := (HB.out.cell (World.block_lt_of_cell? w _ hx588_2)).trans hx588_2
       replace hx588_3 := (HB.out.cell (World.block_lt_of_cell? w _ hx588_3)).trans hx588_3
       replace hx588_4 := (HB.out.cell (World.block_lt_of_cell? w _ hx588_4)).trans hx588_4
       replace hx588_5 := (HB.out.cell (World.block_lt_of_cell? w _ hx588_5)).trans hx588_5
       replace p588 := eq_true p588
       replace q588 := eq_true q588
       go_wp2
       go_roundg k1
       case measure => have := HK1.out; omega
       case rel => exact ⟨(x3_1), (wrap64 (x4_1 + 1)), (by first | rfl | (simp; done) | (simp [*]; done)), H', ⟨by have := HK1.out; omega⟩, ⟨by (with_reducible repeat (first | apply Kd.R_alloc | apply Kd.R_drewN | apply Kd.R_drew)); exact HO_3.out⟩, ⟨by (with_reducible repeat (first | refine blk_drewN ?_ _ | refine blk_drew ?_ | refine blk_alloc ?_ _)); exact BK586.out⟩, ⟨by repeat (first | (with_reducible first | exact HB.out | apply below_alloc | apply pw_below_drewN | apply below_drew1 | refine below_set ?_ GE586.out) | exact HB.out)⟩⟩
     ·rw [if_neg c8] at H
      exact absurd H (by simp)
    ·rw [if_neg c7] at H
     have c7b0 : decide (x4_1 < (l0_2.length : Int)) = false := decide_eq_false c7
     clear c7
     obtain rfl := Option.some.inj H
     have hcz14_0 : wr.cell? ⟨gb586, 0, none⟩ = some (.int .i64 a0_0) := (blk_cell BK586.out 0).trans rfl
     have hcz14_1 : wr.cell? ⟨gb586, 1, none⟩ = some (.int .i64 a0_1) := (blk_cell BK586.out 1).trans rfl
     have hcz14_2 : wr.cell? ⟨gb586, 2, none⟩ = some (.slice A0_2 l0_2.length c0_2) := (blk_cell BK586.out 2).trans rfl
     have hfz14_0 := blk_frozen BK586.out 0
     have hfz14_1 := blk_frozen BK586.out 1
     have hfz14_2 := blk_frozen BK586.out 2
     go_wp2
     go_ret
     exact ⟨_, by first | rfl | (simp [errW_none, errW_some] <;> rfl) | (simp [*, errW_none, errW_some] <;> rfl), by (with_reducible repeat (first | apply Kd.R_alloc | apply Kd.R_drewN | apply Kd.R_drew)); exact HO_3.out, by repeat (first | (with_reducible first | exact HB.out | apply below_alloc | apply pw_below_drewN | apply below_drew1 | refine below_set ?_ GE586.out) | exact HB.out)⟩
 ·replace c3 := Bool.eq_false_iff.mpr c3
  subst c3
  have H1 : (some ([] : List Int)) = some r := by rw [if_neg (show ¬ (false = true) by decide)] at H; exact H
  clear H
  have H := H1
  clear H1
  obtain rfl := Option.some.inj H
  go_enter Try.func35, Try.ntmps35
  go_wp2_with (first | ((with_reducible refine gate_dst (N := 1) rfl ?_); refine box_event ?hg (N := 1) ?hd (cs := #[.int .i64 a0_0, .int .i64 a0_1, .slice A0_2 l0_2.length c0_2]) (t := 45) ?hr ?_; (case hd => rfl); (case hg => rfl); (case hr => first | (go_simp; done) | (go_simp; rfl)); intro gb586 hg w15 hbox hb; have n0_ := Aside0.mk (below_step (by repeat (first | (with_reducible first | exact HB.out | apply below_alloc | apply pw_below_drewN | apply below_drew1) | exact HB.out)) hb); have n1_ := Aside0.mk (hbox); have n2_ := Aside0.mk ((by rw [hg]; exact (below_size (by repeat (first | (with_reducible first | exact HB.out | apply below_alloc | apply pw_below_drewN | apply below_drew1) | exact HB.out))) : w.heap.size ≤ gb586)); have n3_ := Aside0.mk ((by rw [hg]; exact (below_size (by repeat (first | (with_reducible first | exact HB.out | apply below_alloc | apply pw_below_drewN | apply below_drew1) | exact HB.out))) : w.heap.size ≤ gb586)); clear HB; have HB := n0_; have BK586 := n1_; have GW586 := n2_; have GE586 := n3_; clear n0_ n1_ n2_ n3_ hb hbox hg; have hcz16_0 : w15.cell? ⟨gb586, 0, none⟩ = some (.int .i64 a0_0) := (blk_cell BK586.out 0).trans rfl; have hcz16_1 : w15.cell? ⟨gb586, 1, none⟩ = some (.int .i64 a0_1) := (blk_cell BK586.out 1).trans rfl; have hcz16_2 : w15.cell? ⟨gb586, 2, none⟩ = some (.slice A0_2 l0_2.length c0_2) := (blk_cell BK586.out 2).trans rfl; have hfz16_0 := blk_frozen BK586.out 0; have hfz16_1 := blk_frozen BK586.out 1; have hfz16_2 := blk_frozen BK586.out 2) | ((with_reducible refine gate_callee (f := 28) rfl ?_); refine goesL_ (some 6) rfl rfl Try.func28 (by kernel_rfl) rfl #[.agg #[.int .i64 a0_0, .int .i64 a0_1, .slice A0_2 l0_2.length c0_2]] rfl (by (try simp only [List.map_toArray, List.map_cons, List.map_nil]); first | done | rfl | (simp only [List.length_drop, List.length_take]; rfl)) ?_; (with_reducible refine (awardingbodyref06_ValidPaper.calls k a0_0 a0_1 _ _ l0_2 false _ ?side1 ?side2 A2.out).mono ?_); (case side1 => repeat (first | exact (Kd.C_below HR0_2.out HB.out) | (with_reducible refine Kd.C_alloc ?_ _) | (with_reducible refine Kd.C_drewN ?_ _) | (with_reducible refine Kd.C_drew ?_))); (case side2 => exact HC0_2.out); rintro e w17 ⟨rfl, hb⟩; refine ⟨_, rfl, ?_⟩; have n0_ := Aside0.mk (blk_below (g := gb586) (o := .cells #[.int .i64 a0_0, .int .i64 a0_1, .slice A0_2 l0_2.length c0_2] 45 (0, 0)) (by (with_reducible repeat (first | refine blk_drewN ?_ _ | refine blk_drew ?_ | refine blk_alloc ?_ _)); exact BK586.out) hb); have n1_ := Aside0.mk (below_step (by repeat (first | (with_reducible first | exact HB.out | apply below_alloc | apply pw_below_drewN | apply below_drew1 | refine below_set ?_ GE586.out) | exact HB.out)) hb); clear BK586 HB; have BK586 := n0_; have HB := n1_; clear n0_ n1_; (try clear hb); (try clear hb2); (try clear hk); (try clear hi)))
  go_ret
  exact ⟨_, by first | rfl | (simp [errW_none, errW_some] <;> rfl) | (simp [*, errW_none, errW_some] <;> rfl), by first | exact Kd.R_nil _ _ _ _ _ | exact Kd.N_nil _ _ _ _ _ | exact Kd.V_nil _ _ _ _ _ | exact Kd.Q_nil _ _ _ _ _ | exact Kd.S_nil _ _ _ _ _, by repeat (first | (with_reducible first | exact HB.out | apply below_alloc | apply pw_below_drewN | apply below_drew1 | refine below_set ?_ GE586.out) | exact HB.out)⟩

end Go.Proofs.Ytinmdoemkejanaa.Print
