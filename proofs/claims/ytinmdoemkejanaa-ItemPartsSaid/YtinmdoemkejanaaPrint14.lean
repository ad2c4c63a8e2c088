-- Printed by a program of this session (wip/own_print.py) out of the translation; Lean checks it.
import Derived.Test.YtinmdoemkejanaaPrint0
import Derived.Test.YtinmdoemkejanaaPrint13
namespace Go.Proofs.Ytinmdoemkejanaa.Print
open Go.RowKit Go.Proofs.YtinmdoemkejanaaW.PrintWords Go.Proofs.YtinmdoemkejanaaW.PrintLast Go.Proofs.YtinmdoemkejanaaW.PrintMore
attribute [local go_sem] max2_int min2_int max_two min_two max_three min_three max_four min_four   -- for this text's walks alone
set_option linter.unusedVariables false
set_option linter.unusedSimpArgs false

/-! ### awardingbodyref06_Total: function 22 -/
def awardingbodyref06_Total.l0 : Nat → Int → Int → Int → Int → ByteArray → List (S23) → List Int → Option (Int)
  | 0, _, _, _, _, _, _, _ => none
  | k + 1, x3, x4, x322000, x322001, x322002, x322003, x322004 => if x4 < (x322003.length : Int) then (if 0 ≤ x4 then (awardingbodyref06_Total.l0 k (wrap64 (x3 + ((rd_T23 x322003 x4).f1))) (wrap64 (x4 + 1)) x322000 x322001 x322002 x322003 x322004) else (none)) else (some x3)
def awardingbodyref06_Total.f (k : Nat) (a0_0 : Int) (a0_1 : Int) (a0_2 : ByteArray) (l0_3 : List (S23)) (l0_4 : List Int) : Option (Int) := (awardingbodyref06_Check.f k a0_0 a0_1 a0_2 l0_3 l0_4).bind fun t322 => (if t322 = 0 then (awardingbodyref06_Total.l0 k 0 0 a0_0 a0_1 a0_2 l0_3 l0_4) else (some 0))
theorem awardingbodyref06_Total.mono_l : ∀ k, (∀ y0 y1 y2 y3 y4 y5 y6, LeO (awardingbodyref06_Total.l0 k y0 y1 y2 y3 y4 y5 y6) (awardingbodyref06_Total.l0 (k + 1) y0 y1 y2 y3 y4 y5 y6))
  | 0 => fun _ _ _ _ _ _ _ r h => by simp [awardingbodyref06_Total.l0] at h
  | k + 1 => by
    have ih0 := awardingbodyref06_Total.mono_l k
    · intro y0 y1 y2 y3 y4 y5 y6
      unfold awardingbodyref06_Total.l0
      repeat' first
      | (with_reducible exact ih0 _ _ _ _ _ _ _)
      | (with_reducible exact awardingbodyref06_Check.mono _ _ _ _ _ _)
      | (with_reducible exact LeO.refl _)
      | (with_reducible exact LeO.none _)
      | (with_reducible refine LeO.ite ?_ ?_)
      | (with_reducible refine LeO.bind ?_ (fun _ => ?_))
      | exact ih0 _ _ _ _ _ _ _
      | exact awardingbodyref06_Check.mono _ _ _ _ _ _
      | exact LeO.none _
      | refine LeO.ite ?_ ?_
      | refine LeO.bind ?_ (fun _ => ?_)
theorem awardingbodyref06_Total.mono : ∀ a0 a1 a2 a3 a4 k, LeO (awardingbodyref06_Total.f k a0 a1 a2 a3 a4) (awardingbodyref06_Total.f (k + 1) a0 a1 a2 a3 a4) := by
  intro a0 a1 a2 a3 a4 k
  have ih0 := awardingbodyref06_Total.mono_l k
  unfold awardingbodyref06_Total.f
  repeat' first
      | (with_reducible exact ih0 _ _ _ _ _ _ _)
      | (with_reducible exact awardingbodyref06_Check.mono _ _ _ _ _ _)
      | (with_reducible exact LeO.refl _)
      | (with_reducible exact LeO.none _)
      | (with_reducible refine LeO.ite ?_ ?_)
      | (with_reducible refine LeO.bind ?_ (fun _ => ?_))
      | exact ih0 _ _ _ _ _ _ _
      | exact awardingbodyref06_Check.mono _ _ _ _ _ _
      | exact LeO.none _
      | refine LeO.ite ?_ ?_
      | refine LeO.bind ?_ (fun _ => ?_)
set_option maxHeartbeats 8000000 in
set_option maxRecDepth 100000 in
theorem awardingbodyref06_Total.calls (k : Nat) (a0_0 : Int) (a0_1 : Int) (a0_2 : ByteArray) (A0_3 : Option Addr) (c0_3 : Nat) (l0_3 : List (S23)) (A0_4 : Option Addr) (c0_4 : Nat) (l0_4 : List Int) (r : Int) (w : World) (hr0_3 : Kd.C k23 w A0_3 l0_3.length l0_3) (hc0_3 : l0_3.length ≤ c0_3) (hr0_4 : Kd.C (Kd.int .i64) w A0_4 l0_4.length l0_4) (hc0_4 : l0_4.length ≤ c0_4) (h : awardingbodyref06_Total.f k a0_0 a0_1 a0_2 l0_3 l0_4 = some r) :
    Calls Try.prog 22 #[.agg #[.int .i64 a0_0, .int .i64 a0_1, .string a0_2, .slice A0_3 l0_3.length c0_3, .slice A0_4 l0_4.length c0_4]] w fun e w' => e = .returned (.int .i64 r) ∧ Below w.heap.size w w' := by
 have hu33 := Try.underlying33
 have HR0_3 := Aside0.mk hr0_3
 have HC0_3 := Aside0.mk hc0_3
 clear hr0_3 hc0_3
 have HR0_4 := Aside0.mk hr0_4
 have HC0_4 := Aside0.mk hc0_4
 clear hr0_4 hc0_4
 have HB := Aside0.mk (Below.refl w.heap.size w)
 have H : ((awardingbodyref06_Check.f k a0_0 a0_1 a0_2 l0_3 l0_4).bind fun t322 => (if t322 = 0 then (awardingbodyref06_Total.l0 k 0 0 a0_0 a0_1 a0_2 l0_3 l0_4) else (some 0))) = some r := h
 clear h
 replace H := Option.bind_eq_some_iff.mp H
 obtain ⟨t322, A20, H⟩ := H
 replace H : (if t322 = 0 then (awardingbodyref06_Total.l0 k 0 0 a0_0 a0_1 a0_2 l0_3 l0_4) else (some 0)) = some r := H
 have A2 := Aside0.mk A20
 clear A20
 by_cases c3 : t322 = 0
 ·rw [if_pos c3] at H
  have c3b0 : (t322 == 0) = true := beq_iff_eq.mpr c3
  have c3b1 : (t322 != 0) = false := bne_eq_false_iff_eq.mpr c3
  clear c3
  have H' := Aside0.mk H
  clear H
  go_enter Try.func22, Try.ntmps22
  go_wp2_with (first | ((with_reducible refine gate_dst (N := 1) rfl ?_); refine box_event ?hg (N := 1) ?hd (cs := #[.int .i64 a0_0, .int .i64 a0_1, .string a0_2, .slice A0_3 l0_3.length c0_3, .slice A0_4 l0_4.length c0_4]) (t := 33) ?hr ?_; (case hd => rfl); (case hg => rfl); (case hr => first | (go_simp; done) | (go_simp; rfl)); intro gb321 hg w4 hbox hb; have n0_ := Aside0.mk (below_step (by repeat (first | (with_reducible first | exact HB.out | apply below_alloc | apply pw_below_drewN | apply below_drew1) | exact HB.out)) hb); have n1_ := Aside0.mk (hbox); have n2_ := Aside0.mk ((by rw [hg]; exact (below_size (by repeat (first | (with_reducible first | exact HB.out | apply below_alloc | apply pw_below_drewN | apply below_drew1) | exact HB.out))) : w.heap.size ≤ gb321)); have n3_ := Aside0.mk ((by rw [hg]; exact (below_size (by repeat (first | (with_reducible first | exact HB.out | apply below_alloc | apply pw_below_drewN | apply below_drew1) | exact HB.out))) : w.heap.size ≤ gb321)); clear HB; have HB := n0_; have BK321 := n1_; have GW321 := n2_; have GE321 := n3_; clear n0_ n1_ n2_ n3_ hb hbox hg; have hcz5_0 : w4.cell? ⟨gb321, 0, none⟩ = some (.int .i64 a0_0) := (blk_cell BK321.out 0).trans rfl; have hcz5_1 : w4.cell? ⟨gb321, 1, none⟩ = some (.int .i64 a0_1) := (blk_cell BK321.out 1).trans rfl; have hcz5_2 : w4.cell? ⟨gb321, 2, none⟩ = some (.string a0_2) := (blk_cell BK321.out 2).trans rfl; have hcz5_3 : w4.cell? ⟨gb321, 3, none⟩ = some (.slice A0_3 l0_3.length c0_3) := (blk_cell BK321.out 3).trans rfl; have hcz5_4 : w4.cell? ⟨gb321, 4, none⟩ = some (.slice A0_4 l0_4.length c0_4) := (blk_cell BK321.out 4).trans rfl; have hfz5_0 := blk_frozen BK321.out 0; have hfz5_1 := blk_frozen BK321.out 1; have hfz5_2 := blk_frozen BK321.out 2; have hfz5_3 := blk_frozen BK321.out 3; have hfz5_4 := blk_frozen BK321.out 4) | ((with_reducible refine gate_callee (f := 20) rfl ?_); refine goesL_ (some 6) rfl rfl Try.func20 (by kernel_rfl) rfl #[.agg #[.int .i64 a0_0, .int .i64 a0_1, .string a0_2, .slice A0_3 l0_3.length c0_3, .slice A0_4 l0_4.length c0_4]] rfl (by (try simp only [List.map_toArray, List.map_cons, List.map_nil]); first | done | rfl | (simp only [List.length_drop, List.length_take]; rfl)) ?_; (with_reducible refine (awardingbodyref06_Check.calls k a0_0 a0_1 a0_2 _ _ l0_3 _ _ l0_4 t322 _ ?side1 ?side2 ?side3 ?side4 A2.out).mono ?_); (case side1 => repeat (first | exact (Kd.C_below HR0_3.out HB.out) | (with_reducible refine Kd.C_alloc ?_ _) | (with_reducible refine Kd.C_drewN ?_ _) | (with_reducible refine Kd.C_drew ?_))); (case side2 => exact HC0_3.out); (case side3 => repeat (first | exact (Kd.C_below HR0_4.out HB.out) | (with_reducible refine Kd.C_alloc ?_ _) | (with_reducible refine Kd.C_drewN ?_ _) | (with_reducible refine Kd.C_drew ?_))); (case side4 => exact HC0_4.out); rintro e w6 ⟨rfl, hb⟩; refine ⟨_, rfl, ?_⟩; have n0_ := Aside0.mk (blk_below (g := gb321) (o := .cells #[.int .i64 a0_0, .int .i64 a0_1, .string a0_2, .slice A0_3 l0_3.length c0_3, .slice A0_4 l0_4.length c0_4] 33 (0, 0)) (by (with_reducible repeat (first | refine blk_drewN ?_ _ | refine blk_drew ?_ | refine blk_alloc ?_ _)); exact BK321.out) hb); have n1_ := Aside0.mk (below_step (by repeat (first | (with_reducible first | exact HB.out | apply below_alloc | apply pw_below_drewN | apply below_drew1 | refine below_set ?_ GE321.out) | exact HB.out)) hb); clear BK321 HB; have BK321 := n0_; have HB := n1_; clear n0_ n1_; (try clear hb); (try clear hb2); (try clear hk); (try clear hi)))
  go_loopg [3, 4] k (fun kq v3 v4 w' => ∃ (x3_1 : Int) (x4_1 : Int), v3 = .int .i64 x3_1 ∧ v4 = .int .i64 x4_1 ∧ Aside0 (awardingbodyref06_Total.l0 kq x3_1 x4_1 a0_0 a0_1 a0_2 l0_3 l0_4 = some r) ∧ Aside0 (kq ≤ k) ∧ Aside0 (w'.heap[gb321]? = some (.cells #[.int .i64 a0_0, .int .i64 a0_1, .string a0_2, (.slice A0_3 l0_3.length c0_3), (.slice A0_4 l0_4.length c0_4)] 33 (0, 0))) ∧ Aside0 (Below w.heap.size w w'))
  case atStart => exact ⟨(0), (0), (by first | rfl | (simp; done) | (simp [*]; done)), (by first | rfl | (simp; done) | (simp [*]; done)), H', ⟨Nat.le_refl _⟩, ⟨by (with_reducible repeat (first | refine blk_drewN ?_ _ | refine blk_drew ?_ | refine blk_alloc ?_ _)); exact BK321.out⟩, ⟨by repeat (first | (with_reducible first | exact HB.out | apply below_alloc | apply pw_below_drewN | apply below_drew1 | refine below_set ?_ GE321.out) | exact HB.out)⟩⟩
  case round =>
   clear H'
   try clear c2
   try clear p2
   try clear c3
   try clear c3b0
   try clear c3b1
   try clear hcz5_0
   try clear hcz5_1
   try clear hcz5_2
   try clear hcz5_3
   try clear hcz5_4
   try clear hfz5_0
   try clear hfz5_1
   try clear hfz5_2
   try clear hfz5_3
   try clear hfz5_4
   obtain ⟨x3_1, x4_1, rfl, rfl, HA, HK1, BK321, HB⟩ := hrel
   cases gk with
   | zero => exact absurd HA.out (by simp [awardingbodyref06_Total.l0])
   | succ k1 =>
    have H := HA.out
    clear HA
    simp only [awardingbodyref06_Total.l0] at H
    by_cases c7 : x4_1 < (l0_3.length : Int)
    ·rw [if_pos c7] at H
     have c7b0 : decide (x4_1 < (l0_3.length : Int)) = true := decide_eq_true c7
     clear c7
     by_cases c8 : 0 ≤ x4_1
     ·rw [if_pos c8] at H
      have c8b0 : decide (0 ≤ x4_1) = true := decide_eq_true c8
      clear c8
      have H' := Aside0.mk H
      clear H
      have hcz9_0 : wr.cell? ⟨gb321, 0, none⟩ = some (.int .i64 a0_0) := (blk_cell BK321.out 0).trans rfl
      have hcz9_1 : wr.cell? ⟨gb321, 1, none⟩ = some (.int .i64 a0_1) := (blk_cell BK321.out 1).trans rfl
      have hcz9_2 : wr.cell? ⟨gb321, 2, none⟩ = some (.string a0_2) := (blk_cell BK321.out 2).trans rfl
      have hcz9_3 : wr.cell? ⟨gb321, 3, none⟩ = some (.slice A0_3 l0_3.length c0_3) := (blk_cell BK321.out 3).trans rfl
      have hcz9_4 : wr.cell? ⟨gb321, 4, none⟩ = some (.slice A0_4 l0_4.length c0_4) := (blk_cell BK321.out 4).trans rfl
      have hfz9_0 := blk_frozen BK321.out 0
      have hfz9_1 := blk_frozen BK321.out 1
      have hfz9_2 := blk_frozen BK321.out 2
      have hfz9_3 := blk_frozen BK321.out 3
      have hfz9_4 := blk_frozen BK321.out 4
      have p323 : 0 ≤ (x4_1 : Int) := of_decide_eq_true (by first | (with_reducible assumption) | assumption)
      have q323 : x4_1 < (l0_3.length : Int) := of_decide_eq_true (by first | (with_reducible assumption) | assumption)
      obtain ⟨ad323, e323, hx323_0, hx323_1, hx323_2, hx323_3, hx323_4, hx323_5⟩ := at_T23 HR0_3.out x4_1 p323 q323
      cases e323
      replace hx323_0 := (HB.out.cell (World.block_lt_of_cell? w _ hx323_0)).trans hx323_0
      replace hx323_1 := (HB.out.cell (World.block_lt_of_cell? w _ hx323_1)).trans hx323_1
      replace hx323_2 := (HB.out.cell (World.block_lt_of_cell? w _ hx323_2)).trans hx323_2
      replace hx323_3 := (HB.out.cell (World.block_lt_of_cell? w _ hx323_3)).trans hx323_3
      replace hx323_4 := (HB.out.cell (World.block_lt_of_cell? w _ hx323_4)).trans hx323_4
      replace hx323_5 := (HB.out.cell (World.block_lt_of_cell? w _ hx323_5)).trans hx323_5
      replace p323 := eq_true p323
      replace q323 := eq_true q323
      go_wp2
      go_roundg k1
      case measure => have := HK1.out; omega
      case rel => exact ⟨(wrap64 (x3_1 + ((rd_T23 l0_3 x4_1).f1))), (wrap64 (x4_1 + 1)), (by first | rfl | (simp; done) | (simp [*]; done)), (by first | rfl | (simp; done) | (simp [*]; done)), H', ⟨by have := HK1.out; omega⟩, ⟨by (with_reducible repeat (first | refine blk_drewN ?_ _ | refine blk_drew ?_ | refine blk_alloc ?_ _)); exact BK321.out⟩, ⟨by repeat (first | (with_reducible first | exact HB.out | apply below_alloc | apply pw_below_drewN | apply below_drew1 | refine below_set ?_ GE321.out) | exact HB.out)⟩⟩
     ·rw [if_neg c8] at H
      exact absurd H (by simp)
    ·rw [if_neg c7] at H
     have c7b0 : decide (x4_1 < (l0_3.length : Int)) = false := decide_eq_false c7
     clear c7
     obtain rfl := Option.some.inj H
     have hcz10_0 : wr.cell? ⟨gb321, 0, none⟩ = some (.int .i64 a0_0) := (blk_cell BK321.out 0).trans rfl
     have hcz10_1 : wr.cell? ⟨gb321, 1, none⟩ = some (.int .i64 a0_1) := (blk_cell BK321.out 1).trans rfl
     have hcz10_2 : wr.cell? ⟨gb321, 2, none⟩ = some (.string a0_2) := (blk_cell BK321.out 2).trans rfl
     have hcz10_3 : wr.cell? ⟨gb321, 3, none⟩ = some (.slice A0_3 l0_3.length c0_3) := (blk_cell BK321.out 3).trans rfl
     have hcz10_4 : wr.cell? ⟨gb321, 4, none⟩ = some (.slice A0_4 l0_4.length c0_4) := (blk_cell BK321.out 4).trans rfl
     have hfz10_0 := blk_frozen BK321.out 0
     have hfz10_1 := blk_frozen BK321.out 1
     have hfz10_2 := blk_frozen BK321.out 2
     have hfz10_3 := blk_frozen BK321.out 3
     have hfz10_4 := blk_frozen BK321.out 4
     go_wp2
     go_ret
     exact ⟨by first | rfl | (simp [errW_none, errW_some] <;> rfl) | (simp [*, errW_none, errW_some] <;> rfl), by repeat (first | (with_reducible first | exact HB.out | apply below_alloc | apply pw_below_drewN | apply below_drew1 | refine below_set ?_ GE321.out) | exact HB.out)⟩
 ·rw [if_neg c3] at H
  have c3b0 : (t322 == 0) = false := beq_eq_false_iff_ne.mpr c3
  have c3b1 : (t322 != 0) = true := bne_iff_ne.mpr c3
  obtain rfl := Option.some.inj H
  go_enter Try.func22, Try.ntmps22
  go_wp2_with (first | ((with_reducible refine gate_dst (N := 1) rfl ?_); refine box_event ?hg (N := 1) ?hd (cs := #[.int .i64 a0_0, .int .i64 a0_1, .string a0_2, .slice A0_3 l0_3.length c0_3, .slice A0_4 l0_4.length c0_4]) (t := 33) ?hr ?_; (case hd => rfl); (case hg => rfl); (case hr => first | (go_simp; done) | (go_simp; rfl)); intro gb321 hg w11 hbox hb; have n0_ := Aside0.mk (below_step (by repeat (first | (with_reducible first | exact HB.out | apply below_alloc | apply pw_below_drewN | apply below_drew1) | exact HB.out)) hb); have n1_ := Aside0.mk (hbox); have n2_ := Aside0.mk ((by rw [hg]; exact (below_size (by repeat (first | (with_reducible first | exact HB.out | apply below_alloc | apply pw_below_drewN | apply below_drew1) | exact HB.out))) : w.heap.size ≤ gb321)); have n3_ := Aside0.mk ((by rw [hg]; exact (below_size (by repeat (first | (with_reducible first | exact HB.out | apply below_alloc | apply pw_below_drewN | apply below_drew1) | exact HB.out))) : w.heap.size ≤ gb321)); clear HB; have HB := n0_; have BK321 := n1_; have GW321 := n2_; have GE321 := n3_; clear n0_ n1_ n2_ n3_ hb hbox hg; have hcz12_0 : w11.cell? ⟨gb321, 0, none⟩ = some (.int .i64 a0_0) := (blk_cell BK321.out 0).trans rfl; have hcz12_1 : w11.cell? ⟨gb321, 1, none⟩ = some (.int .i64 a0_1) := (blk_cell BK321.out 1).trans rfl; have hcz12_2 : w11.cell? ⟨gb321, 2, none⟩ = some (.string a0_2) := (blk_cell BK321.out 2).trans rfl; have hcz12_3 : w11.cell? ⟨gb321, 3, none⟩ = some (.slice A0_3 l0_3.length c0_3) := (blk_cell BK321.out 3).trans rfl; have hcz12_4 : w11.cell? ⟨gb321, 4, none⟩ = some (.slice A0_4 l0_4.length c0_4) := (blk_cell BK321.out 4).trans rfl; have hfz12_0 := blk_frozen BK321.out 0; have hfz12_1 := blk_frozen BK321.out 1; have hfz12_2 := blk_frozen BK321.out 2; have hfz12_3 := blk_frozen BK321.out 3; have hfz12_4 := blk_frozen BK321.out 4) | ((with_reducible refine gate_callee (f := 20) rfl ?_); refine goesL_ (some 6) rfl rfl Try.func20 (by kernel_rfl) rfl #[.agg #[.int .i64 a0_0, .int .i64 a0_1, .string a0_2, .slice A0_3 l0_3.length c0_3, .slice A0_4 l0_4.length c0_4]] rfl (by (try simp only [List.map_toArray, List.map_cons, List.map_nil]); first | done | rfl | (simp only [List.length_drop, List.length_take]; rfl)) ?_; (with_reducible refine (awardingbodyref06_Check.calls k a0_0 a0_1 a0_2 _ _ l0_3 _ _ l0_4 t322 _ ?side1 ?side2 ?side3 ?side4 A2.out).mono ?_); (case side1 => repeat (first | exact (Kd.C_below HR0_3.out HB.out) | (with_reducible refine Kd.C_alloc ?_ _) | (with_reducible refine Kd.C_drewN ?_ _) | (with_reducible refine Kd.C_drew ?_))); (case side2 => exact HC0_3.out); (case side3 => repeat (first | exact (Kd.C_below HR0_4.out HB.out) | (with_reducible refine Kd.C_alloc ?_ _) | (with_reducible refine Kd.C_drewN ?_ _) | (with_reducible refine Kd.C_drew ?_))); (case side4 => exact HC0_4.out); rintro e w13 ⟨rfl, hb⟩; refine ⟨_, rfl, ?_⟩; have n0_ := Aside0.mk (blk_below (g := gb321) (o := .cells #[.int .i64 a0_0, .int .i64 a0_1, .string a0_2, .slice A0_3 l0_3.length c0_3, .slice A0_4 l0_4.length c0_4] 33 (0, 0)) (by (with_reducible repeat (first | refine blk_drewN ?_ _ | refine blk_drew ?_ | refine blk_alloc ?_ _)); exact BK321.out) hb); have n1_ := Aside0.mk (below_step (by repeat (first | (with_reducible first | exact HB.out | apply below_alloc | apply pw_below_drewN | apply below_drew1 | refine below_set ?_ GE321.out) | exact HB.out)) hb); clear BK321 HB; have BK321 := n0_; have HB := n1_; clear n0_ n1_; (try clear hb); (try clear hb2); (try clear hk); (try clear hi)))
  go_ret
  exact ⟨by first | rfl | (simp [errW_none, errW_some] <;> rfl) | (simp [*, errW_none, errW_some] <;> rfl), by repeat (first | (with_reducible first | exact HB.out | apply below_alloc | apply pw_below_drewN | apply below_drew1 | refine below_set ?_ GE321.out) | exact HB.out)⟩

end Go.Proofs.Ytinmdoemkejanaa.Print
