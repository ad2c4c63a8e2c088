-- Printed by a program of this session (wip/own_print.py) out of the translation; Lean checks it.
import Derived.Test.YthbmpjglkbhhgaaPrint0
import Derived.Test.YthbmpjglkbhhgaaPrint1
import Derived.Test.YthbmpjglkbhhgaaPrint2
namespace Go.Proofs.Ythbmpjglkbhhgaa.Print
open Go.RowKit Go.Proofs.YthbmpjglkbhhgaaW.PrintWords Go.Proofs.YthbmpjglkbhhgaaW.PrintLast Go.Proofs.YthbmpjglkbhhgaaW.PrintMore
attribute [local go_sem] max2_int min2_int max_two min_two max_three min_three max_four min_four   -- for this text's walks alone
set_option linter.unusedVariables false
set_option linter.unusedSimpArgs false

/-! ### awardingbodylaw20_BubbleValid: function 3 -/
def awardingbodylaw20_BubbleValid.f (k : Nat) (a0 : Int) (a1 : Int) (a2 : Int) : Option (Bool) := (awardingbodymake_Cut.f a0 12).bind fun t139 => ((awardingbodymake_Cut.f a1 12).bind fun t140 => ((awardingbodymake_Cut.f a2 12).bind fun t141 => ((bubble_Valid.f a0 a1 a2).bind fun t144 => ((awardingbodyref20_Valid.f a0 a1 a2).bind fun t145 => (if (t144 == t145) = true then ((bubble_Valid.f (wrap64 (t139 - 1)) (wrap64 (t140 - 1)) (wrap64 (t141 - 1))).bind fun t146 => ((awardingbodyref20_Valid.f (wrap64 (t139 - 1)) (wrap64 (t140 - 1)) (wrap64 (t141 - 1))).bind fun t147 => (if (t146 == t147) = true then ((awardingbodylaw20_awake.f k).bind fun t148 => (some t148)) else (none)))) else (none))))))
theorem awardingbodylaw20_BubbleValid.mono : ∀ a0 a1 a2 k, LeO (awardingbodylaw20_BubbleValid.f k a0 a1 a2) (awardingbodylaw20_BubbleValid.f (k + 1) a0 a1 a2) := by
  intro a0 a1 a2 k
  unfold awardingbodylaw20_BubbleValid.f
  repeat' first
      | (with_reducible exact awardingbodylaw20_awake.mono _)
      | (with_reducible exact LeO.refl _)
      | (with_reducible exact LeO.none _)
      | (with_reducible refine LeO.ite ?_ ?_)
      | (with_reducible refine LeO.bind ?_ (fun _ => ?_))
      | exact awardingbodylaw20_awake.mono _
      | exact LeO.none _
      | refine LeO.ite ?_ ?_
      | refine LeO.bind ?_ (fun _ => ?_)
def awardingbodylaw20_BubbleValid.T2 : Bool × List (List Nat × List Nat) := (true, [([], []), ([0], [0]), ([], []), ([2, 1], [2]), ([1, 3], [1, 3]), ([4, 3], [4]), ([5], [5]), ([6, 5, 5], [5, 6]), ([5], [5]), ([8, 7, 5], [5, 8]), ([7, 9, 5], [5, 7, 9]), ([5, 10], [5, 10]), ([11, 9], [11]), ([12, 12], [12]), ([12, 13], [12, 13]), ([14, 13, 0, 1, 2, 3, 4, 5, 6, 7, 8, 9, 10, 11, 12, 13, 14], [14])])
def awardingbodylaw20_BubbleValid.B2 : List Nat := [0, 1, 0, 7, 15, 31, 63, 127, 63, 511, 1023, 2047, 4095, 8191, 16383, 32767]
theorem awardingbodylaw20_BubbleValid.tab2 : rtab .any (opsOf Try.f3 2) = awardingbodylaw20_BubbleValid.T2 := by kernel_rfl
theorem awardingbodylaw20_BubbleValid.bits2 : waitsOk awardingbodylaw20_BubbleValid.T2.2 awardingbodylaw20_BubbleValid.B2 = true := by kernel_rfl
set_option maxHeartbeats 8000000 in
set_option maxRecDepth 100000 in
theorem awardingbodylaw20_BubbleValid.calls (k : Nat) (a0 : Int) (a1 : Int) (a2 : Int) (r : Bool) (w : World) (h : awardingbodylaw20_BubbleValid.f k a0 a1 a2 = some r) :
    Calls Try.prog 3 #[.int .i64 a0, .int .i64 a1, .int .i64 a2] w fun e w' => e = .returned (.bool r) ∧ Below w.heap.size w w' := by
 have hu23 := Try.underlying23
 have HB := Aside0.mk (Below.refl w.heap.size w)
 have H : ((awardingbodymake_Cut.f a0 12).bind fun t139 => ((awardingbodymake_Cut.f a1 12).bind fun t140 => ((awardingbodymake_Cut.f a2 12).bind fun t141 => ((bubble_Valid.f a0 a1 a2).bind fun t144 => ((awardingbodyref20_Valid.f a0 a1 a2).bind fun t145 => (if (t144 == t145) = true then ((bubble_Valid.f (wrap64 (t139 - 1)) (wrap64 (t140 - 1)) (wrap64 (t141 - 1))).bind fun t146 => ((awardingbodyref20_Valid.f (wrap64 (t139 - 1)) (wrap64 (t140 - 1)) (wrap64 (t141 - 1))).bind fun t147 => (if (t146 == t147) = true then ((awardingbodylaw20_awake.f k).bind fun t148 => (some t148)) else (none)))) else (none))))))) = some r := h
 clear h
 replace H := Option.bind_eq_some_iff.mp H
 obtain ⟨t139, A40, H⟩ := H
 replace H : ((awardingbodymake_Cut.f a1 12).bind fun t140 => ((awardingbodymake_Cut.f a2 12).bind fun t141 => ((bubble_Valid.f a0 a1 a2).bind fun t144 => ((awardingbodyref20_Valid.f a0 a1 a2).bind fun t145 => (if (t144 == t145) = true then ((bubble_Valid.f (wrap64 (t139 - 1)) (wrap64 (t140 - 1)) (wrap64 (t141 - 1))).bind fun t146 => ((awardingbodyref20_Valid.f (wrap64 (t139 - 1)) (wrap64 (t140 - 1)) (wrap64 (t141 - 1))).bind fun t147 => (if (t146 == t147) = true then ((awardingbodylaw20_awake.f k).bind fun t148 => (some t148)) else (none)))) else (none)))))) = some r := H
 have A4 := Aside0.mk A40
 clear A40
 replace H := Option.bind_eq_some_iff.mp H
 obtain ⟨t140, A50, H⟩ := H
 replace H : ((awardingbodymake_Cut.f a2 12).bind fun t141 => ((bubble_Valid.f a0 a1 a2).bind fun t144 => ((awardingbodyref20_Valid.f a0 a1 a2).bind fun t145 => (if (t144 == t145) = true then ((bubble_Valid.f (wrap64 (t139 - 1)) (wrap64 (t140 - 1)) (wrap64 (t141 - 1))).bind fun t146 => ((awardingbodyref20_Valid.f (wrap64 (t139 - 1)) (wrap64 (t140 - 1)) (wrap64 (t141 - 1))).bind fun t147 => (if (t146 == t147) = true then ((awardingbodylaw20_awake.f k).bind fun t148 => (some t148)) else (none)))) else (none))))) = some r := H
 have A5 := Aside0.mk A50
 clear A50
 replace H := Option.bind_eq_some_iff.mp H
 obtain ⟨t141, A60, H⟩ := H
 replace H : ((bubble_Valid.f a0 a1 a2).bind fun t144 => ((awardingbodyref20_Valid.f a0 a1 a2).bind fun t145 => (if (t144 == t145) = true then ((bubble_Valid.f (wrap64 (t139 - 1)) (wrap64 (t140 - 1)) (wrap64 (t141 - 1))).bind fun t146 => ((awardingbodyref20_Valid.f (wrap64 (t139 - 1)) (wrap64 (t140 - 1)) (wrap64 (t141 - 1))).bind fun t147 => (if (t146 == t147) = true then ((awardingbodylaw20_awake.f k).bind fun t148 => (some t148)) else (none)))) else (none)))) = some r := H
 have A6 := Aside0.mk A60
 clear A60
 replace H := Option.bind_eq_some_iff.mp H
 obtain ⟨t144, A70, H⟩ := H
 replace H : ((awardingbodyref20_Valid.f a0 a1 a2).bind fun t145 => (if (t144 == t145) = true then ((bubble_Valid.f (wrap64 (t139 - 1)) (wrap64 (t140 - 1)) (wrap64 (t141 - 1))).bind fun t146 => ((awardingbodyref20_Valid.f (wrap64 (t139 - 1)) (wrap64 (t140 - 1)) (wrap64 (t141 - 1))).bind fun t147 => (if (t146 == t147) = true then ((awardingbodylaw20_awake.f k).bind fun t148 => (some t148)) else (none)))) else (none))) = some r := H
 have A7 := Aside0.mk A70
 clear A70
 replace H := Option.bind_eq_some_iff.mp H
 obtain ⟨t145, A80, H⟩ := H
 replace H : (if (t144 == t145) = true then ((bubble_Valid.f (wrap64 (t139 - 1)) (wrap64 (t140 - 1)) (wrap64 (t141 - 1))).bind fun t146 => ((awardingbodyref20_Valid.f (wrap64 (t139 - 1)) (wrap64 (t140 - 1)) (wrap64 (t141 - 1))).bind fun t147 => (if (t146 == t147) = true then ((awardingbodylaw20_awake.f k).bind fun t148 => (some t148)) else (none)))) else (none)) = some r := H
 have A8 := Aside0.mk A80
 clear A80
 by_cases c9 : (t144 == t145) = true
 ·rw [if_pos c9] at H
  have c9b0 : (t144 == t145) = true := c9
  (try (have c9b1 : decide (t144 = t145) = true := by simpa using c9))
  (try (have c9b2 : (t144 == t145) = true := by simpa using c9))
  clear c9
  replace H := Option.bind_eq_some_iff.mp H
  obtain ⟨t146, A100, H⟩ := H
  replace H : ((awardingbodyref20_Valid.f (wrap64 (t139 - 1)) (wrap64 (t140 - 1)) (wrap64 (t141 - 1))).bind fun t147 => (if (t146 == t147) = true then ((awardingbodylaw20_awake.f k).bind fun t148 => (some t148)) else (none))) = some r := H
  have A10 := Aside0.mk A100
  clear A100
  replace H := Option.bind_eq_some_iff.mp H
  obtain ⟨t147, A110, H⟩ := H
  replace H : (if (t146 == t147) = true then ((awardingbodylaw20_awake.f k).bind fun t148 => (some t148)) else (none)) = some r := H
  have A11 := Aside0.mk A110
  clear A110
  by_cases c12 : (t146 == t147) = true
  ·rw [if_pos c12] at H
   have c12b0 : (t146 == t147) = true := c12
   (try (have c12b1 : decide (t146 = t147) = true := by simpa using c12))
   (try (have c12b2 : (t146 == t147) = true := by simpa using c12))
   clear c12
   replace H := Option.bind_eq_some_iff.mp H
   obtain ⟨t148, A130, H⟩ := H
   replace H : (some t148) = some r := H
   have A13 := Aside0.mk A130
   clear A130
   obtain rfl := Option.some.inj H
   go_enter Try.func3, Try.ntmps3
   try go_wp2_with (first | ((with_reducible refine gate_callee (f := 11) rfl ?_); refine goesL_ (some 14) rfl rfl Try.func11 (by kernel_rfl) rfl #[.int .i64 a0, .int .i64 12] rfl (by (try simp only [List.map_toArray, List.map_cons, List.map_nil]); first | done | rfl | (simp only [List.length_drop, List.length_take]; rfl)) ?_; (with_reducible refine (awardingbodymake_Cut.calls a0 12 t139 _ A4.out).mono ?_); rintro e w' ⟨rfl, ⟨nd, rfl⟩⟩; refine ⟨_, rfl, ?_⟩) | ((with_reducible refine gate_callee (f := 11) rfl ?_); refine goesL_ (some 17) rfl rfl Try.func11 (by kernel_rfl) rfl #[.int .i64 a1, .int .i64 12] rfl (by (try simp only [List.map_toArray, List.map_cons, List.map_nil]); first | done | rfl | (simp only [List.length_drop, List.length_take]; rfl)) ?_; (with_reducible refine (awardingbodymake_Cut.calls a1 12 t140 _ A5.out).mono ?_); rintro e w' ⟨rfl, ⟨nd, rfl⟩⟩; refine ⟨_, rfl, ?_⟩) | ((with_reducible refine gate_callee (f := 11) rfl ?_); refine goesL_ (some 20) rfl rfl Try.func11 (by kernel_rfl) rfl #[.int .i64 a2, .int .i64 12] rfl (by (try simp only [List.map_toArray, List.map_cons, List.map_nil]); first | done | rfl | (simp only [List.length_drop, List.length_take]; rfl)) ?_; (with_reducible refine (awardingbodymake_Cut.calls a2 12 t141 _ A6.out).mono ?_); rintro e w' ⟨rfl, ⟨nd, rfl⟩⟩; refine ⟨_, rfl, ?_⟩) | ((with_reducible refine gate_dst (N := 7) rfl ?_); refine box_event ?hg (N := 7) ?hd (cs := #[.int .i64 0, .int .i64 0, .int .i64 0]) (t := 23) ?hr ?_; (case hd => rfl); (case hg => rfl); (case hr => first | (go_simp; done) | (go_simp; rfl)); intro gb142 hg w14 hbox hb; have n0_ := Aside0.mk (below_step (by repeat (first | (with_reducible first | exact HB.out | apply below_alloc | apply pw_below_drewN | apply below_drew1) | exact HB.out)) hb); have n1_ := Aside0.mk (hbox); have n2_ := Aside0.mk ((by rw [hg]; exact (below_size (by repeat (first | (with_reducible first | exact HB.out | apply below_alloc | apply pw_below_drewN | apply below_drew1) | exact HB.out))) : w.heap.size ≤ gb142)); have n3_ := Aside0.mk ((by rw [hg]; exact (below_size (by repeat (first | (with_reducible first | exact HB.out | apply below_alloc | apply pw_below_drewN | apply below_drew1) | exact HB.out))) : w.heap.size ≤ gb142)); clear HB; have HB := n0_; have BK142 := n1_; have GW142 := n2_; have GE142 := n3_; clear n0_ n1_ n2_ n3_; clear hb hbox hg) | ((with_reducible refine gate_dst (N := 8) rfl ?_); refine box_event ?hg (N := 8) ?hd (cs := #[.int .i64 0, .int .i64 0, .int .i64 0]) (t := 23) ?hr ?_; (case hd => rfl); (case hg => rfl); (case hr => first | (go_simp; done) | (go_simp; rfl)); intro gb143 hg w15 hbox hb; have n0_ := Aside0.mk (blk_below (g := gb142) (o := .cells #[.int .i64 0, .int .i64 0, .int .i64 0] 23 (0, 0)) (by (with_reducible repeat (first | refine blk_drewN ?_ _ | refine blk_drew ?_ | refine blk_alloc ?_ _)); exact BK142.out) hb); have n1_ := Aside0.mk (below_step (by repeat (first | (with_reducible first | exact HB.out | apply below_alloc | apply pw_below_drewN | apply below_drew1 | refine below_set ?_ GE142.out) | exact HB.out)) hb); have n2_ := Aside0.mk (hbox); have n3_ := Aside0.mk ((by rw [hg]; exact (below_size (by repeat (first | (with_reducible first | exact HB.out | apply below_alloc | apply pw_below_drewN | apply below_drew1 | refine below_set ?_ GE142.out) | exact HB.out))) : w.heap.size ≤ gb143)); have n4_ := Aside0.mk ((by rw [hg]; exact (below_size (by repeat (first | (with_reducible first | exact HB.out | apply below_alloc | apply pw_below_drewN | apply below_drew1 | refine below_set ?_ GE142.out) | exact HB.out))) : w.heap.size ≤ gb143)); have n5_ := Aside0.mk ((by rw [hg]; exact Nat.ne_of_lt (blk_lt (g := gb142) (o := .cells #[.int .i64 0, .int .i64 0, .int .i64 0] 23 (0, 0)) (by (with_reducible repeat (first | refine blk_drewN ?_ _ | refine blk_drew ?_ | refine blk_alloc ?_ _)); exact BK142.out)) : gb142 ≠ gb143)); have n6_ := Aside0.mk ((by rw [hg]; exact Nat.ne_of_gt (blk_lt (g := gb142) (o := .cells #[.int .i64 0, .int .i64 0, .int .i64 0] 23 (0, 0)) (by (with_reducible repeat (first | refine blk_drewN ?_ _ | refine blk_drew ?_ | refine blk_alloc ?_ _)); exact BK142.out)) : gb143 ≠ gb142)); clear BK142; clear HB; have BK142 := n0_; have HB := n1_; have BK143 := n2_; have GW143 := n3_; have GE143 := n4_; have NB142_143 := n5_; have NB143_142 := n6_; clear n0_ n1_ n2_ n3_ n4_ n5_ n6_; clear hb hbox hg; have hnb16 := NB142_143.out; have hnc16 := NB143_142.out; have hcz17_0 : w15.cell? ⟨gb142, 0, none⟩ = some (.int .i64 0) := (blk_cell BK142.out 0).trans rfl; have hcz17_1 : w15.cell? ⟨gb142, 1, none⟩ = some (.int .i64 0) := (blk_cell BK142.out 1).trans rfl; have hcz17_2 : w15.cell? ⟨gb142, 2, none⟩ = some (.int .i64 0) := (blk_cell BK142.out 2).trans rfl; have hfz17_0 := blk_frozen BK142.out 0; have hfz17_1 := blk_frozen BK142.out 1; have hfz17_2 := blk_frozen BK142.out 2; have hcz18_0 : w15.cell? ⟨gb143, 0, none⟩ = some (.int .i64 0) := (blk_cell BK143.out 0).trans rfl; have hcz18_1 : w15.cell? ⟨gb143, 1, none⟩ = some (.int .i64 0) := (blk_cell BK143.out 1).trans rfl; have hcz18_2 : w15.cell? ⟨gb143, 2, none⟩ = some (.int .i64 0) := (blk_cell BK143.out 2).trans rfl; have hfz18_0 := blk_frozen BK143.out 0; have hfz18_1 := blk_frozen BK143.out 1; have hfz18_2 := blk_frozen BK143.out 2))
   have n0_ : Aside0 (((((((w15.setCell ⟨gb142, 0, none⟩ (.int .i64 a0)).setCell ⟨gb142, 1, none⟩ (.int .i64 a1)).setCell ⟨gb142, 2, none⟩ (.int .i64 a2)).setCell ⟨gb143, 0, none⟩ (.int .i64 (wrap64 (t139 - 1)))).setCell ⟨gb143, 1, none⟩ (.int .i64 (wrap64 (t140 - 1)))).setCell ⟨gb143, 2, none⟩ (.int .i64 (wrap64 (t141 - 1)))).heap[gb142]? = some (.cells #[.int .i64 a0, .int .i64 a1, .int .i64 a2] 23 (0, 0))) := ⟨by (with_reducible repeat (first | refine blk_drewN ?_ _ | refine blk_drew ?_ | refine blk_alloc ?_ _)); refine blk_far ?_ NB142_143.out _; (with_reducible repeat (first | refine blk_drewN ?_ _ | refine blk_drew ?_ | refine blk_alloc ?_ _)); refine blk_far ?_ NB142_143.out _; (with_reducible repeat (first | refine blk_drewN ?_ _ | refine blk_drew ?_ | refine blk_alloc ?_ _)); refine blk_far ?_ NB142_143.out _; (with_reducible repeat (first | refine blk_drewN ?_ _ | refine blk_drew ?_ | refine blk_alloc ?_ _)); refine blk_put (cs := #[.int .i64 a0, .int .i64 a1, .int .i64 0]) ?_ 2 _ rfl; (with_reducible repeat (first | refine blk_drewN ?_ _ | refine blk_drew ?_ | refine blk_alloc ?_ _)); refine blk_put (cs := #[.int .i64 a0, .int .i64 0, .int .i64 0]) ?_ 1 _ rfl; (with_reducible repeat (first | refine blk_drewN ?_ _ | refine blk_drew ?_ | refine blk_alloc ?_ _)); refine blk_put (cs := #[.int .i64 0, .int .i64 0, .int .i64 0]) ?_ 0 _ rfl; (with_reducible repeat (first | refine blk_drewN ?_ _ | refine blk_drew ?_ | refine blk_alloc ?_ _)); exact BK142.out⟩
   have n1_ : Aside0 (((((((w15.setCell ⟨gb142, 0, none⟩ (.int .i64 a0)).setCell ⟨gb142, 1, none⟩ (.int .i64 a1)).setCell ⟨gb142, 2, none⟩ (.int .i64 a2)).setCell ⟨gb143, 0, none⟩ (.int .i64 (wrap64 (t139 - 1)))).setCell ⟨gb143, 1, none⟩ (.int .i64 (wrap64 (t140 - 1)))).setCell ⟨gb143, 2, none⟩ (.int .i64 (wrap64 (t141 - 1)))).heap[gb143]? = some (.cells #[.int .i64 (wrap64 (t139 - 1)), .int .i64 (wrap64 (t140 - 1)), .int .i64 (wrap64 (t141 - 1))] 23 (0, 0))) := ⟨by (with_reducible repeat (first | refine blk_drewN ?_ _ | refine blk_drew ?_ | refine blk_alloc ?_ _)); refine blk_put (cs := #[.int .i64 (wrap64 (t139 - 1)), .int .i64 (wrap64 (t140 - 1)), .int .i64 0]) ?_ 2 _ rfl; (with_reducible repeat (first | refine blk_drewN ?_ _ | refine blk_drew ?_ | refine blk_alloc ?_ _)); refine blk_put (cs := #[.int .i64 (wrap64 (t139 - 1)), .int .i64 0, .int .i64 0]) ?_ 1 _ rfl; (with_reducible repeat (first | refine blk_drewN ?_ _ | refine blk_drew ?_ | refine blk_alloc ?_ _)); refine blk_put (cs := #[.int .i64 0, .int .i64 0, .int .i64 0]) ?_ 0 _ rfl; (with_reducible repeat (first | refine blk_drewN ?_ _ | refine blk_drew ?_ | refine blk_alloc ?_ _)); refine blk_far ?_ NB143_142.out _; (with_reducible repeat (first | refine blk_drewN ?_ _ | refine blk_drew ?_ | refine blk_alloc ?_ _)); refine blk_far ?_ NB143_142.out _; (with_reducible repeat (first | refine blk_drewN ?_ _ | refine blk_drew ?_ | refine blk_alloc ?_ _)); refine blk_far ?_ NB143_142.out _; (with_reducible repeat (first | refine blk_drewN ?_ _ | refine blk_drew ?_ | refine blk_alloc ?_ _)); exact BK143.out⟩
   have n2_ : Aside0 (Below w.heap.size w ((((((w15.setCell ⟨gb142, 0, none⟩ (.int .i64 a0)).setCell ⟨gb142, 1, none⟩ (.int .i64 a1)).setCell ⟨gb142, 2, none⟩ (.int .i64 a2)).setCell ⟨gb143, 0, none⟩ (.int .i64 (wrap64 (t139 - 1)))).setCell ⟨gb143, 1, none⟩ (.int .i64 (wrap64 (t140 - 1)))).setCell ⟨gb143, 2, none⟩ (.int .i64 (wrap64 (t141 - 1))))) := ⟨by repeat (first | (with_reducible first | exact HB.out | apply below_alloc | apply pw_below_drewN | apply below_drew1 | refine below_set ?_ GE142.out | refine below_set ?_ GE143.out) | exact HB.out)⟩
   (try clear BK142)
   (try clear BK143)
   (try clear HB)
   generalize ((((((w15.setCell ⟨gb142, 0, none⟩ (.int .i64 a0)).setCell ⟨gb142, 1, none⟩ (.int .i64 a1)).setCell ⟨gb142, 2, none⟩ (.int .i64 a2)).setCell ⟨gb143, 0, none⟩ (.int .i64 (wrap64 (t139 - 1)))).setCell ⟨gb143, 1, none⟩ (.int .i64 (wrap64 (t140 - 1)))).setCell ⟨gb143, 2, none⟩ (.int .i64 (wrap64 (t141 - 1)))) = w19 at n0_ n1_ n2_ ⊢
   have BK142 := n0_
   have BK143 := n1_
   have HB := n2_
   clear n0_ n1_ n2_
   have n0_ := Aside0.mk (blk_drew BK142.out)
   have n1_ := Aside0.mk (blk_drew BK143.out)
   have n2_ := Aside0.mk (below_drew1 HB.out)
   clear BK142
   clear BK143
   clear HB
   have BK142 := n0_
   have BK143 := n1_
   have HB := n2_
   clear n0_ n1_ n2_
   refine start_ (n := 16) (S := fun w' => w'.cell? ⟨gb142, 0, none⟩ = some (.int .i64 a0) ∧ w'.cell? ⟨gb142, 1, none⟩ = some (.int .i64 a1) ∧ w'.cell? ⟨gb142, 2, none⟩ = some (.int .i64 a2) ∧ w'.cell? ⟨gb143, 0, none⟩ = some (.int .i64 (wrap64 (t139 - 1))) ∧ w'.cell? ⟨gb143, 1, none⟩ = some (.int .i64 (wrap64 (t140 - 1))) ∧ w'.cell? ⟨gb143, 2, none⟩ = some (.int .i64 (wrap64 (t141 - 1)))) (ds := []) #[false, false, false, false, false, false, false, false, false, false, false, false, false, false, false, false] (by kernel_rfl) rfl rfl ⟨(blk_cell BK142.out 0).trans rfl, (blk_cell BK142.out 1).trans rfl, (blk_cell BK142.out 2).trans rfl, (blk_cell BK143.out 0).trans rfl, (blk_cell BK143.out 1).trans rfl, (blk_cell BK143.out 2).trans rfl⟩ (fun hHeld => ?_); refine with_tabW awardingbodylaw20_BubbleValid.tab2 awardingbodylaw20_BubbleValid.bits2 (fun HT_ HW_ => ?_)
   generalize w19.drew = w20 at BK142 BK143 HB hHeld ⊢
   refine take_ (i := 0) (N := some 23) (v := ?_) (a' := ?_) #[true, false, false, false, false, false, false, false, false, false, false, false, false, false, false, false] rfl rfl (take_ofW HT_.out HW_.out (by kernel_rfl)) (fun _ _ _ h => h) (Or.inl ⟨by rfl, ?_⟩) hHeld ?_ ?_
   rotate_left
   ·rintro w' ⟨s0, s1, s2, s3, s4, s5⟩
    go_simp
    with_reducible rfl
   rotate_left
   ·simp only [Act.put, List.setIfInBounds_toArray, List.set_cons_zero, List.set_cons_succ, i64_w, i32_w]
    rfl
   refine take_ (i := 2) (N := some 25) (v := ?_) (a' := ?_) #[true, false, true, false, false, false, false, false, false, false, false, false, false, false, false, false] rfl rfl (take_ofW HT_.out HW_.out (by kernel_rfl)) (fun _ _ _ h => h) (Or.inl ⟨by rfl, ?_⟩) hHeld ?_ ?_
   rotate_left
   ·rintro w' ⟨s0, s1, s2, s3, s4, s5⟩
    go_simp
    with_reducible rfl
   rotate_left
   ·simp only [Act.put, List.setIfInBounds_toArray, List.set_cons_zero, List.set_cons_succ, i64_w, i32_w]
    rfl
   refine one_ (i := 1) (N := some 24) #[true, true, true, false, false, false, false, false, false, false, false, false, false, false, false, false] rfl rfl (one_of HT_.out (by kernel_rfl)) (by decide) (fun K hK => ?_)
   refine goes_ Try.func12 (by kernel_rfl) rfl #[.agg #[.int .i64 a0, .int .i64 a1, .int .i64 a2]] (by rfl) rfl rfl (by (try simp only [List.map_toArray, List.map_cons, List.map_nil]); first | done | rfl | (simp only [List.length_drop, List.length_take]; rfl)) ?_
   with_reducible refine (bubble_Valid.calls a0 a1 a2 t144 _ A7.out).mono ?_
   rintro e w21 ⟨rfl, hb⟩
   refine ⟨_, rfl, ?_⟩
   have n0_ := Aside0.mk (blk_below (g := gb142) (o := .cells #[.int .i64 a0, .int .i64 a1, .int .i64 a2] 23 (0, 0)) (by (with_reducible repeat (first | refine blk_drewN ?_ _ | refine blk_drew ?_ | refine blk_alloc ?_ _)); exact BK142.out) hb)
   have n1_ := Aside0.mk (blk_below (g := gb143) (o := .cells #[.int .i64 (wrap64 (t139 - 1)), .int .i64 (wrap64 (t140 - 1)), .int .i64 (wrap64 (t141 - 1))] 23 (0, 0)) (by (with_reducible repeat (first | refine blk_drewN ?_ _ | refine blk_drew ?_ | refine blk_alloc ?_ _)); exact BK143.out) hb)
   have n2_ := Aside0.mk (below_step (by repeat (first | (with_reducible first | exact HB.out | apply below_alloc | apply pw_below_drewN | apply below_drew1 | refine below_set ?_ GE142.out | refine below_set ?_ GE143.out) | exact HB.out)) hb)
   clear BK142
   clear BK143
   clear HB
   have BK142 := n0_
   have BK143 := n1_
   have HB := n2_
   clear n0_ n1_ n2_
   (try clear hb)
   (try clear hb2)
   (try clear hk)
   (try clear hi)
   refine hK.out _ _ ⟨(blk_cell BK142.out 0).trans rfl, (blk_cell BK142.out 1).trans rfl, (blk_cell BK142.out 2).trans rfl, (blk_cell BK143.out 0).trans rfl, (blk_cell BK143.out 1).trans rfl, (blk_cell BK143.out 2).trans rfl⟩ (fun hHeld => ?_)
   clear hK K
   refine norm_ (a' := ?_) ?_ ?_
   rotate_left
   ·show Act.put _ (some 24) _ = _
    simp only [Act.put, List.setIfInBounds_toArray, List.set_cons_zero, List.set_cons_succ, i64_w, i32_w]
    rfl
   refine one_ (i := 3) (N := some 26) #[true, true, true, true, false, false, false, false, false, false, false, false, false, false, false, false] rfl rfl (one_of HT_.out (by kernel_rfl)) (by decide) (fun K hK => ?_)
   refine goes_ Try.func13 (by kernel_rfl) rfl #[.agg #[.int .i64 a0, .int .i64 a1, .int .i64 a2]] (by rfl) rfl rfl (by (try simp only [List.map_toArray, List.map_cons, List.map_nil]); first | done | rfl | (simp only [List.length_drop, List.length_take]; rfl)) ?_
   with_reducible refine (awardingbodyref20_Valid.calls a0 a1 a2 t145 _ A8.out).mono ?_
   rintro e w22 ⟨rfl, hb⟩
   refine ⟨_, rfl, ?_⟩
   have n0_ := Aside0.mk (blk_below (g := gb142) (o := .cells #[.int .i64 a0, .int .i64 a1, .int .i64 a2] 23 (0, 0)) (by (with_reducible repeat (first | refine blk_drewN ?_ _ | refine blk_drew ?_ | refine blk_alloc ?_ _)); exact BK142.out) hb)
   have n1_ := Aside0.mk (blk_below (g := gb143) (o := .cells #[.int .i64 (wrap64 (t139 - 1)), .int .i64 (wrap64 (t140 - 1)), .int .i64 (wrap64 (t141 - 1))] 23 (0, 0)) (by (with_reducible repeat (first | refine blk_drewN ?_ _ | refine blk_drew ?_ | refine blk_alloc ?_ _)); exact BK143.out) hb)
   have n2_ := Aside0.mk (below_step (by repeat (first | (with_reducible first | exact HB.out | apply below_alloc | apply pw_below_drewN | apply below_drew1 | refine below_set ?_ GE142.out | refine below_set ?_ GE143.out) | exact HB.out)) hb)
   clear BK142
   clear BK143
   clear HB
   have BK142 := n0_
   have BK143 := n1_
   have HB := n2_
   clear n0_ n1_ n2_
   (try clear hb)
   (try clear hb2)
   (try clear hk)
   (try clear hi)
   refine hK.out _ _ ⟨(blk_cell BK142.out 0).trans rfl, (blk_cell BK142.out 1).trans rfl, (blk_cell BK142.out 2).trans rfl, (blk_cell BK143.out 0).trans rfl, (blk_cell BK143.out 1).trans rfl, (blk_cell BK143.out 2).trans rfl⟩ (fun hHeld => ?_)
   clear hK K
   refine norm_ (a' := ?_) ?_ ?_
   rotate_left
   ·show Act.put _ (some 26) _ = _
    simp only [Act.put, List.setIfInBounds_toArray, List.set_cons_zero, List.set_cons_succ, i64_w, i32_w]
    rfl
   refine pure_ (i := 4) (N := some 27) (v := ?_) (a' := ?_) #[true, true, true, true, true, false, false, false, false, false, false, false, false, false, false, false] rfl rfl (any_of HT_.out (by kernel_rfl)) (fun _ _ _ h => h) (Or.inl ⟨by rfl, ?_⟩) ?_ ?_
   rotate_left
   ·intro w'
    go_simp
    with_reducible rfl
   rotate_left
   ·simp only [Act.put, List.setIfInBounds_toArray, List.set_cons_zero, List.set_cons_succ, i64_w, i32_w]
    rfl
   refine pure_ (i := 5) (N := some 28) (v := ?_) (a' := ?_) #[true, true, true, true, true, true, false, false, false, false, false, false, false, false, false, false] rfl rfl (any_of HT_.out (by kernel_rfl)) (fun _ _ _ h => h) (Or.inl ⟨by rfl, ?_⟩) ?_ ?_
   rotate_left
   ·intro w'
    go_simp
    with_reducible rfl
   rotate_left
   ·simp only [Act.put, List.setIfInBounds_toArray, List.set_cons_zero, List.set_cons_succ, i64_w, i32_w]
    rfl
   refine take_ (i := 6) (N := some 29) (v := ?_) (a' := ?_) #[true, true, true, true, true, true, true, false, false, false, false, false, false, false, false, false] rfl rfl (take_ofW HT_.out HW_.out (by kernel_rfl)) (fun _ _ _ h => h) (Or.inl ⟨by rfl, ?_⟩) hHeld ?_ ?_
   rotate_left
   ·rintro w' ⟨s0, s1, s2, s3, s4, s5⟩
    go_simp
    with_reducible rfl
   rotate_left
   ·simp only [Act.put, List.setIfInBounds_toArray, List.set_cons_zero, List.set_cons_succ, i64_w, i32_w]
    rfl
   refine take_ (i := 8) (N := some 31) (v := ?_) (a' := ?_) #[true, true, true, true, true, true, true, false, true, false, false, false, false, false, false, false] rfl rfl (take_ofW HT_.out HW_.out (by kernel_rfl)) (fun _ _ _ h => h) (Or.inl ⟨by rfl, ?_⟩) hHeld ?_ ?_
   rotate_left
   ·rintro w' ⟨s0, s1, s2, s3, s4, s5⟩
    go_simp
    with_reducible rfl
   rotate_left
   ·simp only [Act.put, List.setIfInBounds_toArray, List.set_cons_zero, List.set_cons_succ, i64_w, i32_w]
    rfl
   refine one_ (i := 7) (N := some 30) #[true, true, true, true, true, true, true, true, true, false, false, false, false, false, false, false] rfl rfl (one_of HT_.out (by kernel_rfl)) (by decide) (fun K hK => ?_)
   refine goes_ Try.func12 (by kernel_rfl) rfl #[.agg #[.int .i64 (wrap64 (t139 - 1)), .int .i64 (wrap64 (t140 - 1)), .int .i64 (wrap64 (t141 - 1))]] (by rfl) rfl rfl (by (try simp only [List.map_toArray, List.map_cons, List.map_nil]); first | done | rfl | (simp only [List.length_drop, List.length_take]; rfl)) ?_
   with_reducible refine (bubble_Valid.calls (wrap64 (t139 - 1)) (wrap64 (t140 - 1)) (wrap64 (t141 - 1)) t146 _ A10.out).mono ?_
   rintro e w23 ⟨rfl, hb⟩
   refine ⟨_, rfl, ?_⟩
   have n0_ := Aside0.mk (blk_below (g := gb142) (o := .cells #[.int .i64 a0, .int .i64 a1, .int .i64 a2] 23 (0, 0)) (by (with_reducible repeat (first | refine blk_drewN ?_ _ | refine blk_drew ?_ | refine blk_alloc ?_ _)); exact BK142.out) hb)
   have n1_ := Aside0.mk (blk_below (g := gb143) (o := .cells #[.int .i64 (wrap64 (t139 - 1)), .int .i64 (wrap64 (t140 - 1)), .int .i64 (wrap64 (t141 - 1))] 23 (0, 0)) (by (with_reducible repeat (first | refine blk_drewN ?_ _ | refine blk_drew ?_ | refine blk_alloc ?_ _)); exact BK143.out) hb)
   have n2_ := Aside0.mk (below_step (by repeat (first | (with_reducible first | exact HB.out | apply below_alloc | apply pw_below_drewN | apply below_drew1 | refine below_set ?_ GE142.out | refine below_set ?_ GE143.out) | exact HB.out)) hb)
   clear BK142
   clear BK143
   clear HB
   have BK142 := n0_
   have BK143 := n1_
   have HB := n2_
   clear n0_ n1_ n2_
   (try clear hb)
   (try clear hb2)
   (try clear hk)
   (try clear hi)
   refine hK.out _ _ ⟨(blk_cell BK142.out 0).trans rfl, (blk_cell BK142.out 1).trans rfl, (blk_cell BK142.out 2).trans rfl, (blk_cell BK143.out 0).trans rfl, (blk_cell BK143.out 1).trans rfl, (blk_cell BK143.out 2).trans rfl⟩ (fun hHeld => ?_)
   clear hK K
   refine norm_ (a' := ?_) ?_ ?_
   rotate_left
   ·show Act.put _ (some 30) _ = _
    simp only [Act.put, List.setIfInBounds_toArray, List.set_cons_zero, List.set_cons_succ, i64_w, i32_w]
    rfl
   refine one_ (i := 9) (N := some 32) #[true, true, true, true, true, true, true, true, true, true, false, false, false, false, false, false] rfl rfl (one_of HT_.out (by kernel_rfl)) (by decide) (fun K hK => ?_)
   refine goes_ Try.func13 (by kernel_rfl) rfl #[.agg #[.int .i64 (wrap64 (t139 - 1)), .int .i64 (wrap64 (t140 - 1)), .int .i64 (wrap64 (t141 - 1))]] (by rfl) rfl rfl (by (try simp only [List.map_toArray, List.map_cons, List.map_nil]); first | done | rfl | (simp only [List.length_drop, List.length_take]; rfl)) ?_
   with_reducible refine (awardingbodyref20_Valid.calls (wrap64 (t139 - 1)) (wrap64 (t140 - 1)) (wrap64 (t141 - 1)) t147 _ A11.out).mono ?_
   rintro e w24 ⟨rfl, hb⟩
   refine ⟨_, rfl, ?_⟩
   have n0_ := Aside0.mk (blk_below (g := gb142) (o := .cells #[.int .i64 a0, .int .i64 a1, .int .i64 a2] 23 (0, 0)) (by (with_reducible repeat (first | refine blk_drewN ?_ _ | refine blk_drew ?_ | refine blk_alloc ?_ _)); exact BK142.out) hb)
   have n1_ := Aside0.mk (blk_below (g := gb143) (o := .cells #[.int .i64 (wrap64 (t139 - 1)), .int .i64 (wrap64 (t140 - 1)), .int .i64 (wrap64 (t141 - 1))] 23 (0, 0)) (by (with_reducible repeat (first | refine blk_drewN ?_ _ | refine blk_drew ?_ | refine blk_alloc ?_ _)); exact BK143.out) hb)
   have n2_ := Aside0.mk (below_step (by repeat (first | (with_reducible first | exact HB.out | apply below_alloc | apply pw_below_drewN | apply below_drew1 | refine below_set ?_ GE142.out | refine below_set ?_ GE143.out) | exact HB.out)) hb)
   clear BK142
   clear BK143
   clear HB
   have BK142 := n0_
   have BK143 := n1_
   have HB := n2_
   clear n0_ n1_ n2_
   (try clear hb)
   (try clear hb2)
   (try clear hk)
   (try clear hi)
   refine hK.out _ _ ⟨(blk_cell BK142.out 0).trans rfl, (blk_cell BK142.out 1).trans rfl, (blk_cell BK142.out 2).trans rfl, (blk_cell BK143.out 0).trans rfl, (blk_cell BK143.out 1).trans rfl, (blk_cell BK143.out 2).trans rfl⟩ (fun hHeld => ?_)
   clear hK K
   refine norm_ (a' := ?_) ?_ ?_
   rotate_left
   ·show Act.put _ (some 32) _ = _
    simp only [Act.put, List.setIfInBounds_toArray, List.set_cons_zero, List.set_cons_succ, i64_w, i32_w]
    rfl
   refine pure_ (i := 10) (N := some 33) (v := ?_) (a' := ?_) #[true, true, true, true, true, true, true, true, true, true, true, false, false, false, false, false] rfl rfl (any_of HT_.out (by kernel_rfl)) (fun _ _ _ h => h) (Or.inl ⟨by rfl, ?_⟩) ?_ ?_
   rotate_left
   ·intro w'
    go_simp
    with_reducible rfl
   rotate_left
   ·simp only [Act.put, List.setIfInBounds_toArray, List.set_cons_zero, List.set_cons_succ, i64_w, i32_w]
    rfl
   refine pure_ (i := 11) (N := some 34) (v := ?_) (a' := ?_) #[true, true, true, true, true, true, true, true, true, true, true, true, false, false, false, false] rfl rfl (any_of HT_.out (by kernel_rfl)) (fun _ _ _ h => h) (Or.inl ⟨by rfl, ?_⟩) ?_ ?_
   rotate_left
   ·intro w'
    go_simp
    with_reducible rfl
   rotate_left
   ·simp only [Act.put, List.setIfInBounds_toArray, List.set_cons_zero, List.set_cons_succ, i64_w, i32_w]
    rfl
   refine pure_ (i := 12) (N := some 35) (v := ?_) (a' := ?_) #[true, true, true, true, true, true, true, true, true, true, true, true, true, false, false, false] rfl rfl (any_of HT_.out (by kernel_rfl)) (fun _ _ _ h => h) (Or.inl ⟨by rfl, ?_⟩) ?_ ?_
   rotate_left
   ·intro w'
    go_simp
    with_reducible rfl
   rotate_left
   ·simp only [Act.put, List.setIfInBounds_toArray, List.set_cons_zero, List.set_cons_succ, i64_w, i32_w]
    rfl
   refine one_ (i := 13) (N := some 36) #[true, true, true, true, true, true, true, true, true, true, true, true, true, true, false, false] rfl rfl (one_of HT_.out (by kernel_rfl)) (by decide) (fun K hK => ?_)
   refine goes_ Try.func14 (by kernel_rfl) rfl #[] (by rfl) rfl rfl (by (try simp only [List.map_toArray, List.map_cons, List.map_nil]); first | done | rfl | (simp only [List.length_drop, List.length_take]; rfl)) ?_
   with_reducible refine (awardingbodylaw20_awake.calls k  t148 _ A13.out).mono ?_
   rintro e w25 ⟨rfl, hb⟩
   refine ⟨_, rfl, ?_⟩
   have n0_ := Aside0.mk (blk_below (g := gb142) (o := .cells #[.int .i64 a0, .int .i64 a1, .int .i64 a2] 23 (0, 0)) (by (with_reducible repeat (first | refine blk_drewN ?_ _ | refine blk_drew ?_ | refine blk_alloc ?_ _)); exact BK142.out) hb)
   have n1_ := Aside0.mk (blk_below (g := gb143) (o := .cells #[.int .i64 (wrap64 (t139 - 1)), .int .i64 (wrap64 (t140 - 1)), .int .i64 (wrap64 (t141 - 1))] 23 (0, 0)) (by (with_reducible repeat (first | refine blk_drewN ?_ _ | refine blk_drew ?_ | refine blk_alloc ?_ _)); exact BK143.out) hb)
   have n2_ := Aside0.mk (below_step (by repeat (first | (with_reducible first | exact HB.out | apply below_alloc | apply pw_below_drewN | apply below_drew1 | refine below_set ?_ GE142.out | refine below_set ?_ GE143.out) | exact HB.out)) hb)
   clear BK142
   clear BK143
   clear HB
   have BK142 := n0_
   have BK143 := n1_
   have HB := n2_
   clear n0_ n1_ n2_
   (try clear hb)
   (try clear hb2)
   (try clear hk)
   (try clear hi)
   refine hK.out _ _ ⟨(blk_cell BK142.out 0).trans rfl, (blk_cell BK142.out 1).trans rfl, (blk_cell BK142.out 2).trans rfl, (blk_cell BK143.out 0).trans rfl, (blk_cell BK143.out 1).trans rfl, (blk_cell BK143.out 2).trans rfl⟩ (fun hHeld => ?_)
   clear hK K
   refine norm_ (a' := ?_) ?_ ?_
   rotate_left
   ·show Act.put _ (some 36) _ = _
    simp only [Act.put, List.setIfInBounds_toArray, List.set_cons_zero, List.set_cons_succ, i64_w, i32_w]
    rfl
   refine pure_ (i := 14) (N := some 37) (v := ?_) (a' := ?_) #[true, true, true, true, true, true, true, true, true, true, true, true, true, true, true, false] rfl rfl (any_of HT_.out (by kernel_rfl)) (fun _ _ _ h => h) (Or.inl ⟨by rfl, ?_⟩) ?_ ?_
   rotate_left
   ·intro w'
    go_simp
    with_reducible rfl
   rotate_left
   ·simp only [Act.put, List.setIfInBounds_toArray, List.set_cons_zero, List.set_cons_succ, i64_w, i32_w]
    rfl
   refine pure_ (i := 15) (N := some 6) (v := ?_) (a' := ?_) #[true, true, true, true, true, true, true, true, true, true, true, true, true, true, true, true] rfl rfl (any_of HT_.out (by kernel_rfl)) (fun _ _ _ h => h) (Or.inl ⟨by rfl, ?_⟩) ?_ ?_
   rotate_left
   ·intro w'
    go_simp
    with_reducible rfl
   rotate_left
   ·simp only [Act.put, List.setIfInBounds_toArray, List.set_cons_zero, List.set_cons_succ, i64_w, i32_w]
    rfl
   refine done_ (done_of HT_.out (by kernel_rfl)) ?_
   try go_wp2
   go_ret
   exact ⟨by first | rfl | (simp [errW_none, errW_some] <;> rfl) | (simp [*, errW_none, errW_some] <;> rfl), by repeat (first | (with_reducible first | exact HB.out | apply below_alloc | apply pw_below_drewN | apply below_drew1 | refine below_set ?_ GE142.out | refine below_set ?_ GE143.out) | exact HB.out)⟩
  ·rw [if_neg c12] at H
   have c12b0 : (t146 == t147) = false := by simpa using c12
   (try (have c12b1 : decide (t146 = t147) = false := by simpa using c12))
   (try (have c12b2 : (t146 == t147) = false := by simpa using c12))
   (try (have c12b3 : ¬ (t146 = t147) := by simpa using c12))
   clear c12
   exact absurd H (by simp)
 ·rw [if_neg c9] at H
  have c9b0 : (t144 == t145) = false := by simpa using c9
  (try (have c9b1 : decide (t144 = t145) = false := by simpa using c9))
  (try (have c9b2 : (t144 == t145) = false := by simpa using c9))
  (try (have c9b3 : ¬ (t144 = t145) := by simpa using c9))
  clear c9
  exact absurd H (by simp)

/-- THE ONE PURE STATEMENT of awardingbodylaw20_BubbleValid: yours. -/
def awardingbodylaw20_BubbleValid.Pure : Prop := ∀ (a0 : Int) (a1 : Int) (a2 : Int), (Lit.int .i64 a0).wf = true → (Lit.int .i64 a1).wf = true → (Lit.int .i64 a2).wf = true → ∃ k, awardingbodylaw20_BubbleValid.f k a0 a1 a2 = some true
theorem awardingbodylaw20_BubbleValid.walk (P : awardingbodylaw20_BubbleValid.Pure) (a0 : Int) (a1 : Int) (a2 : Int) (w : World) (w0 : (Lit.int .i64 a0).wf = true) (w1 : (Lit.int .i64 a1).wf = true) (w2 : (Lit.int .i64 a2).wf = true) :
  Calls Try.prog 3 #[.int .i64 a0, .int .i64 a1, .int .i64 a2] w fun e w' => e = .returned (.bool true) ∧ Below w.heap.size w w' := by
 obtain ⟨k, h⟩ := P a0 a1 a2 w0 w1 w2
 refine (awardingbodylaw20_BubbleValid.calls k a0 a1 a2 true w h).mono ?_
 rintro e w' ⟨rfl, hd⟩
 exact ⟨rfl, hd⟩

end Go.Proofs.Ythbmpjglkbhhgaa.Print
