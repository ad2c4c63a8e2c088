-- Printed by a program of this session (wip/own_print.py) out of the translation; Lean checks it.
import Derived.Test.YthbmpjglkbhhgaaPrint0
import Derived.Test.YthbmpjglkbhhgaaPrint1
import Derived.Test.YthbmpjglkbhhgaaPrint2
import Derived.Test.YthbmpjglkbhhgaaPrint4
import Derived.Test.YthbmpjglkbhhgaaPrint7
namespace Go.Proofs.Ythbmpjglkbhhgaa.Print
open Go.RowKit Go.Proofs.YthbmpjglkbhhgaaW.PrintWords Go.Proofs.YthbmpjglkbhhgaaW.PrintLast Go.Proofs.YthbmpjglkbhhgaaW.PrintMore
attribute [local go_sem] max2_int min2_int max_two min_two max_three min_three max_four min_four   -- for this text's walks alone
set_option linter.unusedVariables false
set_option linter.unusedSimpArgs false

/-! ### awardingbodylaw20_BubbleDarker: function 6 -/
def awardingbodylaw20_BubbleDarker.j0 : Nat → Int → Int → Int → List Int → Int → Bool → Int → Int → Int → Option (Bool)
  | 0, _, _, _, _, _, _, _, _, _ => none
  | k + 1, x1, x2, x3, x11, x12, x37, x305000, x305001, x305002 => if x37 = true then (none) else (if x12 < 0 then ((awardingbodylaw20_awake.f k).bind fun t311 => (some t311)) else (if 0 ≤ x12 then (if x12 < (x11.length : Int) then ((awardingbodymake_Cut.f x1 9).bind fun t313 => ((some (x11.set (x12 : Int).toNat (mn 9 (wrap64 ((rd x11 x12) + t313))) : List Int)).bind fun y314 => ((bubble_Judge.f k x305000 x305001 x305002 y314).bind fun bt315 => ((awardingbodymake_Cut.f x2 (x11.length : Int)).bind fun t317 => (if t317 = x12 then ((bubble_Judge.f k x305000 x305001 x305002 y314).bind fun bt318 => (if bt315.2 = 0 then (if bt318.2 = 0 then (if bt315.1 = x12 then (if bt318.1 = x12 then ((awardingbodylaw20_awake.f k).bind fun t320 => (some t320)) else (none)) else (none)) else (none)) else (none))) else (if 0 ≤ t317 then (if t317 < (x11.length : Int) then ((awardingbodymake_Cut.f x3 9).bind fun t322 => ((bubble_Judge.f k x305000 x305001 x305002 (y314.set (t317 : Int).toNat (mx 0 (wrap64 ((rd y314 t317) - t322))))).bind fun bt324 => (if bt315.2 = 0 then (if bt324.2 = 0 then (if bt315.1 = x12 then (if bt324.1 = x12 then ((awardingbodylaw20_awake.f k).bind fun t326 => (some t326)) else (none)) else (none)) else (none)) else (none)))) else (none)) else (none))))))) else (none)) else (none)))
def awardingbodylaw20_BubbleDarker.f (k : Nat) (l0 : List Int) (a1 : Int) (a2 : Int) (a3 : Int) : Option (Bool) := (awardingbodymake_New.f l0).bind fun bt297 => ((awardingbodymake_Tape_Threshold.f bt297.1 bt297.2 0).bind fun bt300 => ((awardingbodylaw20_values.f k bt297.1 bt300.2.2.2).bind fun bt305 => ((bubble_Judge.f k bt300.1 bt300.2.1 bt300.2.2.1 bt305.1).bind fun bt309 => (if bt309.2 = 0 then (awardingbodylaw20_BubbleDarker.j0 k a1 a2 a3 bt305.1 bt309.1 (decide (bt309.1 ≥ (bt305.1.length : Int))) bt300.1 bt300.2.1 bt300.2.2.1) else (awardingbodylaw20_BubbleDarker.j0 k a1 a2 a3 bt305.1 bt309.1 true bt300.1 bt300.2.1 bt300.2.2.1)))))
theorem awardingbodylaw20_BubbleDarker.mono_l : ∀ k, (∀ y0 y1 y2 y3 y4 y5 y6 y7 y8, LeO (awardingbodylaw20_BubbleDarker.j0 k y0 y1 y2 y3 y4 y5 y6 y7 y8) (awardingbodylaw20_BubbleDarker.j0 (k + 1) y0 y1 y2 y3 y4 y5 y6 y7 y8))
  | 0 => fun _ _ _ _ _ _ _ _ _ r h => by simp [awardingbodylaw20_BubbleDarker.j0] at h
  | k + 1 => by
    have ih0 := awardingbodylaw20_BubbleDarker.mono_l k
    · intro y0 y1 y2 y3 y4 y5 y6 y7 y8
      unfold awardingbodylaw20_BubbleDarker.j0
      repeat' first
      | (with_reducible exact ih0 _ _ _ _ _ _ _ _ _)
      | (with_reducible exact awardingbodylaw20_awake.mono _)
      | (with_reducible exact awardingbodylaw20_values.mono _ _ _)
      | (with_reducible exact bubble_Judge.mono _ _ _ _ _)
      | (with_reducible exact LeO.refl _)
      | (with_reducible exact LeO.none _)
      | (with_reducible refine LeO.ite ?_ ?_)
      | (with_reducible refine LeO.bind ?_ (fun _ => ?_))
      | exact ih0 _ _ _ _ _ _ _ _ _
      | exact awardingbodylaw20_awake.mono _
      | exact awardingbodylaw20_values.mono _ _ _
      | exact bubble_Judge.mono _ _ _ _ _
      | exact LeO.none _
      | refine LeO.ite ?_ ?_
      | refine LeO.bind ?_ (fun _ => ?_)
theorem awardingbodylaw20_BubbleDarker.mono : ∀ a0 a1 a2 a3 k, LeO (awardingbodylaw20_BubbleDarker.f k a0 a1 a2 a3) (awardingbodylaw20_BubbleDarker.f (k + 1) a0 a1 a2 a3) := by
  intro a0 a1 a2 a3 k
  have ih0 := awardingbodylaw20_BubbleDarker.mono_l k
  unfold awardingbodylaw20_BubbleDarker.f
  repeat' first
      | (with_reducible exact ih0 _ _ _ _ _ _ _ _ _)
      | (with_reducible exact awardingbodylaw20_awake.mono _)
      | (with_reducible exact awardingbodylaw20_values.mono _ _ _)
      | (with_reducible exact bubble_Judge.mono _ _ _ _ _)
      | (with_reducible exact LeO.refl _)
      | (with_reducible exact LeO.none _)
      | (with_reducible refine LeO.ite ?_ ?_)
      | (with_reducible refine LeO.bind ?_ (fun _ => ?_))
      | exact ih0 _ _ _ _ _ _ _ _ _
      | exact awardingbodylaw20_awake.mono _
      | exact awardingbodylaw20_values.mono _ _ _
      | exact bubble_Judge.mono _ _ _ _ _
      | exact LeO.none _
      | refine LeO.ite ?_ ?_
      | refine LeO.bind ?_ (fun _ => ?_)
def awardingbodylaw20_BubbleDarker.T9 : Bool × List (List Nat × List Nat) := (true, [([], []), ([], []), ([], []), ([], []), ([2, 3], [2, 3]), ([4], [4]), ([], []), ([6], [6]), ([5, 7], [5, 7]), ([8], [8]), ([0, 1, 0, 1, 2, 3, 4, 5, 6, 7, 8, 9], [0, 1]), ([10, 9, 7, 0, 1, 2, 3, 4, 5, 6, 7, 8, 9], [9, 10])])
def awardingbodylaw20_BubbleDarker.B9 : List Nat := [0, 0, 0, 0, 12, 28, 0, 64, 252, 508, 1023, 2047]
theorem awardingbodylaw20_BubbleDarker.tab9 : rtab .any (opsOf Try.f6 9) = awardingbodylaw20_BubbleDarker.T9 := by kernel_rfl
theorem awardingbodylaw20_BubbleDarker.bits9 : waitsOk awardingbodylaw20_BubbleDarker.T9.2 awardingbodylaw20_BubbleDarker.B9 = true := by kernel_rfl
def awardingbodylaw20_BubbleDarker.T13 : Bool × List (List Nat × List Nat) := (true, [([], []), ([], []), ([], []), ([], []), ([2, 3], [2, 3]), ([4], [4]), ([], []), ([6], [6]), ([5, 7], [5, 7]), ([8], [8]), ([0, 1, 0, 1, 2, 3, 4, 5, 6, 7, 8, 9], [0, 1]), ([10, 9, 7, 0, 1, 2, 3, 4, 5, 6, 7, 8, 9], [9, 10])])
def awardingbodylaw20_BubbleDarker.B13 : List Nat := [0, 0, 0, 0, 12, 28, 0, 64, 252, 508, 1023, 2047]
theorem awardingbodylaw20_BubbleDarker.tab13 : rtab .any (opsOf Try.f6 13) = awardingbodylaw20_BubbleDarker.T13 := by kernel_rfl
theorem awardingbodylaw20_BubbleDarker.bits13 : waitsOk awardingbodylaw20_BubbleDarker.T13.2 awardingbodylaw20_BubbleDarker.B13 = true := by kernel_rfl
set_option maxHeartbeats 8000000 in
set_option maxRecDepth 100000 in
theorem awardingbodylaw20_BubbleDarker.calls (k : Nat) (A0 : Option Addr) (c0 : Nat) (l0 : List Int) (a1 : Int) (a2 : Int) (a3 : Int) (r : Bool) (w : World) (hr0 : Kd.C (Kd.int .i64) w A0 l0.length l0) (hc0 : l0.length ≤ c0) (h : awardingbodylaw20_BubbleDarker.f k l0 a1 a2 a3 = some r) :
    Calls Try.prog 6 #[.slice A0 l0.length c0, .int .i64 a1, .int .i64 a2, .int .i64 a3] w fun e w' => e = .returned (.bool r) ∧ Below w.heap.size w w' := by
 have hu23 := Try.underlying23
 have HR0 := Aside0.mk hr0
 have HC0 := Aside0.mk hc0
 clear hr0 hc0
 have HB := Aside0.mk (Below.refl w.heap.size w)
 have H : ((awardingbodymake_New.f l0).bind fun bt297 => ((awardingbodymake_Tape_Threshold.f bt297.1 bt297.2 0).bind fun bt300 => ((awardingbodylaw20_values.f k bt297.1 bt300.2.2.2).bind fun bt305 => ((bubble_Judge.f k bt300.1 bt300.2.1 bt300.2.2.1 bt305.1).bind fun bt309 => (if bt309.2 = 0 then (awardingbodylaw20_BubbleDarker.j0 k a1 a2 a3 bt305.1 bt309.1 (decide (bt309.1 ≥ (bt305.1.length : Int))) bt300.1 bt300.2.1 bt300.2.2.1) else (awardingbodylaw20_BubbleDarker.j0 k a1 a2 a3 bt305.1 bt309.1 true bt300.1 bt300.2.1 bt300.2.2.1)))))) = some r := h
 clear h
 replace H := Option.bind_eq_some_iff.mp H
 obtain ⟨⟨t297, t298⟩, A50, H⟩ := H
 replace H : ((awardingbodymake_Tape_Threshold.f t297 t298 0).bind fun bt300 => ((awardingbodylaw20_values.f k t297 bt300.2.2.2).bind fun bt305 => ((bubble_Judge.f k bt300.1 bt300.2.1 bt300.2.2.1 bt305.1).bind fun bt309 => (if bt309.2 = 0 then (awardingbodylaw20_BubbleDarker.j0 k a1 a2 a3 bt305.1 bt309.1 (decide (bt309.1 ≥ (bt305.1.length : Int))) bt300.1 bt300.2.1 bt300.2.2.1) else (awardingbodylaw20_BubbleDarker.j0 k a1 a2 a3 bt305.1 bt309.1 true bt300.1 bt300.2.1 bt300.2.2.1))))) = some r := H
 have A5 := Aside0.mk A50
 clear A50
 replace H := Option.bind_eq_some_iff.mp H
 obtain ⟨⟨t300, t301, t302, t303⟩, A60, H⟩ := H
 replace H : ((awardingbodylaw20_values.f k t297 t303).bind fun bt305 => ((bubble_Judge.f k t300 t301 t302 bt305.1).bind fun bt309 => (if bt309.2 = 0 then (awardingbodylaw20_BubbleDarker.j0 k a1 a2 a3 bt305.1 bt309.1 (decide (bt309.1 ≥ (bt305.1.length : Int))) t300 t301 t302) else (awardingbodylaw20_BubbleDarker.j0 k a1 a2 a3 bt305.1 bt309.1 true t300 t301 t302)))) = some r := H
 have A6 := Aside0.mk A60
 clear A60
 replace H := Option.bind_eq_some_iff.mp H
 obtain ⟨⟨t305, t308⟩, A70, H⟩ := H
 replace H : ((bubble_Judge.f k t300 t301 t302 t305).bind fun bt309 => (if bt309.2 = 0 then (awardingbodylaw20_BubbleDarker.j0 k a1 a2 a3 t305 bt309.1 (decide (bt309.1 ≥ (t305.length : Int))) t300 t301 t302) else (awardingbodylaw20_BubbleDarker.j0 k a1 a2 a3 t305 bt309.1 true t300 t301 t302))) = some r := H
 have A7 := Aside0.mk A70
 clear A70
 replace H := Option.bind_eq_some_iff.mp H
 obtain ⟨⟨t309, t310⟩, A80, H⟩ := H
 replace H : (if t310 = 0 then (awardingbodylaw20_BubbleDarker.j0 k a1 a2 a3 t305 t309 (decide (t309 ≥ (t305.length : Int))) t300 t301 t302) else (awardingbodylaw20_BubbleDarker.j0 k a1 a2 a3 t305 t309 true t300 t301 t302)) = some r := H
 have A8 := Aside0.mk A80
 clear A80
 have HC9 := Aside0.mk H
 clear H
 go_enter Try.func6, Try.ntmps6
 go_upto_region 5 with (first | ((with_reducible refine gate_callee (f := 15) rfl ?_); refine goesL_ (some 19) rfl rfl Try.func15 (by kernel_rfl) rfl #[.slice A0 l0.length c0] rfl (by (try simp only [List.map_toArray, List.map_cons, List.map_nil]); first | done | rfl | (simp only [List.length_drop, List.length_take]; rfl)) ?_; (with_reducible refine (awardingbodymake_New.calls _ _ l0 t297 t298 w _ ?side1 ?side2 ?side3 A5.out).mono ?_); (case side1 => repeat (first | (with_reducible first | exact HB.out | apply below_alloc | apply pw_below_drewN | apply below_drew1) | exact HB.out)); (case side2 => exact HR0.out); (case side3 => exact HC0.out); rintro e w10 ⟨g299, rfl, hi, hb, hb2⟩; refine ⟨_, rfl, ?_⟩; have n0_ := Aside0.mk (hb); have n1_ := Aside0.mk (hi); clear HB; have HB := n0_; have HI299 := n1_; clear n0_ n1_; (try clear hb); (try clear hb2); (try clear hk); (try clear hi)) | ((with_reducible refine gate_callee (f := 16) rfl ?_); refine goesL_ (some 21) rfl rfl Try.func16 (by kernel_rfl) rfl #[.pointer (some ⟨g299, 0, none⟩), .int .i64 0] rfl (by (try simp only [List.map_toArray, List.map_cons, List.map_nil]); first | done | rfl | (simp only [List.length_drop, List.length_take]; rfl)) ?_; (with_reducible refine (awardingbodymake_Tape_Threshold.calls g299 t297 t298 0 t300 t301 t302 t303 w _ ?side1 ?side2 A6.out).mono ?_); (case side1 => repeat (first | (with_reducible first | exact HI299.out | apply IsS68.alloc | apply IsS68.drewN | apply IsS68.drew | apply IsS68.set_1) | exact HI299.out)); (case side2 => repeat (first | (with_reducible first | exact HB.out | apply below_alloc | apply pw_below_drewN | apply below_drew1 | refine below_set ?_ (IsS68.ge HI299.out)) | exact HB.out)); rintro e w11 ⟨rfl, hi, hb, hk⟩; refine ⟨_, rfl, ?_⟩; have n0_ := Aside0.mk (hb); have n1_ := Aside0.mk (hi); clear HB; clear HI299; have HB := n0_; have HI299 := n1_; clear n0_ n1_; (try clear hb); (try clear hb2); (try clear hk); (try clear hi)) | ((with_reducible refine gate_dst (N := 10) rfl ?_); (try (refine gate_guard (by rfl) ?_; dsimp only)); refine box_event ?hg (N := 10) ?hd (cs := #[.int .i64 0, .int .i64 0, .int .i64 0]) (t := 23) ?hr ?_; (case hd => rfl); (case hg => rfl); (case hr => first | (go_simp; done) | (go_simp; rfl)); intro gb304 hg w12 hbox hb; have n0_ := Aside0.mk (IsS68.below (by repeat (first | (with_reducible first | exact HI299.out | apply IsS68.alloc | apply IsS68.drewN | apply IsS68.drew | apply IsS68.set_1) | exact HI299.out)) hb); have n1_ := Aside0.mk (below_step (by repeat (first | (with_reducible first | exact HB.out | apply below_alloc | apply pw_below_drewN | apply below_drew1 | refine below_set ?_ (IsS68.ge HI299.out)) | exact HB.out)) hb); have n2_ := Aside0.mk (hbox); have n3_ := Aside0.mk ((by rw [hg]; exact (below_size (by repeat (first | (with_reducible first | exact HB.out | apply below_alloc | apply pw_below_drewN | apply below_drew1 | refine below_set ?_ (IsS68.ge HI299.out)) | exact HB.out))) : w.heap.size ≤ gb304)); have n4_ := Aside0.mk ((by rw [hg]; exact (below_size (by repeat (first | (with_reducible first | exact HB.out | apply below_alloc | apply pw_below_drewN | apply below_drew1 | refine below_set ?_ (IsS68.ge HI299.out)) | exact HB.out))) : w.heap.size ≤ gb304)); have n5_ := Aside0.mk ((by rw [hg]; exact Nat.ne_of_lt (IsS68.lt (show IsS68 w _ g299 t297 t303 from by repeat (first | (with_reducible first | exact HI299.out | apply IsS68.alloc | apply IsS68.drewN | apply IsS68.drew | apply IsS68.set_1) | exact HI299.out))) : g299 ≠ gb304)); have n6_ := Aside0.mk ((by rw [hg]; exact Nat.ne_of_gt (IsS68.lt (show IsS68 w _ g299 t297 t303 from by repeat (first | (with_reducible first | exact HI299.out | apply IsS68.alloc | apply IsS68.drewN | apply IsS68.drew | apply IsS68.set_1) | exact HI299.out))) : gb304 ≠ g299)); clear HI299; clear HB; have HI299 := n0_; have HB := n1_; have BK304 := n2_; have GW304 := n3_; have GE304 := n4_; have NB299_304 := n5_; have NB304_299 := n6_; clear n0_ n1_ n2_ n3_ n4_ n5_ n6_; clear hb hbox hg; have hnb13 := NB304_299.out; have hnc13 := NB299_304.out; have hcz14_0 : w12.cell? ⟨gb304, 0, none⟩ = some (.int .i64 0) := (blk_cell BK304.out 0).trans rfl; have hcz14_1 : w12.cell? ⟨gb304, 1, none⟩ = some (.int .i64 0) := (blk_cell BK304.out 1).trans rfl; have hcz14_2 : w12.cell? ⟨gb304, 2, none⟩ = some (.int .i64 0) := (blk_cell BK304.out 2).trans rfl; have hfz14_0 := blk_frozen BK304.out 0; have hfz14_1 := blk_frozen BK304.out 1; have hfz14_2 := blk_frozen BK304.out 2) | ((with_reducible refine gate_callee (f := 23) rfl ?_); refine goesL_ (some 23) rfl rfl Try.func23 (by kernel_rfl) rfl #[.pointer (some ⟨g299, 0, none⟩)] rfl (by (try simp only [List.map_toArray, List.map_cons, List.map_nil]); first | done | rfl | (simp only [List.length_drop, List.length_take]; rfl)) ?_; (with_reducible refine (awardingbodylaw20_values.calls k g299 t297 t303 t305 t308 w _ ?side1 ?side2 A7.out).mono ?_); (case side1 => repeat (first | (with_reducible first | exact HI299.out | apply IsS68.alloc | apply IsS68.drewN | apply IsS68.drew | apply IsS68.set_1 | refine IsS68.far ?_ NB299_304.out _) | exact HI299.out)); (case side2 => repeat (first | (with_reducible first | exact HB.out | apply below_alloc | apply pw_below_drewN | apply below_drew1 | refine below_set ?_ (IsS68.ge HI299.out) | refine below_set ?_ GE304.out) | exact HB.out)); rintro e w15 ⟨v306, rfl, ho0, hi, hb, hk⟩; refine ⟨_, rfl, ?_⟩; have n0_ := Aside0.mk (KeepBut.blk hk (g' := gb304) (o := .cells #[.int .i64 t300, .int .i64 t301, .int .i64 t302] 23 (0, 0)) (by (with_reducible repeat (first | refine blk_drewN ?_ _ | refine blk_drew ?_ | refine blk_alloc ?_ _)); refine blk_put (cs := #[.int .i64 t300, .int .i64 t301, .int .i64 0]) ?_ 2 _ rfl; (with_reducible repeat (first | refine blk_drewN ?_ _ | refine blk_drew ?_ | refine blk_alloc ?_ _)); refine blk_put (cs := #[.int .i64 t300, .int .i64 0, .int .i64 0]) ?_ 1 _ rfl; (with_reducible repeat (first | refine blk_drewN ?_ _ | refine blk_drew ?_ | refine blk_alloc ?_ _)); refine blk_put (cs := #[.int .i64 0, .int .i64 0, .int .i64 0]) ?_ 0 _ rfl; (with_reducible repeat (first | refine blk_drewN ?_ _ | refine blk_drew ?_ | refine blk_alloc ?_ _)); exact BK304.out) NB304_299.out (by simp)); have n1_ := Aside0.mk (Kd.R_lower ho0 (below_size (by repeat (first | (with_reducible first | exact HB.out | apply below_alloc | apply pw_below_drewN | apply below_drew1 | refine below_set ?_ (IsS68.ge HI299.out) | refine below_set ?_ GE304.out) | exact HB.out)))); have n2_ := Aside0.mk (hb); have n3_ := Aside0.mk (hi); clear BK304; clear HB; clear HI299; have BK304 := n0_; have HO307 := n1_; have HB := n2_; have HI299 := n3_; clear n0_ n1_ n2_ n3_; (try clear hb); (try clear hb2); (try clear hk); (try clear hi); (try clear ho0); have hcz16_0 : w15.cell? ⟨gb304, 0, none⟩ = some (.int .i64 t300) := (blk_cell BK304.out 0).trans rfl; have hcz16_1 : w15.cell? ⟨gb304, 1, none⟩ = some (.int .i64 t301) := (blk_cell BK304.out 1).trans rfl; have hcz16_2 : w15.cell? ⟨gb304, 2, none⟩ = some (.int .i64 t302) := (blk_cell BK304.out 2).trans rfl; have hfz16_0 := blk_frozen BK304.out 0; have hfz16_1 := blk_frozen BK304.out 1; have hfz16_2 := blk_frozen BK304.out 2; obtain ⟨Ao17, co17, eo17⟩ := Kd.R_slice HO307.out; subst eo17) | ((with_reducible refine gate_callee (f := 21) rfl ?_); refine goesL_ (some 27) rfl rfl Try.func21 (by kernel_rfl) rfl #[.agg #[.int .i64 t300, .int .i64 t301, .int .i64 t302], .slice Ao17 t305.length co17] rfl (by (try simp only [List.map_toArray, List.map_cons, List.map_nil]); first | done | rfl | (simp only [List.length_drop, List.length_take]; rfl)) ?_; (with_reducible refine (bubble_Judge.calls k t300 t301 t302 _ _ t305 t309 t310 _ ?side1 ?side2 A8.out).mono ?_); (case side1 => repeat (first | exact (Kd.R_reads' HO307.out).2.2 | (with_reducible refine Kd.C_alloc ?_ _) | (with_reducible refine Kd.C_drewN ?_ _) | (with_reducible refine Kd.C_drew ?_))); (case side2 => exact (Kd.R_reads' HO307.out).2.1); rintro e w18 ⟨rfl, hb⟩; refine ⟨_, rfl, ?_⟩; have n0_ := Aside0.mk (Kd.R_below (by (with_reducible repeat (first | apply Kd.R_alloc | apply Kd.R_drewN | apply Kd.R_drew)); exact HO307.out) hb); have n1_ := Aside0.mk (IsS68.below (by repeat (first | (with_reducible first | exact HI299.out | apply IsS68.alloc | apply IsS68.drewN | apply IsS68.drew | apply IsS68.set_1 | refine IsS68.far ?_ NB299_304.out _) | exact HI299.out)) hb); have n2_ := Aside0.mk (blk_below (g := gb304) (o := .cells #[.int .i64 t300, .int .i64 t301, .int .i64 t302] 23 (0, 0)) (by (with_reducible repeat (first | refine blk_drewN ?_ _ | refine blk_drew ?_ | refine blk_alloc ?_ _)); exact BK304.out) hb); have n3_ := Aside0.mk (below_step (by repeat (first | (with_reducible first | exact HB.out | apply below_alloc | apply pw_below_drewN | apply below_drew1 | refine below_set ?_ (IsS68.ge HI299.out) | refine below_set ?_ GE304.out) | exact HB.out)) hb); clear HO307; clear HI299; clear BK304; clear HB; have HO307 := n0_; have HI299 := n1_; have BK304 := n2_; have HB := n3_; clear n0_ n1_ n2_ n3_; (try clear hb); (try clear hb2); (try clear hk); (try clear hi)))
 (try simp only [Act.put, List.setIfInBounds_toArray, List.set_cons_zero, List.set_cons_succ])
 go_cut [37] (fun v37 wc => ∃ (kq : Nat) (x37_8 : Bool), v37 = .bool x37_8 ∧ Aside0 (awardingbodylaw20_BubbleDarker.j0 kq a1 a2 a3 t305 t309 x37_8 t300 t301 t302 = some r) ∧ Aside0 (kq ≤ k) ∧ Aside0 (Kd.R (Kd.int .i64) 3 wc w.heap.size (fun _ => True) (.slice Ao17 t305.length co17) t305) ∧ Aside0 (wc.heap[gb304]? = some (.cells #[.int .i64 t300, .int .i64 t301, .int .i64 t302] 23 (0, 0))) ∧ Aside0 (Below w.heap.size w wc))
 case first =>
  have H := HC9.out
  clear HC9
  by_cases c19 : t310 = 0
  ·rw [if_pos c19] at H
   have c19b0 : (t310 == 0) = true := beq_iff_eq.mpr c19
   have c19b1 : (t310 != 0) = false := bne_eq_false_iff_eq.mpr c19
   clear c19
   (first | rw [c19b0] | (simp only [i64_w, i32_w]; rw [c19b0]) | skip)
   have H' := Aside0.mk H
   clear H
   go_wp2
   go_meet
   case rel => exact ⟨_, (decide (t309 ≥ (t305.length : Int))), (by first | rfl | (simp; done) | (simp [*]; done)), H', ⟨by first | omega | exact Nat.le_refl _⟩, ⟨by (with_reducible repeat (first | apply Kd.R_alloc | apply Kd.R_drewN | apply Kd.R_drew)); exact HO307.out⟩, ⟨by (with_reducible repeat (first | refine blk_drewN ?_ _ | refine blk_drew ?_ | refine blk_alloc ?_ _)); exact BK304.out⟩, ⟨by repeat (first | (with_reducible first | exact HB.out | apply below_alloc | apply pw_below_drewN | apply below_drew1 | refine below_set ?_ (IsS68.ge HI299.out) | refine below_set ?_ GE304.out) | exact HB.out)⟩⟩
  ·rw [if_neg c19] at H
   have c19b0 : (t310 == 0) = false := beq_eq_false_iff_ne.mpr c19
   have c19b1 : (t310 != 0) = true := bne_iff_ne.mpr c19
   (first | rw [c19b0] | (simp only [i64_w, i32_w]; rw [c19b0]) | skip)
   have H' := Aside0.mk H
   clear H
   go_wp2
   go_meet
   case rel => exact ⟨_, (true), (by first | rfl | (simp; done) | (simp [*]; done)), H', ⟨by first | omega | exact Nat.le_refl _⟩, ⟨by (with_reducible repeat (first | apply Kd.R_alloc | apply Kd.R_drewN | apply Kd.R_drew)); exact HO307.out⟩, ⟨by (with_reducible repeat (first | refine blk_drewN ?_ _ | refine blk_drew ?_ | refine blk_alloc ?_ _)); exact BK304.out⟩, ⟨by repeat (first | (with_reducible first | exact HB.out | apply below_alloc | apply pw_below_drewN | apply below_drew1 | refine below_set ?_ (IsS68.ge HI299.out) | refine below_set ?_ GE304.out) | exact HB.out)⟩⟩
 case rest =>
  clear HC9
  try clear c1
  try clear c2
  try clear p2
  try clear c6
  try clear c13
  try clear c15
  try clear c16
  try clear c19
  try clear c19b0
  try clear c19b1
  try clear hcz14_0
  try clear hcz14_1
  try clear hcz14_2
  try clear hcz16_0
  try clear hcz16_1
  try clear hcz16_2
  try clear hfz14_0
  try clear hfz14_1
  try clear hfz14_2
  try clear hfz16_0
  try clear hfz16_1
  try clear hfz16_2
  obtain ⟨kq, x37_8, rfl, HA, HJ8, HO_11, BK304, HB⟩ := hcut
  cases kq with
  | zero => exact absurd HA.out (by simp [awardingbodylaw20_BubbleDarker.j0])
  | succ kj8 =>
   have H := HA.out
   clear HA
   simp only [awardingbodylaw20_BubbleDarker.j0] at H
   by_cases c20 : x37_8 = true
   ·subst c20
    have H1 : (none) = some r := by rw [if_pos rfl] at H; exact H
    clear H
    have H := H1
    clear H1
    exact absurd H (by simp)
   ·replace c20 := Bool.eq_false_iff.mpr c20
    subst c20
    have H1 : (if t309 < 0 then ((awardingbodylaw20_awake.f kj8).bind fun t311 => (some t311)) else (if 0 ≤ t309 then (if t309 < (t305.length : Int) then ((awardingbodymake_Cut.f a1 9).bind fun t313 => ((some (t305.set (t309 : Int).toNat (mn 9 (wrap64 ((rd t305 t309) + t313))) : List Int)).bind fun y314 => ((bubble_Judge.f kj8 t300 t301 t302 y314).bind fun bt315 => ((awardingbodymake_Cut.f a2 (t305.length : Int)).bind fun t317 => (if t317 = t309 then ((bubble_Judge.f kj8 t300 t301 t302 y314).bind fun bt318 => (if bt315.2 = 0 then (if bt318.2 = 0 then (if bt315.1 = t309 then (if bt318.1 = t309 then ((awardingbodylaw20_awake.f kj8).bind fun t320 => (some t320)) else (none)) else (none)) else (none)) else (none))) else (if 0 ≤ t317 then (if t317 < (t305.length : Int) then ((awardingbodymake_Cut.f a3 9).bind fun t322 => ((bubble_Judge.f kj8 t300 t301 t302 (y314.set (t317 : Int).toNat (mx 0 (wrap64 ((rd y314 t317) - t322))))).bind fun bt324 => (if bt315.2 = 0 then (if bt324.2 = 0 then (if bt315.1 = t309 then (if bt324.1 = t309 then ((awardingbodylaw20_awake.f kj8).bind fun t326 => (some t326)) else (none)) else (none)) else (none)) else (none)))) else (none)) else (none))))))) else (none)) else (none))) = some r := by rw [if_neg (show ¬ (false = true) by decide)] at H; exact H
    clear H
    have H := H1
    clear H1
    by_cases c21 : t309 < 0
    ·rw [if_pos c21] at H
     have c21b0 : decide (t309 < 0) = true := decide_eq_true c21
     clear c21
     replace H := Option.bind_eq_some_iff.mp H
     obtain ⟨t311, A220, H⟩ := H
     replace H : (some t311) = some r := H
     have A22 := Aside0.mk A220
     clear A220
     obtain rfl := Option.some.inj H
     go_wp2_with (first | ((with_reducible refine gate_callee (f := 14) rfl ?_); refine goesL_ (some 40) rfl rfl Try.func14 (by kernel_rfl) rfl #[] rfl (by (try simp only [List.map_toArray, List.map_cons, List.map_nil]); first | done | rfl | (simp only [List.length_drop, List.length_take]; rfl)) ?_; (with_reducible refine (awardingbodylaw20_awake.calls kj8  t311 _ A22.out).mono ?_); rintro e w23 ⟨rfl, hb⟩; refine ⟨_, rfl, ?_⟩; have n0_ := Aside0.mk (Kd.R_below (by (with_reducible repeat (first | apply Kd.R_alloc | apply Kd.R_drewN | apply Kd.R_drew)); exact HO_11.out) hb); have n1_ := Aside0.mk (blk_below (g := gb304) (o := .cells #[.int .i64 t300, .int .i64 t301, .int .i64 t302] 23 (0, 0)) (by (with_reducible repeat (first | refine blk_drewN ?_ _ | refine blk_drew ?_ | refine blk_alloc ?_ _)); exact BK304.out) hb); have n2_ := Aside0.mk (below_step (by repeat (first | (with_reducible first | exact HB.out | apply below_alloc | apply pw_below_drewN | apply below_drew1 | refine below_set ?_ GE304.out) | exact HB.out)) hb); clear HO_11; clear BK304; clear HB; have HO_11 := n0_; have BK304 := n1_; have HB := n2_; clear n0_ n1_ n2_; (try clear hb); (try clear hb2); (try clear hk); (try clear hi)))
     go_ret
     exact ⟨by first | rfl | (simp [errW_none, errW_some] <;> rfl) | (simp [*, errW_none, errW_some] <;> rfl), by repeat (first | (with_reducible first | exact HB.out | apply below_alloc | apply pw_below_drewN | apply below_drew1 | refine below_set ?_ GE304.out) | exact HB.out)⟩
    ·rw [if_neg c21] at H
     have c21b0 : decide (t309 < 0) = false := decide_eq_false c21
     clear c21
     by_cases c24 : 0 ≤ t309
     ·rw [if_pos c24] at H
      have c24b0 : decide (0 ≤ t309) = true := decide_eq_true c24
      clear c24
      by_cases c25 : t309 < (t305.length : Int)
      ·rw [if_pos c25] at H
       have c25b0 : decide (t309 < (t305.length : Int)) = true := decide_eq_true c25
       clear c25
       replace H := Option.bind_eq_some_iff.mp H
       obtain ⟨t313, A260, H⟩ := H
       replace H : ((some (t305.set (t309 : Int).toNat (mn 9 (wrap64 ((rd t305 t309) + t313))) : List Int)).bind fun y314 => ((bubble_Judge.f kj8 t300 t301 t302 y314).bind fun bt315 => ((awardingbodymake_Cut.f a2 (t305.length : Int)).bind fun t317 => (if t317 = t309 then ((bubble_Judge.f kj8 t300 t301 t302 y314).bind fun bt318 => (if bt315.2 = 0 then (if bt318.2 = 0 then (if bt315.1 = t309 then (if bt318.1 = t309 then ((awardingbodylaw20_awake.f kj8).bind fun t320 => (some t320)) else (none)) else (none)) else (none)) else (none))) else (if 0 ≤ t317 then (if t317 < (t305.length : Int) then ((awardingbodymake_Cut.f a3 9).bind fun t322 => ((bubble_Judge.f kj8 t300 t301 t302 (y314.set (t317 : Int).toNat (mx 0 (wrap64 ((rd y314 t317) - t322))))).bind fun bt324 => (if bt315.2 = 0 then (if bt324.2 = 0 then (if bt315.1 = t309 then (if bt324.1 = t309 then ((awardingbodylaw20_awake.f kj8).bind fun t326 => (some t326)) else (none)) else (none)) else (none)) else (none)))) else (none)) else (none)))))) = some r := H
       have A26 := Aside0.mk A260
       clear A260
       obtain ⟨ji27, hji27⟩ : ∃ j_ : Int, (mn 9 (wrap64 ((rd t305 t309) + t313))) = j_ := ⟨_, rfl⟩
       replace H : ((some (t305.set (t309 : Int).toNat (ji27) : List Int)).bind fun y314 => ((bubble_Judge.f kj8 t300 t301 t302 y314).bind fun bt315 => ((awardingbodymake_Cut.f a2 (t305.length : Int)).bind fun t317 => (if t317 = t309 then ((bubble_Judge.f kj8 t300 t301 t302 y314).bind fun bt318 => (if bt315.2 = 0 then (if bt318.2 = 0 then (if bt315.1 = t309 then (if bt318.1 = t309 then ((awardingbodylaw20_awake.f kj8).bind fun t320 => (some t320)) else (none)) else (none)) else (none)) else (none))) else (if 0 ≤ t317 then (if t317 < (t305.length : Int) then ((awardingbodymake_Cut.f a3 9).bind fun t322 => ((bubble_Judge.f kj8 t300 t301 t302 (y314.set (t317 : Int).toNat (mx 0 (wrap64 ((rd y314 t317) - t322))))).bind fun bt324 => (if bt315.2 = 0 then (if bt324.2 = 0 then (if bt315.1 = t309 then (if bt324.1 = t309 then ((awardingbodylaw20_awake.f kj8).bind fun t326 => (some t326)) else (none)) else (none)) else (none)) else (none)))) else (none)) else (none)))))) = some r := by first | (rw [hji27] at H; exact H) | (simp only [hji27] at H ⊢; exact H)
       (try rw [hji27] at A26)
       have hji27_ : (if (wrap64 ((rd t305 t309) + t313)) < 9 then (wrap64 ((rd t305 t309) + t313)) else 9) = ji27 := hji27
       obtain ⟨y314, hy314⟩ : ∃ y_ : List Int, y_ = (t305.set (t309 : Int).toNat (ji27)) := ⟨_, rfl⟩
       replace H : ((bubble_Judge.f kj8 t300 t301 t302 y314).bind fun bt315 => ((awardingbodymake_Cut.f a2 (t305.length : Int)).bind fun t317 => (if t317 = t309 then ((bubble_Judge.f kj8 t300 t301 t302 y314).bind fun bt318 => (if bt315.2 = 0 then (if bt318.2 = 0 then (if bt315.1 = t309 then (if bt318.1 = t309 then ((awardingbodylaw20_awake.f kj8).bind fun t320 => (some t320)) else (none)) else (none)) else (none)) else (none))) else (if 0 ≤ t317 then (if t317 < (t305.length : Int) then ((awardingbodymake_Cut.f a3 9).bind fun t322 => ((bubble_Judge.f kj8 t300 t301 t302 (y314.set (t317 : Int).toNat (mx 0 (wrap64 ((rd y314 t317) - t322))))).bind fun bt324 => (if bt315.2 = 0 then (if bt324.2 = 0 then (if bt315.1 = t309 then (if bt324.1 = t309 then ((awardingbodylaw20_awake.f kj8).bind fun t326 => (some t326)) else (none)) else (none)) else (none)) else (none)))) else (none)) else (none))))) = some r := by first | (rw [hy314]; with_reducible exact H) | (have H2_ := (Option.bind_some _ _).symm.trans H; rw [hy314]; with_reducible exact H2_) | (have H2_ := (Option.bind_some _ _).symm.trans H; with_reducible exact H2_) | with_reducible exact H | (rw [hy314]; exact H) | exact H
       have Ny314 := Aside0.mk hy314
       clear hy314
       replace H := Option.bind_eq_some_iff.mp H
       obtain ⟨⟨t315, t316⟩, A290, H⟩ := H
       replace H : ((awardingbodymake_Cut.f a2 (t305.length : Int)).bind fun t317 => (if t317 = t309 then ((bubble_Judge.f kj8 t300 t301 t302 y314).bind fun bt318 => (if t316 = 0 then (if bt318.2 = 0 then (if t315 = t309 then (if bt318.1 = t309 then ((awardingbodylaw20_awake.f kj8).bind fun t320 => (some t320)) else (none)) else (none)) else (none)) else (none))) else (if 0 ≤ t317 then (if t317 < (t305.length : Int) then ((awardingbodymake_Cut.f a3 9).bind fun t322 => ((bubble_Judge.f kj8 t300 t301 t302 (y314.set (t317 : Int).toNat (mx 0 (wrap64 ((rd y314 t317) - t322))))).bind fun bt324 => (if t316 = 0 then (if bt324.2 = 0 then (if t315 = t309 then (if bt324.1 = t309 then ((awardingbodylaw20_awake.f kj8).bind fun t326 => (some t326)) else (none)) else (none)) else (none)) else (none)))) else (none)) else (none)))) = some r := H
       have A29 := Aside0.mk A290
       clear A290
       replace H := Option.bind_eq_some_iff.mp H
       obtain ⟨t317, A300, H⟩ := H
       replace H : (if t317 = t309 then ((bubble_Judge.f kj8 t300 t301 t302 y314).bind fun bt318 => (if t316 = 0 then (if bt318.2 = 0 then (if t315 = t309 then (if bt318.1 = t309 then ((awardingbodylaw20_awake.f kj8).bind fun t320 => (some t320)) else (none)) else (none)) else (none)) else (none))) else (if 0 ≤ t317 then (if t317 < (t305.length : Int) then ((awardingbodymake_Cut.f a3 9).bind fun t322 => ((bubble_Judge.f kj8 t300 t301 t302 (y314.set (t317 : Int).toNat (mx 0 (wrap64 ((rd y314 t317) - t322))))).bind fun bt324 => (if t316 = 0 then (if bt324.2 = 0 then (if t315 = t309 then (if bt324.1 = t309 then ((awardingbodylaw20_awake.f kj8).bind fun t326 => (some t326)) else (none)) else (none)) else (none)) else (none)))) else (none)) else (none))) = some r := H
       have A30 := Aside0.mk A300
       clear A300
       by_cases c31 : t317 = t309
       ·rw [if_pos c31] at H
        have c31b0 : (t317 == t309) = true := beq_iff_eq.mpr c31
        have c31b1 : (t317 != t309) = false := bne_eq_false_iff_eq.mpr c31
        clear c31
        replace H := Option.bind_eq_some_iff.mp H
        obtain ⟨⟨t318, t319⟩, A320, H⟩ := H
        replace H : (if t316 = 0 then (if t319 = 0 then (if t315 = t309 then (if t318 = t309 then ((awardingbodylaw20_awake.f kj8).bind fun t320 => (some t320)) else (none)) else (none)) else (none)) else (none)) = some r := H
        have A32 := Aside0.mk A320
        clear A320
        by_cases c33 : t316 = 0
        ·rw [if_pos c33] at H
         have c33b0 : (t316 == 0) = true := beq_iff_eq.mpr c33
         have c33b1 : (t316 != 0) = false := bne_eq_false_iff_eq.mpr c33
         clear c33
         by_cases c34 : t319 = 0
         ·rw [if_pos c34] at H
          have c34b0 : (t319 == 0) = true := beq_iff_eq.mpr c34
          have c34b1 : (t319 != 0) = false := bne_eq_false_iff_eq.mpr c34
          clear c34
          by_cases c35 : t315 = t309
          ·rw [if_pos c35] at H
           have c35b0 : (t315 == t309) = true := beq_iff_eq.mpr c35
           have c35b1 : (t315 != t309) = false := bne_eq_false_iff_eq.mpr c35
           clear c35
           by_cases c36 : t318 = t309
           ·rw [if_pos c36] at H
            have c36b0 : (t318 == t309) = true := beq_iff_eq.mpr c36
            have c36b1 : (t318 != t309) = false := bne_eq_false_iff_eq.mpr c36
            clear c36
            replace H := Option.bind_eq_some_iff.mp H
            obtain ⟨t320, A370, H⟩ := H
            replace H : (some t320) = some r := H
            have A37 := Aside0.mk A370
            clear A370
            obtain rfl := Option.some.inj H
            try go_wp2
            have n0_ := Aside0.mk (Kd.R_drew HO_11.out)
            have n1_ := Aside0.mk (blk_drew BK304.out)
            have n2_ := Aside0.mk (below_drew1 HB.out)
            clear HO_11
            clear BK304
            clear HB
            have HO_11 := n0_
            have BK304 := n1_
            have HB := n2_
            clear n0_ n1_ n2_
            have p312 : 0 ≤ (t309 : Int) := of_decide_eq_true (by first | (with_reducible assumption) | assumption)
            have q312 : t309 < (t305.length : Int) := of_decide_eq_true (by first | (with_reducible assumption) | assumption)
            obtain ⟨ad312, e312, hx312_0⟩ := Kd.at_int (Kd.R_reads' HO_11.out).2.2 t309 p312 q312
            cases e312
            replace p312 := eq_true p312
            replace q312 := eq_true q312
            refine start_ (n := 12) (S := fun w' => w'.cell? (ad312.add (t309).toNat) = some (.int .i64 (rd t305 t309))) (ds := [11]) #[false, false, false, false, false, false, false, false, false, false, false, false] (by kernel_rfl) rfl rfl (hx312_0) (fun hHeld => ?_); refine with_tabW awardingbodylaw20_BubbleDarker.tab9 awardingbodylaw20_BubbleDarker.bits9 (fun HT_ HW_ => ?_)
            generalize wc.drew = w38 at HO_11 BK304 HB hx312_0 hHeld ⊢
            refine pure_ (i := 0) (N := some 41) (v := ?_) (a' := ?_) #[true, false, false, false, false, false, false, false, false, false, false, false] rfl rfl (any_of HT_.out (by kernel_rfl)) (fun _ _ _ h => h) (Or.inl ⟨by rfl, ?_⟩) ?_ ?_
            rotate_left
            ·intro w'
             go_simp
             with_reducible rfl
            rotate_left
            ·simp only [Act.put, List.setIfInBounds_toArray, List.set_cons_zero, List.set_cons_succ, i64_w, i32_w]
             rfl
            refine pure_ (i := 1) (N := some 42) (v := ?_) (a' := ?_) #[true, true, false, false, false, false, false, false, false, false, false, false] rfl rfl (any_of HT_.out (by kernel_rfl)) (fun _ _ _ h => h) (Or.inl ⟨by rfl, ?_⟩) ?_ ?_
            rotate_left
            ·intro w'
             go_simp
             with_reducible rfl
            rotate_left
            ·simp only [Act.put, List.setIfInBounds_toArray, List.set_cons_zero, List.set_cons_succ, i64_w, i32_w]
             rfl
            refine pure_ (i := 2) (N := some 43) (v := ?_) (a' := ?_) #[true, true, true, false, false, false, false, false, false, false, false, false] rfl rfl (any_of HT_.out (by kernel_rfl)) (fun _ _ _ h => h) (Or.inl ⟨by rfl, ?_⟩) ?_ ?_
            rotate_left
            ·intro w'
             go_simp
             with_reducible rfl
            rotate_left
            ·simp only [Act.put, List.setIfInBounds_toArray, List.set_cons_zero, List.set_cons_succ, i64_w, i32_w]
             rfl
            refine pure_ (i := 3) (N := some 44) (v := ?_) (a' := ?_) #[true, true, true, true, false, false, false, false, false, false, false, false] rfl rfl (any_of HT_.out (by kernel_rfl)) (fun _ _ _ h => h) (Or.inl ⟨by rfl, ?_⟩) ?_ ?_
            rotate_left
            ·intro w'
             go_simp
             with_reducible rfl
            rotate_left
            ·simp only [Act.put, List.setIfInBounds_toArray, List.set_cons_zero, List.set_cons_succ, i64_w, i32_w]
             rfl
            refine pure_ (i := 4) (N := some 45) (v := ?_) (a' := ?_) #[true, true, true, true, true, false, false, false, false, false, false, false] rfl rfl (any_of HT_.out (by kernel_rfl)) (fun _ _ _ h => h) (Or.inl ⟨by rfl, ?_⟩) ?_ ?_
            rotate_left
            ·intro w'
             go_simp
             with_reducible rfl
            rotate_left
            ·simp only [Act.put, List.setIfInBounds_toArray, List.set_cons_zero, List.set_cons_succ, i64_w, i32_w]
             rfl
            refine pure_ (i := 6) (N := some 47) (v := ?_) (a' := ?_) #[true, true, true, true, true, false, true, false, false, false, false, false] rfl rfl (any_of HT_.out (by kernel_rfl)) (fun _ _ _ h => h) (Or.inl ⟨by rfl, ?_⟩) ?_ ?_
            rotate_left
            ·intro w'
             go_simp
             with_reducible rfl
            rotate_left
            ·simp only [Act.put, List.setIfInBounds_toArray, List.set_cons_zero, List.set_cons_succ, i64_w, i32_w]
             rfl
            refine take_ (i := 5) (N := some 46) (v := ?_) (a' := ?_) #[true, true, true, true, true, true, true, false, false, false, false, false] rfl rfl (take_ofW HT_.out HW_.out (by kernel_rfl)) (fun _ _ _ h => h) (Or.inl ⟨by rfl, ?_⟩) hHeld ?_ ?_
            rotate_left
            ·intro w' s0
             go_simp
             with_reducible rfl
            rotate_left
            ·simp only [Act.put, List.setIfInBounds_toArray, List.set_cons_zero, List.set_cons_succ, i64_w, i32_w]
             rfl
            refine one_ (i := 7) (N := some 48) #[true, true, true, true, true, true, true, true, false, false, false, false] rfl rfl (one_of HT_.out (by kernel_rfl)) (by decide) (fun K hK => ?_)
            refine goes_ Try.func11 (by kernel_rfl) rfl #[.int .i64 a1, .int .i64 9] (by rfl) rfl rfl (by (try simp only [List.map_toArray, List.map_cons, List.map_nil]); first | done | rfl | (simp only [List.length_drop, List.length_take]; rfl)) ?_
            with_reducible refine (awardingbodymake_Cut.calls a1 9 t313 _ A26.out).mono ?_
            rintro e w' ⟨rfl, ⟨nd, rfl⟩⟩
            refine ⟨_, rfl, ?_⟩
            have p28 : 0 ≤ (t309 : Int) := of_decide_eq_true (by first | (with_reducible assumption) | assumption)
            have q28 : (t309 : Int) < ((t305.length : Int) : Int) := of_decide_eq_true (by first | (with_reducible assumption) | assumption)
            obtain ⟨go28, co28, eo28, gb28, gl28, cl28, HG28⟩ := Kd.R_form HO_11.out (by omega)
            (first | cases eo28 | (injection eo28 with ea_ en_ ec_; (first | subst ea_ | (injection ea_ with ea_; subst ea_)); subst ec_; clear en_))
            have GB28 := Aside0.mk gb28
            have GG28 := Aside0.mk HG28
            clear gb28 gl28 HG28
            (first | simp only [add_plain] at hx312_0 | skip)
            obtain ⟨hx28_0, hf28_0⟩ := Kd.R_celln 0 HO_11.out (t309 : Int) p28 q28
            replace p28 := eq_true p28
            replace q28 := eq_true q28
            have HP39 := Kd.R_putn HO_11.out (t309 : Int) ji27
            rw [← Ny314.out] at HP39
            have HQ39 := Aside0.mk HP39
            clear HP39
            refine hK.out _ _ (hHeld) (fun hHeld => ?_)
            clear hK K
            refine norm_ (a' := ?_) ?_ ?_
            rotate_left
            ·show Act.put _ (some 48) _ = _
             simp only [Act.put, List.setIfInBounds_toArray, List.set_cons_zero, List.set_cons_succ, i64_w, i32_w]
             rfl
            refine pure_ (i := 8) (N := some 49) (v := ?_) (a' := ?_) #[true, true, true, true, true, true, true, true, true, false, false, false] rfl rfl (any_of HT_.out (by kernel_rfl)) (fun _ _ _ h => h) (Or.inl ⟨by rfl, ?_⟩) ?_ ?_
            rotate_left
            ·intro w'
             go_simp
             with_reducible rfl
            rotate_left
            ·simp only [Act.put, List.setIfInBounds_toArray, List.set_cons_zero, List.set_cons_succ, i64_w, i32_w]
             rfl
            refine pure_ (i := 9) (N := some 50) (v := ?_) (a' := ?_) #[true, true, true, true, true, true, true, true, true, true, false, false] rfl rfl (any_of HT_.out (by kernel_rfl)) (fun _ _ _ h => h) (Or.inl ⟨by rfl, ?_⟩) ?_ ?_
            rotate_left
            ·intro w'
             go_simp
             with_reducible rfl
            rotate_left
            ·simp only [Act.put, List.setIfInBounds_toArray, List.set_cons_zero, List.set_cons_succ, i64_w, i32_w]
             rfl
            refine pure_ (i := 10) (N := some 51) (v := ?_) (a' := ?_) #[true, true, true, true, true, true, true, true, true, true, true, false] rfl rfl (any_of HT_.out (by kernel_rfl)) (fun _ _ _ h => h) (Or.inl ⟨by rfl, ?_⟩) ?_ ?_
            rotate_left
            ·intro w'
             go_simp
             with_reducible rfl
            rotate_left
            ·simp only [Act.put, List.setIfInBounds_toArray, List.set_cons_zero, List.set_cons_succ, i64_w, i32_w]
             rfl
            refine last_ (i := 11) (N := none) #[true, true, true, true, true, true, true, true, true, true, true, true] rfl rfl (one_of HT_.out (by kernel_rfl)) (by decide) (fun K hK => ?_)
            refine skip_ (w1 := ?_) (by rfl) rfl ?_ ?_
            rotate_left
            ·go_simp
             rfl
            refine hK.out _ _ ?_
            clear hK K
            refine done_ (done_of HT_.out (by kernel_rfl)) ?_
            have hnx_ : gb304 ≠ go28 := by have h_ := Kd.R_ne HO_11.out BK304.out (by decide); intro e_; exact h_ (by rw [e_]; rfl)
            have hny_ : go28 ≠ gb304 := Ne.symm hnx_
            have hcz40_0 : w38.cell? ⟨gb304, 0, none⟩ = some (.int .i64 t300) := (blk_cell BK304.out 0).trans rfl
            have hcz40_1 : w38.cell? ⟨gb304, 1, none⟩ = some (.int .i64 t301) := (blk_cell BK304.out 1).trans rfl
            have hcz40_2 : w38.cell? ⟨gb304, 2, none⟩ = some (.int .i64 t302) := (blk_cell BK304.out 2).trans rfl
            have hfz40_0 := blk_frozen BK304.out 0
            have hfz40_1 := blk_frozen BK304.out 1
            have hfz40_2 := blk_frozen BK304.out 2
            try go_wp2_with (first | ((with_reducible refine gate_callee (f := 21) rfl ?_); refine goesL_ (some 55) rfl rfl Try.func21 (by kernel_rfl) rfl #[.agg #[.int .i64 t300, .int .i64 t301, .int .i64 t302], .slice (some ⟨go28, 0, none⟩) y314.length co17] rfl (by (try simp only [List.map_toArray, List.map_cons, List.map_nil]); first | done | (rw [show y314.length = t305.length from (Kd.R_reads' HQ39.out).1.symm] <;> rfl) | rfl | (simp only [List.length_drop, List.length_take]; rfl)) ?_; (with_reducible refine (bubble_Judge.calls kj8 t300 t301 t302 _ _ y314 t315 t316 _ ?side1 ?side2 A29.out).mono ?_); (case side1 => refine (Kd.R_reads' (e := 3) (base := w.heap.size) (ok := fun k_ => True) (n := t305.length) (c := co17) ?_).2.2; exact (by (with_reducible repeat (first | apply Kd.R_alloc | apply Kd.R_drewN | apply Kd.R_drew)); exact HQ39.out)); (case side2 => rw [show y314.length = t305.length from (Kd.R_reads' HQ39.out).1.symm]; exact (Kd.R_reads' HO_11.out).2.1); rintro e w41 ⟨rfl, hb⟩; refine ⟨_, rfl, ?_⟩; have n0_ := Aside0.mk (Kd.R_below (by (with_reducible repeat (first | apply Kd.R_alloc | apply Kd.R_drewN | apply Kd.R_drew)); exact HQ39.out) hb); have n1_ := Aside0.mk (blk_below (g := gb304) (o := .cells #[.int .i64 t300, .int .i64 t301, .int .i64 t302] 23 (0, 0)) (by (with_reducible repeat (first | refine blk_drewN ?_ _ | refine blk_drew ?_ | refine blk_alloc ?_ _)); refine blk_far ?_ (by have h_ := Kd.R_ne HO_11.out BK304.out (by decide); intro e_; exact h_ (by rw [e_]; rfl)) _; (with_reducible repeat (first | refine blk_drewN ?_ _ | refine blk_drew ?_ | refine blk_alloc ?_ _)); exact BK304.out) hb); have n2_ := Aside0.mk (below_step (by repeat (first | (with_reducible first | exact HB.out | apply below_alloc | apply pw_below_drewN | apply below_drew1 | refine below_set ?_ GB28.out | refine below_set ?_ GE304.out) | exact HB.out)) hb); clear HO_11; clear BK304; clear HB; have HO_11 := n0_; have BK304 := n1_; have HB := n2_; clear n0_ n1_ n2_; (try clear hb); (try clear hb2); (try clear hk); (try clear hi)) | ((with_reducible refine gate_callee (f := 11) rfl ?_); refine goesL_ (some 61) rfl rfl Try.func11 (by kernel_rfl) rfl #[.int .i64 a2, .int .i64 (t305.length : Int)] rfl (by (try simp only [List.map_toArray, List.map_cons, List.map_nil]); first | done | rfl | (simp only [List.length_drop, List.length_take]; rfl)) ?_; (with_reducible refine (awardingbodymake_Cut.calls a2 (t305.length : Int) t317 _ A30.out).mono ?_); rintro e w' ⟨rfl, ⟨nd, rfl⟩⟩; refine ⟨_, rfl, ?_⟩; have hcz42_0 : w41.cell? ⟨gb304, 0, none⟩ = some (.int .i64 t300) := (blk_cell BK304.out 0).trans rfl; have hcz42_1 : w41.cell? ⟨gb304, 1, none⟩ = some (.int .i64 t301) := (blk_cell BK304.out 1).trans rfl; have hcz42_2 : w41.cell? ⟨gb304, 2, none⟩ = some (.int .i64 t302) := (blk_cell BK304.out 2).trans rfl; have hfz42_0 := blk_frozen BK304.out 0; have hfz42_1 := blk_frozen BK304.out 1; have hfz42_2 := blk_frozen BK304.out 2) | ((with_reducible refine gate_callee (f := 21) rfl ?_); refine goesL_ (some 79) rfl rfl Try.func21 (by kernel_rfl) rfl #[.agg #[.int .i64 t300, .int .i64 t301, .int .i64 t302], .slice (some ⟨go28, 0, none⟩) y314.length co17] rfl (by (try simp only [List.map_toArray, List.map_cons, List.map_nil]); first | done | (rw [show y314.length = t305.length from (Kd.R_reads' HO_11.out).1.symm] <;> rfl) | rfl | (simp only [List.length_drop, List.length_take]; rfl)) ?_; (with_reducible refine (bubble_Judge.calls kj8 t300 t301 t302 _ _ y314 t318 t319 _ ?side1 ?side2 A32.out).mono ?_); (case side1 => repeat (first | exact (Kd.R_reads' HO_11.out).2.2 | (with_reducible refine Kd.C_alloc ?_ _) | (with_reducible refine Kd.C_drewN ?_ _) | (with_reducible refine Kd.C_drew ?_))); (case side2 => rw [show y314.length = t305.length from (Kd.R_reads' HO_11.out).1.symm]; exact (Kd.R_reads' HO_11.out).2.1); rintro e w43 ⟨rfl, hb⟩; refine ⟨_, rfl, ?_⟩; have n0_ := Aside0.mk (Kd.R_below (by (with_reducible repeat (first | apply Kd.R_alloc | apply Kd.R_drewN | apply Kd.R_drew)); exact HO_11.out) hb); have n1_ := Aside0.mk (blk_below (g := gb304) (o := .cells #[.int .i64 t300, .int .i64 t301, .int .i64 t302] 23 (0, 0)) (by (with_reducible repeat (first | refine blk_drewN ?_ _ | refine blk_drew ?_ | refine blk_alloc ?_ _)); exact BK304.out) hb); have n2_ := Aside0.mk (below_step (by repeat (first | (with_reducible first | exact HB.out | apply below_alloc | apply pw_below_drewN | apply below_drew1 | refine below_set ?_ GE304.out) | exact HB.out)) hb); clear HO_11; clear BK304; clear HB; have HO_11 := n0_; have BK304 := n1_; have HB := n2_; clear n0_ n1_ n2_; (try clear hb); (try clear hb2); (try clear hk); (try clear hi)) | (go_at_call 14; (with_reducible refine (awardingbodylaw20_awake.calls kj8  t320 _ A37.out).mono ?_); rintro e w44 ⟨rfl, hb⟩; have n0_ := Aside0.mk (Kd.R_below (by (with_reducible repeat (first | apply Kd.R_alloc | apply Kd.R_drewN | apply Kd.R_drew)); exact HO_11.out) hb); have n1_ := Aside0.mk (blk_below (g := gb304) (o := .cells #[.int .i64 t300, .int .i64 t301, .int .i64 t302] 23 (0, 0)) (by (with_reducible repeat (first | refine blk_drewN ?_ _ | refine blk_drew ?_ | refine blk_alloc ?_ _)); exact BK304.out) hb); have n2_ := Aside0.mk (below_step (by repeat (first | (with_reducible first | exact HB.out | apply below_alloc | apply pw_below_drewN | apply below_drew1 | refine below_set ?_ GE304.out) | exact HB.out)) hb); clear HO_11; clear BK304; clear HB; have HO_11 := n0_; have BK304 := n1_; have HB := n2_; clear n0_ n1_ n2_; (try clear hb); (try clear hb2); (try clear hk); (try clear hi)))
            go_ret
            exact ⟨by first | rfl | (simp [errW_none, errW_some] <;> rfl) | (simp only [← hji27]; first | rfl | (simp [errW_none, errW_some] <;> rfl)) | (simp [*, errW_none, errW_some] <;> rfl), by repeat (first | (with_reducible first | exact HB.out | apply below_alloc | apply pw_below_drewN | apply below_drew1 | refine below_set ?_ GE304.out) | exact HB.out)⟩
           ·rw [if_neg c36] at H
            exact absurd H (by simp)
          ·rw [if_neg c35] at H
           exact absurd H (by simp)
         ·rw [if_neg c34] at H
          exact absurd H (by simp)
        ·rw [if_neg c33] at H
         exact absurd H (by simp)
       ·rw [if_neg c31] at H
        have c31b0 : (t317 == t309) = false := beq_eq_false_iff_ne.mpr c31
        have c31b1 : (t317 != t309) = true := bne_iff_ne.mpr c31
        by_cases c45 : 0 ≤ t317
        ·rw [if_pos c45] at H
         have c45b0 : decide (0 ≤ t317) = true := decide_eq_true c45
         clear c45
         by_cases c46 : t317 < (t305.length : Int)
         ·rw [if_pos c46] at H
          have c46b0 : decide (t317 < (t305.length : Int)) = true := decide_eq_true c46
          clear c46
          replace H := Option.bind_eq_some_iff.mp H
          obtain ⟨t322, A470, H⟩ := H
          replace H : ((bubble_Judge.f kj8 t300 t301 t302 (y314.set (t317 : Int).toNat (mx 0 (wrap64 ((rd y314 t317) - t322))))).bind fun bt324 => (if t316 = 0 then (if bt324.2 = 0 then (if t315 = t309 then (if bt324.1 = t309 then ((awardingbodylaw20_awake.f kj8).bind fun t326 => (some t326)) else (none)) else (none)) else (none)) else (none))) = some r := H
          have A47 := Aside0.mk A470
          clear A470
          obtain ⟨ji48, hji48⟩ : ∃ j_ : Int, (mx 0 (wrap64 ((rd y314 t317) - t322))) = j_ := ⟨_, rfl⟩
          replace H : ((bubble_Judge.f kj8 t300 t301 t302 (y314.set (t317 : Int).toNat (ji48))).bind fun bt324 => (if t316 = 0 then (if bt324.2 = 0 then (if t315 = t309 then (if bt324.1 = t309 then ((awardingbodylaw20_awake.f kj8).bind fun t326 => (some t326)) else (none)) else (none)) else (none)) else (none))) = some r := by first | (rw [hji48] at H; exact H) | (simp only [hji48] at H ⊢; exact H)
          (try rw [hji48] at A26)
          (try rw [hji48] at A29)
          (try rw [hji48] at A30)
          (try rw [hji48] at A47)
          (try (have hji48l : 0 ≤ ji48 := by (rw [← hji48]; unfold mx; (repeat' split) <;> omega)))
          (try (have hji48m : 0 ≤ ji48 := by omega))
          have hji48_ : (if 0 < (wrap64 ((rd y314 t317) - t322)) then (wrap64 ((rd y314 t317) - t322)) else 0) = ji48 := hji48
          obtain ⟨y323, hy323⟩ : ∃ y_ : List Int, y_ = (y314.set (t317 : Int).toNat (ji48)) := ⟨_, rfl⟩
          replace H : ((bubble_Judge.f kj8 t300 t301 t302 y323).bind fun bt324 => (if t316 = 0 then (if bt324.2 = 0 then (if t315 = t309 then (if bt324.1 = t309 then ((awardingbodylaw20_awake.f kj8).bind fun t326 => (some t326)) else (none)) else (none)) else (none)) else (none))) = some r := by first | (rw [hy323]; with_reducible exact H) | (have H2_ := (Option.bind_some _ _).symm.trans H; rw [hy323]; with_reducible exact H2_) | (have H2_ := (Option.bind_some _ _).symm.trans H; with_reducible exact H2_) | with_reducible exact H | (rw [hy323]; exact H) | exact H
          have Ny323 := Aside0.mk hy323
          clear hy323
          replace H := Option.bind_eq_some_iff.mp H
          obtain ⟨⟨t324, t325⟩, A500, H⟩ := H
          replace H : (if t316 = 0 then (if t325 = 0 then (if t315 = t309 then (if t324 = t309 then ((awardingbodylaw20_awake.f kj8).bind fun t326 => (some t326)) else (none)) else (none)) else (none)) else (none)) = some r := H
          have A50 := Aside0.mk A500
          clear A500
          by_cases c51 : t316 = 0
          ·rw [if_pos c51] at H
           have c51b0 : (t316 == 0) = true := beq_iff_eq.mpr c51
           have c51b1 : (t316 != 0) = false := bne_eq_false_iff_eq.mpr c51
           clear c51
           by_cases c52 : t325 = 0
           ·rw [if_pos c52] at H
            have c52b0 : (t325 == 0) = true := beq_iff_eq.mpr c52
            have c52b1 : (t325 != 0) = false := bne_eq_false_iff_eq.mpr c52
            clear c52
            by_cases c53 : t315 = t309
            ·rw [if_pos c53] at H
             have c53b0 : (t315 == t309) = true := beq_iff_eq.mpr c53
             have c53b1 : (t315 != t309) = false := bne_eq_false_iff_eq.mpr c53
             clear c53
             by_cases c54 : t324 = t309
             ·rw [if_pos c54] at H
              have c54b0 : (t324 == t309) = true := beq_iff_eq.mpr c54
              have c54b1 : (t324 != t309) = false := bne_eq_false_iff_eq.mpr c54
              clear c54
              replace H := Option.bind_eq_some_iff.mp H
              obtain ⟨t326, A550, H⟩ := H
              replace H : (some t326) = some r := H
              have A55 := Aside0.mk A550
              clear A550
              obtain rfl := Option.some.inj H
              try go_wp2
              have n0_ := Aside0.mk (Kd.R_drew HO_11.out)
              have n1_ := Aside0.mk (blk_drew BK304.out)
              have n2_ := Aside0.mk (below_drew1 HB.out)
              clear HO_11
              clear BK304
              clear HB
              have HO_11 := n0_
              have BK304 := n1_
              have HB := n2_
              clear n0_ n1_ n2_
              have p312 : 0 ≤ (t309 : Int) := of_decide_eq_true (by first | (with_reducible assumption) | assumption)
              have q312 : t309 < (t305.length : Int) := of_decide_eq_true (by first | (with_reducible assumption) | assumption)
              obtain ⟨ad312, e312, hx312_0⟩ := Kd.at_int (Kd.R_reads' HO_11.out).2.2 t309 p312 q312
              cases e312
              replace p312 := eq_true p312
              replace q312 := eq_true q312
              refine start_ (n := 12) (S := fun w' => w'.cell? (ad312.add (t309).toNat) = some (.int .i64 (rd t305 t309))) (ds := [11]) #[false, false, false, false, false, false, false, false, false, false, false, false] (by kernel_rfl) rfl rfl (hx312_0) (fun hHeld => ?_); refine with_tabW awardingbodylaw20_BubbleDarker.tab9 awardingbodylaw20_BubbleDarker.bits9 (fun HT_ HW_ => ?_)
              generalize wc.drew = w56 at HO_11 BK304 HB hx312_0 hHeld ⊢
              refine pure_ (i := 0) (N := some 41) (v := ?_) (a' := ?_) #[true, false, false, false, false, false, false, false, false, false, false, false] rfl rfl (any_of HT_.out (by kernel_rfl)) (fun _ _ _ h => h) (Or.inl ⟨by rfl, ?_⟩) ?_ ?_
              rotate_left
              ·intro w'
               go_simp
               with_reducible rfl
              rotate_left
              ·simp only [Act.put, List.setIfInBounds_toArray, List.set_cons_zero, List.set_cons_succ, i64_w, i32_w]
               rfl
              refine pure_ (i := 1) (N := some 42) (v := ?_) (a' := ?_) #[true, true, false, false, false, false, false, false, false, false, false, false] rfl rfl (any_of HT_.out (by kernel_rfl)) (fun _ _ _ h => h) (Or.inl ⟨by rfl, ?_⟩) ?_ ?_
              rotate_left
              ·intro w'
               go_simp
               with_reducible rfl
              rotate_left
              ·simp only [Act.put, List.setIfInBounds_toArray, List.set_cons_zero, List.set_cons_succ, i64_w, i32_w]
               rfl
              refine pure_ (i := 2) (N := some 43) (v := ?_) (a' := ?_) #[true, true, true, false, false, false, false, false, false, false, false, false] rfl rfl (any_of HT_.out (by kernel_rfl)) (fun _ _ _ h => h) (Or.inl ⟨by rfl, ?_⟩) ?_ ?_
              rotate_left
              ·intro w'
               go_simp
               with_reducible rfl
              rotate_left
              ·simp only [Act.put, List.setIfInBounds_toArray, List.set_cons_zero, List.set_cons_succ, i64_w, i32_w]
               rfl
              refine pure_ (i := 3) (N := some 44) (v := ?_) (a' := ?_) #[true, true, true, true, false, false, false, false, false, false, false, false] rfl rfl (any_of HT_.out (by kernel_rfl)) (fun _ _ _ h => h) (Or.inl ⟨by rfl, ?_⟩) ?_ ?_
              rotate_left
              ·intro w'
               go_simp
               with_reducible rfl
              rotate_left
              ·simp only [Act.put, List.setIfInBounds_toArray, List.set_cons_zero, List.set_cons_succ, i64_w, i32_w]
               rfl
              refine pure_ (i := 4) (N := some 45) (v := ?_) (a' := ?_) #[true, true, true, true, true, false, false, false, false, false, false, false] rfl rfl (any_of HT_.out (by kernel_rfl)) (fun _ _ _ h => h) (Or.inl ⟨by rfl, ?_⟩) ?_ ?_
              rotate_left
              ·intro w'
               go_simp
               with_reducible rfl
              rotate_left
              ·simp only [Act.put, List.setIfInBounds_toArray, List.set_cons_zero, List.set_cons_succ, i64_w, i32_w]
               rfl
              refine pure_ (i := 6) (N := some 47) (v := ?_) (a' := ?_) #[true, true, true, true, true, false, true, false, false, false, false, false] rfl rfl (any_of HT_.out (by kernel_rfl)) (fun _ _ _ h => h) (Or.inl ⟨by rfl, ?_⟩) ?_ ?_
              rotate_left
              ·intro w'
               go_simp
               with_reducible rfl
              rotate_left
              ·simp only [Act.put, List.setIfInBounds_toArray, List.set_cons_zero, List.set_cons_succ, i64_w, i32_w]
               rfl
              refine take_ (i := 5) (N := some 46) (v := ?_) (a' := ?_) #[true, true, true, true, true, true, true, false, false, false, false, false] rfl rfl (take_ofW HT_.out HW_.out (by kernel_rfl)) (fun _ _ _ h => h) (Or.inl ⟨by rfl, ?_⟩) hHeld ?_ ?_
              rotate_left
              ·intro w' s0
               go_simp
               with_reducible rfl
              rotate_left
              ·simp only [Act.put, List.setIfInBounds_toArray, List.set_cons_zero, List.set_cons_succ, i64_w, i32_w]
               rfl
              refine one_ (i := 7) (N := some 48) #[true, true, true, true, true, true, true, true, false, false, false, false] rfl rfl (one_of HT_.out (by kernel_rfl)) (by decide) (fun K hK => ?_)
              refine goes_ Try.func11 (by kernel_rfl) rfl #[.int .i64 a1, .int .i64 9] (by rfl) rfl rfl (by (try simp only [List.map_toArray, List.map_cons, List.map_nil]); first | done | rfl | (simp only [List.length_drop, List.length_take]; rfl)) ?_
              with_reducible refine (awardingbodymake_Cut.calls a1 9 t313 _ A26.out).mono ?_
              rintro e w' ⟨rfl, ⟨nd, rfl⟩⟩
              refine ⟨_, rfl, ?_⟩
              have p28 : 0 ≤ (t309 : Int) := of_decide_eq_true (by first | (with_reducible assumption) | assumption)
              have q28 : (t309 : Int) < ((t305.length : Int) : Int) := of_decide_eq_true (by first | (with_reducible assumption) | assumption)
              obtain ⟨go28, co28, eo28, gb28, gl28, cl28, HG28⟩ := Kd.R_form HO_11.out (by omega)
              (first | cases eo28 | (injection eo28 with ea_ en_ ec_; (first | subst ea_ | (injection ea_ with ea_; subst ea_)); subst ec_; clear en_))
              have GB28 := Aside0.mk gb28
              have GG28 := Aside0.mk HG28
              clear gb28 gl28 HG28
              (first | simp only [add_plain] at hx312_0 | skip)
              obtain ⟨hx28_0, hf28_0⟩ := Kd.R_celln 0 HO_11.out (t309 : Int) p28 q28
              replace p28 := eq_true p28
              replace q28 := eq_true q28
              have HP57 := Kd.R_putn HO_11.out (t309 : Int) ji27
              rw [← Ny314.out] at HP57
              have HQ57 := Aside0.mk HP57
              clear HP57
              refine hK.out _ _ (hHeld) (fun hHeld => ?_)
              clear hK K
              refine norm_ (a' := ?_) ?_ ?_
              rotate_left
              ·show Act.put _ (some 48) _ = _
               simp only [Act.put, List.setIfInBounds_toArray, List.set_cons_zero, List.set_cons_succ, i64_w, i32_w]
               rfl
              refine pure_ (i := 8) (N := some 49) (v := ?_) (a' := ?_) #[true, true, true, true, true, true, true, true, true, false, false, false] rfl rfl (any_of HT_.out (by kernel_rfl)) (fun _ _ _ h => h) (Or.inl ⟨by rfl, ?_⟩) ?_ ?_
              rotate_left
              ·intro w'
               go_simp
               with_reducible rfl
              rotate_left
              ·simp only [Act.put, List.setIfInBounds_toArray, List.set_cons_zero, List.set_cons_succ, i64_w, i32_w]
               rfl
              refine pure_ (i := 9) (N := some 50) (v := ?_) (a' := ?_) #[true, true, true, true, true, true, true, true, true, true, false, false] rfl rfl (any_of HT_.out (by kernel_rfl)) (fun _ _ _ h => h) (Or.inl ⟨by rfl, ?_⟩) ?_ ?_
              rotate_left
              ·intro w'
               go_simp
               with_reducible rfl
              rotate_left
              ·simp only [Act.put, List.setIfInBounds_toArray, List.set_cons_zero, List.set_cons_succ, i64_w, i32_w]
               rfl
              refine pure_ (i := 10) (N := some 51) (v := ?_) (a' := ?_) #[true, true, true, true, true, true, true, true, true, true, true, false] rfl rfl (any_of HT_.out (by kernel_rfl)) (fun _ _ _ h => h) (Or.inl ⟨by rfl, ?_⟩) ?_ ?_
              rotate_left
              ·intro w'
               go_simp
               with_reducible rfl
              rotate_left
              ·simp only [Act.put, List.setIfInBounds_toArray, List.set_cons_zero, List.set_cons_succ, i64_w, i32_w]
               rfl
              refine last_ (i := 11) (N := none) #[true, true, true, true, true, true, true, true, true, true, true, true] rfl rfl (one_of HT_.out (by kernel_rfl)) (by decide) (fun K hK => ?_)
              refine skip_ (w1 := ?_) (by rfl) rfl ?_ ?_
              rotate_left
              ·go_simp
               rfl
              refine hK.out _ _ ?_
              clear hK K
              refine done_ (done_of HT_.out (by kernel_rfl)) ?_
              have hnx_ : gb304 ≠ go28 := by have h_ := Kd.R_ne HO_11.out BK304.out (by decide); intro e_; exact h_ (by rw [e_]; rfl)
              have hny_ : go28 ≠ gb304 := Ne.symm hnx_
              have hcz58_0 : w56.cell? ⟨gb304, 0, none⟩ = some (.int .i64 t300) := (blk_cell BK304.out 0).trans rfl
              have hcz58_1 : w56.cell? ⟨gb304, 1, none⟩ = some (.int .i64 t301) := (blk_cell BK304.out 1).trans rfl
              have hcz58_2 : w56.cell? ⟨gb304, 2, none⟩ = some (.int .i64 t302) := (blk_cell BK304.out 2).trans rfl
              have hfz58_0 := blk_frozen BK304.out 0
              have hfz58_1 := blk_frozen BK304.out 1
              have hfz58_2 := blk_frozen BK304.out 2
              try go_wp2_with (first | ((with_reducible refine gate_callee (f := 21) rfl ?_); refine goesL_ (some 55) rfl rfl Try.func21 (by kernel_rfl) rfl #[.agg #[.int .i64 t300, .int .i64 t301, .int .i64 t302], .slice (some ⟨go28, 0, none⟩) y314.length co17] rfl (by (try simp only [List.map_toArray, List.map_cons, List.map_nil]); first | done | (rw [show y314.length = t305.length from (Kd.R_reads' HQ57.out).1.symm] <;> rfl) | rfl | (simp only [List.length_drop, List.length_take]; rfl)) ?_; (with_reducible refine (bubble_Judge.calls kj8 t300 t301 t302 _ _ y314 t315 t316 _ ?side1 ?side2 A29.out).mono ?_); (case side1 => refine (Kd.R_reads' (e := 3) (base := w.heap.size) (ok := fun k_ => True) (n := t305.length) (c := co17) ?_).2.2; exact (by (with_reducible repeat (first | apply Kd.R_alloc | apply Kd.R_drewN | apply Kd.R_drew)); exact HQ57.out)); (case side2 => rw [show y314.length = t305.length from (Kd.R_reads' HQ57.out).1.symm]; exact (Kd.R_reads' HO_11.out).2.1); rintro e w59 ⟨rfl, hb⟩; refine ⟨_, rfl, ?_⟩; have n0_ := Aside0.mk (Kd.R_below (by (with_reducible repeat (first | apply Kd.R_alloc | apply Kd.R_drewN | apply Kd.R_drew)); exact HQ57.out) hb); have n1_ := Aside0.mk (blk_below (g := gb304) (o := .cells #[.int .i64 t300, .int .i64 t301, .int .i64 t302] 23 (0, 0)) (by (with_reducible repeat (first | refine blk_drewN ?_ _ | refine blk_drew ?_ | refine blk_alloc ?_ _)); refine blk_far ?_ (by have h_ := Kd.R_ne HO_11.out BK304.out (by decide); intro e_; exact h_ (by rw [e_]; rfl)) _; (with_reducible repeat (first | refine blk_drewN ?_ _ | refine blk_drew ?_ | refine blk_alloc ?_ _)); exact BK304.out) hb); have n2_ := Aside0.mk (below_step (by repeat (first | (with_reducible first | exact HB.out | apply below_alloc | apply pw_below_drewN | apply below_drew1 | refine below_set ?_ GB28.out | refine below_set ?_ GE304.out) | exact HB.out)) hb); clear HO_11; clear BK304; clear HB; have HO_11 := n0_; have BK304 := n1_; have HB := n2_; clear n0_ n1_ n2_; (try clear hb); (try clear hb2); (try clear hk); (try clear hi)) | ((with_reducible refine gate_callee (f := 11) rfl ?_); refine goesL_ (some 61) rfl rfl Try.func11 (by kernel_rfl) rfl #[.int .i64 a2, .int .i64 (t305.length : Int)] rfl (by (try simp only [List.map_toArray, List.map_cons, List.map_nil]); first | done | rfl | (simp only [List.length_drop, List.length_take]; rfl)) ?_; (with_reducible refine (awardingbodymake_Cut.calls a2 (t305.length : Int) t317 _ A30.out).mono ?_); rintro e w' ⟨rfl, ⟨nd, rfl⟩⟩; refine ⟨_, rfl, ?_⟩; (try (rw [drewN_self w59]; generalize hq_ : World.drewN w59 _ = w59; have n0_ : Aside0 (Kd.R (Kd.int .i64) 3 w59 w.heap.size (fun _ => True) (.slice (some ⟨go28, 0, none⟩) t305.length co17) y314) := ⟨by rw [← hq_]; exact (by (with_reducible repeat (first | apply Kd.R_alloc | apply Kd.R_drewN | apply Kd.R_drew)); exact HO_11.out)⟩; have n1_ : Aside0 (w59.heap[gb304]? = some (.cells #[.int .i64 t300, .int .i64 t301, .int .i64 t302] 23 (0, 0))) := ⟨by rw [← hq_]; exact (by (with_reducible repeat (first | refine blk_drewN ?_ _ | refine blk_drew ?_ | refine blk_alloc ?_ _)); exact BK304.out)⟩; have n2_ : Aside0 (Below w.heap.size w w59) := ⟨by rw [← hq_]; exact (by repeat (first | (with_reducible first | exact HB.out | apply below_alloc | apply pw_below_drewN | apply below_drew1 | refine below_set ?_ GE304.out) | exact HB.out))⟩; clear HO_11 BK304 HB hq_; have HO_11 := n0_; have BK304 := n1_; have HB := n2_; clear n0_ n1_ n2_))))
              have n0_ := Aside0.mk (Kd.R_drew HO_11.out)
              have n1_ := Aside0.mk (blk_drew BK304.out)
              have n2_ := Aside0.mk (below_drew1 HB.out)
              clear HO_11
              clear BK304
              clear HB
              have HO_11 := n0_
              have BK304 := n1_
              have HB := n2_
              clear n0_ n1_ n2_
              have p321 : 0 ≤ (t317 : Int) := of_decide_eq_true (by first | (with_reducible assumption) | assumption)
              have q321 : t317 < (y314.length : Int) := (by have h_ : (t317 : Int) < ((t305.length : Int) : Int) := of_decide_eq_true (by first | (with_reducible assumption) | assumption); first | (have e_ := (Kd.R_reads' HO_11.out).1; omega) | simpa only [Ny314.out, List.length_set] using h_)
              have ql321 : ((t317 : Int) < ((t305.length : Int) : Int)) = True := eq_true (of_decide_eq_true (by first | (with_reducible assumption) | assumption))
              obtain ⟨ad321, e321, hx321_0⟩ := Kd.at_int (Kd.R_reads' HO_11.out).2.2 t317 p321 q321
              obtain rfl : (⟨go28, 0, none⟩ : Addr) = ad321 := (by injection e321)
              (first | simp only [add_plain] at hx321_0 | simp only [add_at] at hx321_0 | simp only [Addr.add, Nat.zero_add] at hx321_0 | skip)
              replace p321 := eq_true p321
              replace q321 := eq_true q321
              refine start_ (n := 12) (S := fun w' => w'.cell? ⟨go28, (t317).toNat, none⟩ = some (.int .i64 (rd y314 t317))) (ds := [11]) #[false, false, false, false, false, false, false, false, false, false, false, false] (by kernel_rfl) rfl rfl (hx321_0) (fun hHeld => ?_); refine with_tabW awardingbodylaw20_BubbleDarker.tab13 awardingbodylaw20_BubbleDarker.bits13 (fun HT_ HW_ => ?_)
              generalize w59.drew = w60 at HO_11 BK304 HB hx321_0 hHeld ⊢
              refine pure_ (i := 0) (N := some 65) (v := ?_) (a' := ?_) #[true, false, false, false, false, false, false, false, false, false, false, false] rfl rfl (any_of HT_.out (by kernel_rfl)) (fun _ _ _ h => h) (Or.inl ⟨by rfl, ?_⟩) ?_ ?_
              rotate_left
              ·intro w'
               go_simp
               with_reducible rfl
              rotate_left
              ·simp only [Act.put, List.setIfInBounds_toArray, List.set_cons_zero, List.set_cons_succ, i64_w, i32_w]
               rfl
              refine pure_ (i := 1) (N := some 66) (v := ?_) (a' := ?_) #[true, true, false, false, false, false, false, false, false, false, false, false] rfl rfl (any_of HT_.out (by kernel_rfl)) (fun _ _ _ h => h) (Or.inl ⟨by rfl, ?_⟩) ?_ ?_
              rotate_left
              ·intro w'
               go_simp
               with_reducible rfl
              rotate_left
              ·simp only [Act.put, List.setIfInBounds_toArray, List.set_cons_zero, List.set_cons_succ, i64_w, i32_w]
               rfl
              refine pure_ (i := 2) (N := some 67) (v := ?_) (a' := ?_) #[true, true, true, false, false, false, false, false, false, false, false, false] rfl rfl (any_of HT_.out (by kernel_rfl)) (fun _ _ _ h => h) (Or.inl ⟨by rfl, ?_⟩) ?_ ?_
              rotate_left
              ·intro w'
               go_simp
               with_reducible rfl
              rotate_left
              ·simp only [Act.put, List.setIfInBounds_toArray, List.set_cons_zero, List.set_cons_succ, i64_w, i32_w]
               rfl
              refine pure_ (i := 3) (N := some 68) (v := ?_) (a' := ?_) #[true, true, true, true, false, false, false, false, false, false, false, false] rfl rfl (any_of HT_.out (by kernel_rfl)) (fun _ _ _ h => h) (Or.inl ⟨by rfl, ?_⟩) ?_ ?_
              rotate_left
              ·intro w'
               go_simp
               with_reducible rfl
              rotate_left
              ·simp only [Act.put, List.setIfInBounds_toArray, List.set_cons_zero, List.set_cons_succ, i64_w, i32_w]
               rfl
              refine pure_ (i := 4) (N := some 69) (v := ?_) (a' := ?_) #[true, true, true, true, true, false, false, false, false, false, false, false] rfl rfl (any_of HT_.out (by kernel_rfl)) (fun _ _ _ h => h) (Or.inl ⟨by rfl, ?_⟩) ?_ ?_
              rotate_left
              ·intro w'
               go_simp
               with_reducible rfl
              rotate_left
              ·simp only [Act.put, List.setIfInBounds_toArray, List.set_cons_zero, List.set_cons_succ, i64_w, i32_w]
               rfl
              refine pure_ (i := 6) (N := some 71) (v := ?_) (a' := ?_) #[true, true, true, true, true, false, true, false, false, false, false, false] rfl rfl (any_of HT_.out (by kernel_rfl)) (fun _ _ _ h => h) (Or.inl ⟨by rfl, ?_⟩) ?_ ?_
              rotate_left
              ·intro w'
               go_simp
               with_reducible rfl
              rotate_left
              ·simp only [Act.put, List.setIfInBounds_toArray, List.set_cons_zero, List.set_cons_succ, i64_w, i32_w]
               rfl
              refine take_ (i := 5) (N := some 70) (v := ?_) (a' := ?_) #[true, true, true, true, true, true, true, false, false, false, false, false] rfl rfl (take_ofW HT_.out HW_.out (by kernel_rfl)) (fun _ _ _ h => h) (Or.inl ⟨by rfl, ?_⟩) hHeld ?_ ?_
              rotate_left
              ·intro w' s0
               go_simp
               with_reducible rfl
              rotate_left
              ·simp only [Act.put, List.setIfInBounds_toArray, List.set_cons_zero, List.set_cons_succ, i64_w, i32_w]
               rfl
              refine one_ (i := 7) (N := some 72) #[true, true, true, true, true, true, true, true, false, false, false, false] rfl rfl (one_of HT_.out (by kernel_rfl)) (by decide) (fun K hK => ?_)
              refine goes_ Try.func11 (by kernel_rfl) rfl #[.int .i64 a3, .int .i64 9] (by rfl) rfl rfl (by (try simp only [List.map_toArray, List.map_cons, List.map_nil]); first | done | rfl | (simp only [List.length_drop, List.length_take]; rfl)) ?_
              with_reducible refine (awardingbodymake_Cut.calls a3 9 t322 _ A47.out).mono ?_
              rintro e w' ⟨rfl, ⟨nd, rfl⟩⟩
              refine ⟨_, rfl, ?_⟩
              have p49 : 0 ≤ (t317 : Int) := of_decide_eq_true (by first | (with_reducible assumption) | assumption)
              have q49 : (t317 : Int) < ((t305.length : Int) : Int) := of_decide_eq_true (by first | (with_reducible assumption) | assumption)
              obtain ⟨hx49_0, hf49_0⟩ := Kd.R_celln 0 HO_11.out (t317 : Int) p49 q49
              replace p49 := eq_true p49
              replace q49 := eq_true q49
              have HP61 := Kd.R_putn HO_11.out (t317 : Int) ji48
              rw [← Ny323.out] at HP61
              have HQ61 := Aside0.mk HP61
              clear HP61
              refine hK.out _ _ (hHeld) (fun hHeld => ?_)
              clear hK K
              refine norm_ (a' := ?_) ?_ ?_
              rotate_left
              ·show Act.put _ (some 72) _ = _
               simp only [Act.put, List.setIfInBounds_toArray, List.set_cons_zero, List.set_cons_succ, i64_w, i32_w]
               rfl
              refine pure_ (i := 8) (N := some 73) (v := ?_) (a' := ?_) #[true, true, true, true, true, true, true, true, true, false, false, false] rfl rfl (any_of HT_.out (by kernel_rfl)) (fun _ _ _ h => h) (Or.inl ⟨by rfl, ?_⟩) ?_ ?_
              rotate_left
              ·intro w'
               go_simp
               with_reducible rfl
              rotate_left
              ·simp only [Act.put, List.setIfInBounds_toArray, List.set_cons_zero, List.set_cons_succ, i64_w, i32_w]
               rfl
              refine pure_ (i := 9) (N := some 74) (v := ?_) (a' := ?_) #[true, true, true, true, true, true, true, true, true, true, false, false] rfl rfl (any_of HT_.out (by kernel_rfl)) (fun _ _ _ h => h) (Or.inl ⟨by rfl, ?_⟩) ?_ ?_
              rotate_left
              ·intro w'
               go_simp
               with_reducible rfl
              rotate_left
              ·simp only [Act.put, List.setIfInBounds_toArray, List.set_cons_zero, List.set_cons_succ, i64_w, i32_w]
               rfl
              refine pure_ (i := 10) (N := some 75) (v := ?_) (a' := ?_) #[true, true, true, true, true, true, true, true, true, true, true, false] rfl rfl (any_of HT_.out (by kernel_rfl)) (fun _ _ _ h => h) (Or.inl ⟨by rfl, ?_⟩) ?_ ?_
              rotate_left
              ·intro w'
               go_simp
               with_reducible rfl
              rotate_left
              ·simp only [Act.put, List.setIfInBounds_toArray, List.set_cons_zero, List.set_cons_succ, i64_w, i32_w]
               rfl
              refine last_ (i := 11) (N := none) #[true, true, true, true, true, true, true, true, true, true, true, true] rfl rfl (one_of HT_.out (by kernel_rfl)) (by decide) (fun K hK => ?_)
              refine skip_ (w1 := ?_) (by rfl) rfl ?_ ?_
              rotate_left
              ·go_simp
               rfl
              refine hK.out _ _ ?_
              clear hK K
              refine done_ (done_of HT_.out (by kernel_rfl)) ?_
              have hnx_ : gb304 ≠ go28 := by have h_ := Kd.R_ne HO_11.out BK304.out (by decide); intro e_; exact h_ (by rw [e_]; rfl)
              have hny_ : go28 ≠ gb304 := Ne.symm hnx_
              have hcz62_0 : w60.cell? ⟨gb304, 0, none⟩ = some (.int .i64 t300) := (blk_cell BK304.out 0).trans rfl
              have hcz62_1 : w60.cell? ⟨gb304, 1, none⟩ = some (.int .i64 t301) := (blk_cell BK304.out 1).trans rfl
              have hcz62_2 : w60.cell? ⟨gb304, 2, none⟩ = some (.int .i64 t302) := (blk_cell BK304.out 2).trans rfl
              have hfz62_0 := blk_frozen BK304.out 0
              have hfz62_1 := blk_frozen BK304.out 1
              have hfz62_2 := blk_frozen BK304.out 2
              try go_wp2_with (first | ((with_reducible refine gate_callee (f := 21) rfl ?_); refine goesL_ (some 79) rfl rfl Try.func21 (by kernel_rfl) rfl #[.agg #[.int .i64 t300, .int .i64 t301, .int .i64 t302], .slice (some ⟨go28, 0, none⟩) y323.length co17] rfl (by (try simp only [List.map_toArray, List.map_cons, List.map_nil]); first | done | (rw [show y323.length = t305.length from (Kd.R_reads' HQ61.out).1.symm] <;> rfl) | rfl | (simp only [List.length_drop, List.length_take]; rfl)) ?_; (with_reducible refine (bubble_Judge.calls kj8 t300 t301 t302 _ _ y323 t324 t325 _ ?side1 ?side2 A50.out).mono ?_); (case side1 => refine (Kd.R_reads' (e := 3) (base := w.heap.size) (ok := fun k_ => True) (n := t305.length) (c := co17) ?_).2.2; exact (by (with_reducible repeat (first | apply Kd.R_alloc | apply Kd.R_drewN | apply Kd.R_drew)); exact HQ61.out)); (case side2 => rw [show y323.length = t305.length from (Kd.R_reads' HQ61.out).1.symm]; exact (Kd.R_reads' HO_11.out).2.1); rintro e w63 ⟨rfl, hb⟩; refine ⟨_, rfl, ?_⟩; have n0_ := Aside0.mk (Kd.R_below (by (with_reducible repeat (first | apply Kd.R_alloc | apply Kd.R_drewN | apply Kd.R_drew)); exact HQ61.out) hb); have n1_ := Aside0.mk (blk_below (g := gb304) (o := .cells #[.int .i64 t300, .int .i64 t301, .int .i64 t302] 23 (0, 0)) (by (with_reducible repeat (first | refine blk_drewN ?_ _ | refine blk_drew ?_ | refine blk_alloc ?_ _)); refine blk_far ?_ (by have h_ := Kd.R_ne HO_11.out BK304.out (by decide); intro e_; exact h_ (by rw [e_]; rfl)) _; (with_reducible repeat (first | refine blk_drewN ?_ _ | refine blk_drew ?_ | refine blk_alloc ?_ _)); exact BK304.out) hb); have n2_ := Aside0.mk (below_step (by repeat (first | (with_reducible first | exact HB.out | apply below_alloc | apply pw_below_drewN | apply below_drew1 | refine below_set ?_ GB28.out | refine below_set ?_ GE304.out) | exact HB.out)) hb); clear HO_11; clear BK304; clear HB; have HO_11 := n0_; have BK304 := n1_; have HB := n2_; clear n0_ n1_ n2_; (try clear hb); (try clear hb2); (try clear hk); (try clear hi)) | (go_at_call 14; (with_reducible refine (awardingbodylaw20_awake.calls kj8  t326 _ A55.out).mono ?_); rintro e w64 ⟨rfl, hb⟩; have n0_ := Aside0.mk (Kd.R_below (by (with_reducible repeat (first | apply Kd.R_alloc | apply Kd.R_drewN | apply Kd.R_drew)); exact HO_11.out) hb); have n1_ := Aside0.mk (blk_below (g := gb304) (o := .cells #[.int .i64 t300, .int .i64 t301, .int .i64 t302] 23 (0, 0)) (by (with_reducible repeat (first | refine blk_drewN ?_ _ | refine blk_drew ?_ | refine blk_alloc ?_ _)); exact BK304.out) hb); have n2_ := Aside0.mk (below_step (by repeat (first | (with_reducible first | exact HB.out | apply below_alloc | apply pw_below_drewN | apply below_drew1 | refine below_set ?_ GE304.out) | exact HB.out)) hb); clear HO_11; clear BK304; clear HB; have HO_11 := n0_; have BK304 := n1_; have HB := n2_; clear n0_ n1_ n2_; (try clear hb); (try clear hb2); (try clear hk); (try clear hi)))
              go_ret
              exact ⟨by first | rfl | (simp [errW_none, errW_some] <;> rfl) | (simp only [← hji27, ← hji48]; first | rfl | (simp [errW_none, errW_some] <;> rfl)) | (simp [*, errW_none, errW_some] <;> rfl), by repeat (first | (with_reducible first | exact HB.out | apply below_alloc | apply pw_below_drewN | apply below_drew1 | refine below_set ?_ GE304.out) | exact HB.out)⟩
             ·rw [if_neg c54] at H
              exact absurd H (by simp)
            ·rw [if_neg c53] at H
             exact absurd H (by simp)
           ·rw [if_neg c52] at H
            exact absurd H (by simp)
          ·rw [if_neg c51] at H
           exact absurd H (by simp)
         ·rw [if_neg c46] at H
          exact absurd H (by simp)
        ·rw [if_neg c45] at H
         exact absurd H (by simp)
      ·rw [if_neg c25] at H
       exact absurd H (by simp)
     ·rw [if_neg c24] at H
      exact absurd H (by simp)

/-- THE ONE PURE STATEMENT of awardingbodylaw20_BubbleDarker: yours. -/
def awardingbodylaw20_BubbleDarker.Pure : Prop := ∀ (l0 : List Int) (a1 : Int) (a2 : Int) (a3 : Int), l0.length ≤ maxLen → l0.length * 8 ≤ 140737488351232 → (∀ x ∈ l0, (Lit.int .i64 x).wf = true) → (Lit.int .i64 a1).wf = true → (Lit.int .i64 a2).wf = true → (Lit.int .i64 a3).wf = true → ∃ k, awardingbodylaw20_BubbleDarker.f k l0 a1 a2 a3 = some true
theorem awardingbodylaw20_BubbleDarker.walk (P : awardingbodylaw20_BubbleDarker.Pure) (a0 : Option Addr) (len0 cap0 : Nat) (z0 : List Int) (a1 : Int) (a2 : Int) (a3 : Int) (w : World) (w0 : (a0 = none ∧ len0 = 0 ∧ cap0 = 0 ∧ z0 = []) ∨ ∃ x, a0 = some x ∧ len0 ≤ cap0 ∧ cap0 ≤ maxLen ∧ z0.length = cap0 ∧ (∀ i, i < z0.length → w.cell? (x.add i) = some (.int .i64 (z0.getD i 0))) ∧ ∀ n ∈ z0, (Lit.int .i64 n).wf = true) (y0 : len0 * 8 ≤ 140737488351232) (w1 : (Lit.int .i64 a1).wf = true) (w2 : (Lit.int .i64 a2).wf = true) (w3 : (Lit.int .i64 a3).wf = true) :
  Calls Try.prog 6 #[.slice a0 len0 cap0, .int .i64 a1, .int .i64 a2, .int .i64 a3] w fun e w' => e = .returned (.bool true) ∧ Below w.heap.size w w' := by
 obtain ⟨l0, rfl, hr0, hm0, hw0, hc0⟩ := ReadsInt.ofRowC w0
 obtain ⟨k, h⟩ := P l0 a1 a2 a3 hm0 y0 hw0 w1 w2 w3
 refine (awardingbodylaw20_BubbleDarker.calls k _ _ l0 a1 a2 a3 true w (Kd.C_of_reads (d := (0 : Int)) (h1 := fun _ => rfl) hr0) hc0 h).mono ?_
 rintro e w' ⟨rfl, hd⟩
 exact ⟨rfl, hd⟩

end Go.Proofs.Ythbmpjglkbhhgaa.Print
