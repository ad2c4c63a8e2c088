-- Printed by a program of this session (wip/own_print.py) out of the translation; Lean checks it.
import Derived.Test.YthbmpjglkbhhgaaPrint0
import Derived.Test.YthbmpjglkbhhgaaPrint2
import Derived.Test.YthbmpjglkbhhgaaPrint4
import Derived.Test.YthbmpjglkbhhgaaPrint7
namespace Go.Proofs.Ythbmpjglkbhhgaa.Print
open Go.RowKit Go.Proofs.YthbmpjglkbhhgaaW.PrintWords Go.Proofs.YthbmpjglkbhhgaaW.PrintLast Go.Proofs.YthbmpjglkbhhgaaW.PrintMore
attribute [local go_sem] max2_int min2_int max_two min_two max_three min_three max_four min_four   -- for this text's walks alone
set_option linter.unusedVariables false
set_option linter.unusedSimpArgs false

/-! ### awardingbodylaw20_BubbleMoves: function 5 -/
mutual
def awardingbodylaw20_BubbleMoves.l0 : Nat → List Int → List Int → List Int → Int → Int → Int → Int → Option (Bool)
  | 0, _, _, _, _, _, _, _ => none
  | k + 1, x5, x6, x7, x8, x277000, x277001, x277002 => if x8 < (x6.length : Int) then (if 0 ≤ x8 then (if 0 ≤ (rd x6 x8) then (if (rd x6 x8) < (x5.length : Int) then (if x7.length < 17592186044416 then (awardingbodylaw20_BubbleMoves.l0 k x5 x6 (x7 ++ [rd x5 (rd x6 x8)]) (wrap64 (x8 + 1)) x277000 x277001 x277002) else (none)) else (none)) else (none)) else (none)) else ((bubble_Judge.f k x277000 x277001 x277002 x5).bind fun bt290 => ((bubble_Judge.f k x277000 x277001 x277002 x7).bind fun bt292 => (if bt290.2 = 0 then (if bt292.2 = 0 then (if bt290.1 ≥ (x5.length : Int) then (awardingbodylaw20_BubbleMoves.j1 k x6 bt290.1 bt292.1 true) else (awardingbodylaw20_BubbleMoves.j1 k x6 bt290.1 bt292.1 (decide (bt292.1 ≥ (x5.length : Int))))) else (awardingbodylaw20_BubbleMoves.j1 k x6 bt290.1 bt292.1 true)) else (awardingbodylaw20_BubbleMoves.j1 k x6 bt290.1 bt292.1 true))))
def awardingbodylaw20_BubbleMoves.j1 : Nat → List Int → Int → Int → Bool → Option (Bool)
  | 0, _, _, _, _ => none
  | k + 1, x6, x9, x11, x68 => if x68 = true then (none) else (if x9 < 0 then (awardingbodylaw20_BubbleMoves.j2 k x6 x9 x11 true) else (awardingbodylaw20_BubbleMoves.j2 k x6 x9 x11 (decide (x11 < 0))))
def awardingbodylaw20_BubbleMoves.j2 : Nat → List Int → Int → Int → Bool → Option (Bool)
  | 0, _, _, _, _ => none
  | k + 1, x6, x9, x11, x74 => if x74 = true then (if x9 = x11 then ((awardingbodylaw20_awake.f k).bind fun t294 => (some t294)) else (none)) else (if 0 ≤ x11 then (if x11 < (x6.length : Int) then (if (rd x6 x11) = x9 then ((awardingbodylaw20_awake.f k).bind fun t296 => (some t296)) else (none)) else (none)) else (none))
end
def awardingbodylaw20_BubbleMoves.f (k : Nat) (l0 : List Int) : Option (Bool) := (awardingbodymake_New.f l0).bind fun bt269 => ((awardingbodymake_Tape_Threshold.f bt269.1 bt269.2 0).bind fun bt272 => ((awardingbodylaw20_values.f k bt269.1 bt272.2.2.2).bind fun bt277 => ((awardingbodymake_Tape_Order.f k bt269.1 bt277.2 (bt277.1.length : Int)).bind fun bt281 => (awardingbodylaw20_BubbleMoves.l0 k bt277.1 bt281.1 ([] : List Int) 0 bt272.1 bt272.2.1 bt272.2.2.1))))
theorem awardingbodylaw20_BubbleMoves.mono_l : ∀ k, (∀ y0 y1 y2 y3 y4 y5 y6, LeO (awardingbodylaw20_BubbleMoves.l0 k y0 y1 y2 y3 y4 y5 y6) (awardingbodylaw20_BubbleMoves.l0 (k + 1) y0 y1 y2 y3 y4 y5 y6)) ∧ (∀ y0 y1 y2 y3, LeO (awardingbodylaw20_BubbleMoves.j1 k y0 y1 y2 y3) (awardingbodylaw20_BubbleMoves.j1 (k + 1) y0 y1 y2 y3)) ∧ (∀ y0 y1 y2 y3, LeO (awardingbodylaw20_BubbleMoves.j2 k y0 y1 y2 y3) (awardingbodylaw20_BubbleMoves.j2 (k + 1) y0 y1 y2 y3))
  | 0 => ⟨fun _ _ _ _ _ _ _ r h => by simp [awardingbodylaw20_BubbleMoves.l0] at h, fun _ _ _ _ r h => by simp [awardingbodylaw20_BubbleMoves.j1] at h, fun _ _ _ _ r h => by simp [awardingbodylaw20_BubbleMoves.j2] at h⟩
  | k + 1 => by
    obtain ⟨ih0, ih1, ih2⟩ := awardingbodylaw20_BubbleMoves.mono_l k
    refine ⟨?_, ?_, ?_⟩
    · intro y0 y1 y2 y3 y4 y5 y6
      unfold awardingbodylaw20_BubbleMoves.l0
      repeat' first
      | (with_reducible exact ih0 _ _ _ _ _ _ _)
      | (with_reducible exact ih1 _ _ _ _)
      | (with_reducible exact ih2 _ _ _ _)
      | (with_reducible exact awardingbodylaw20_awake.mono _)
      | (with_reducible exact awardingbodylaw20_values.mono _ _ _)
      | (with_reducible exact awardingbodymake_Tape_Order.mono _ _ _ _)
      | (with_reducible exact bubble_Judge.mono _ _ _ _ _)
      | (with_reducible exact LeO.refl _)
      | (with_reducible exact LeO.none _)
      | (with_reducible refine LeO.ite ?_ ?_)
      | (with_reducible refine LeO.bind ?_ (fun _ => ?_))
      | exact ih0 _ _ _ _ _ _ _
      | exact ih1 _ _ _ _
      | exact ih2 _ _ _ _
      | exact awardingbodylaw20_awake.mono _
      | exact awardingbodylaw20_values.mono _ _ _
      | exact awardingbodymake_Tape_Order.mono _ _ _ _
      | exact bubble_Judge.mono _ _ _ _ _
      | exact LeO.none _
      | refine LeO.ite ?_ ?_
      | refine LeO.bind ?_ (fun _ => ?_)
    · intro y0 y1 y2 y3
      unfold awardingbodylaw20_BubbleMoves.j1
      repeat' first
      | (with_reducible exact ih0 _ _ _ _ _ _ _)
      | (with_reducible exact ih1 _ _ _ _)
      | (with_reducible exact ih2 _ _ _ _)
      | (with_reducible exact awardingbodylaw20_awake.mono _)
      | (with_reducible exact awardingbodylaw20_values.mono _ _ _)
      | (with_reducible exact awardingbodymake_Tape_Order.mono _ _ _ _)
      | (with_reducible exact bubble_Judge.mono _ _ _ _ _)
      | (with_reducible exact LeO.refl _)
      | (with_reducible exact LeO.none _)
      | (with_reducible refine LeO.ite ?_ ?_)
      | (with_reducible refine LeO.bind ?_ (fun _ => ?_))
      | exact ih0 _ _ _ _ _ _ _
      | exact ih1 _ _ _ _
      | exact ih2 _ _ _ _
      | exact awardingbodylaw20_awake.mono _
      | exact awardingbodylaw20_values.mono _ _ _
      | exact awardingbodymake_Tape_Order.mono _ _ _ _
      | exact bubble_Judge.mono _ _ _ _ _
      | exact LeO.none _
      | refine LeO.ite ?_ ?_
      | refine LeO.bind ?_ (fun _ => ?_)
    · intro y0 y1 y2 y3
      unfold awardingbodylaw20_BubbleMoves.j2
      repeat' first
      | (with_reducible exact ih0 _ _ _ _ _ _ _)
      | (with_reducible exact ih1 _ _ _ _)
      | (with_reducible exact ih2 _ _ _ _)
      | (with_reducible exact awardingbodylaw20_awake.mono _)
      | (with_reducible exact awardingbodylaw20_values.mono _ _ _)
      | (with_reducible exact awardingbodymake_Tape_Order.mono _ _ _ _)
      | (with_reducible exact bubble_Judge.mono _ _ _ _ _)
      | (with_reducible exact LeO.refl _)
      | (with_reducible exact LeO.none _)
      | (with_reducible refine LeO.ite ?_ ?_)
      | (with_reducible refine LeO.bind ?_ (fun _ => ?_))
      | exact ih0 _ _ _ _ _ _ _
      | exact ih1 _ _ _ _
      | exact ih2 _ _ _ _
      | exact awardingbodylaw20_awake.mono _
      | exact awardingbodylaw20_values.mono _ _ _
      | exact awardingbodymake_Tape_Order.mono _ _ _ _
      | exact bubble_Judge.mono _ _ _ _ _
      | exact LeO.none _
      | refine LeO.ite ?_ ?_
      | refine LeO.bind ?_ (fun _ => ?_)
theorem awardingbodylaw20_BubbleMoves.mono : ∀ a0 k, LeO (awardingbodylaw20_BubbleMoves.f k a0) (awardingbodylaw20_BubbleMoves.f (k + 1) a0) := by
  intro a0 k
  obtain ⟨ih0, ih1, ih2⟩ := awardingbodylaw20_BubbleMoves.mono_l k
  unfold awardingbodylaw20_BubbleMoves.f
  repeat' first
      | (with_reducible exact ih0 _ _ _ _ _ _ _)
      | (with_reducible exact ih1 _ _ _ _)
      | (with_reducible exact ih2 _ _ _ _)
      | (with_reducible exact awardingbodylaw20_awake.mono _)
      | (with_reducible exact awardingbodylaw20_values.mono _ _ _)
      | (with_reducible exact awardingbodymake_Tape_Order.mono _ _ _ _)
      | (with_reducible exact bubble_Judge.mono _ _ _ _ _)
      | (with_reducible exact LeO.refl _)
      | (with_reducible exact LeO.none _)
      | (with_reducible refine LeO.ite ?_ ?_)
      | (with_reducible refine LeO.bind ?_ (fun _ => ?_))
      | exact ih0 _ _ _ _ _ _ _
      | exact ih1 _ _ _ _
      | exact ih2 _ _ _ _
      | exact awardingbodylaw20_awake.mono _
      | exact awardingbodylaw20_values.mono _ _ _
      | exact awardingbodymake_Tape_Order.mono _ _ _ _
      | exact bubble_Judge.mono _ _ _ _ _
      | exact LeO.none _
      | refine LeO.ite ?_ ?_
      | refine LeO.bind ?_ (fun _ => ?_)
set_option maxHeartbeats 8000000 in
set_option maxRecDepth 100000 in
theorem awardingbodylaw20_BubbleMoves.calls (k : Nat) (A0 : Option Addr) (c0 : Nat) (l0 : List Int) (r : Bool) (w : World) (hr0 : Kd.C (Kd.int .i64) w A0 l0.length l0) (hc0 : l0.length ≤ c0) (h : awardingbodylaw20_BubbleMoves.f k l0 = some r) :
    Calls Try.prog 5 #[.slice A0 l0.length c0] w fun e w' => e = .returned (.bool r) ∧ Below w.heap.size w w' := by
 have hu23 := Try.underlying23
 have HR0 := Aside0.mk hr0
 have HC0 := Aside0.mk hc0
 clear hr0 hc0
 have HB := Aside0.mk (Below.refl w.heap.size w)
 have H : ((awardingbodymake_New.f l0).bind fun bt269 => ((awardingbodymake_Tape_Threshold.f bt269.1 bt269.2 0).bind fun bt272 => ((awardingbodylaw20_values.f k bt269.1 bt272.2.2.2).bind fun bt277 => ((awardingbodymake_Tape_Order.f k bt269.1 bt277.2 (bt277.1.length : Int)).bind fun bt281 => (awardingbodylaw20_BubbleMoves.l0 k bt277.1 bt281.1 ([] : List Int) 0 bt272.1 bt272.2.1 bt272.2.2.1))))) = some r := h
 clear h
 replace H := Option.bind_eq_some_iff.mp H
 obtain ⟨⟨t269, t270⟩, A20, H⟩ := H
 replace H : ((awardingbodymake_Tape_Threshold.f t269 t270 0).bind fun bt272 => ((awardingbodylaw20_values.f k t269 bt272.2.2.2).bind fun bt277 => ((awardingbodymake_Tape_Order.f k t269 bt277.2 (bt277.1.length : Int)).bind fun bt281 => (awardingbodylaw20_BubbleMoves.l0 k bt277.1 bt281.1 ([] : List Int) 0 bt272.1 bt272.2.1 bt272.2.2.1)))) = some r := H
 have A2 := Aside0.mk A20
 clear A20
 replace H := Option.bind_eq_some_iff.mp H
 obtain ⟨⟨t272, t273, t274, t275⟩, A30, H⟩ := H
 replace H : ((awardingbodylaw20_values.f k t269 t275).bind fun bt277 => ((awardingbodymake_Tape_Order.f k t269 bt277.2 (bt277.1.length : Int)).bind fun bt281 => (awardingbodylaw20_BubbleMoves.l0 k bt277.1 bt281.1 ([] : List Int) 0 t272 t273 t274))) = some r := H
 have A3 := Aside0.mk A30
 clear A30
 replace H := Option.bind_eq_some_iff.mp H
 obtain ⟨⟨t277, t280⟩, A40, H⟩ := H
 replace H : ((awardingbodymake_Tape_Order.f k t269 t280 (t277.length : Int)).bind fun bt281 => (awardingbodylaw20_BubbleMoves.l0 k t277 bt281.1 ([] : List Int) 0 t272 t273 t274)) = some r := H
 have A4 := Aside0.mk A40
 clear A40
 replace H := Option.bind_eq_some_iff.mp H
 obtain ⟨⟨t281, t284⟩, A50, H⟩ := H
 replace H : (awardingbodylaw20_BubbleMoves.l0 k t277 t281 ([] : List Int) 0 t272 t273 t274) = some r := H
 have A5 := Aside0.mk A50
 clear A50
 have H' := Aside0.mk H
 clear H
 go_enter Try.func5, Try.ntmps5
 go_wp2_with (first | ((with_reducible refine gate_callee (f := 15) rfl ?_); refine goesL_ (some 14) rfl rfl Try.func15 (by kernel_rfl) rfl #[.slice A0 l0.length c0] rfl (by (try simp only [List.map_toArray, List.map_cons, List.map_nil]); first | done | rfl | (simp only [List.length_drop, List.length_take]; rfl)) ?_; (with_reducible refine (awardingbodymake_New.calls _ _ l0 t269 t270 w _ ?side1 ?side2 ?side3 A2.out).mono ?_); (case side1 => repeat (first | (with_reducible first | exact HB.out | apply below_alloc | apply pw_below_drewN | apply below_drew1) | exact HB.out)); (case side2 => exact HR0.out); (case side3 => exact HC0.out); rintro e w6 ⟨g271, rfl, hi, hb, hb2⟩; refine ⟨_, rfl, ?_⟩; have n0_ := Aside0.mk (hb); have n1_ := Aside0.mk (hi); clear HB; have HB := n0_; have HI271 := n1_; clear n0_ n1_; (try clear hb); (try clear hb2); (try clear hk); (try clear hi)) | ((with_reducible refine gate_callee (f := 16) rfl ?_); refine goesL_ (some 16) rfl rfl Try.func16 (by kernel_rfl) rfl #[.pointer (some ⟨g271, 0, none⟩), .int .i64 0] rfl (by (try simp only [List.map_toArray, List.map_cons, List.map_nil]); first | done | rfl | (simp only [List.length_drop, List.length_take]; rfl)) ?_; (with_reducible refine (awardingbodymake_Tape_Threshold.calls g271 t269 t270 0 t272 t273 t274 t275 w _ ?side1 ?side2 A3.out).mono ?_); (case side1 => repeat (first | (with_reducible first | exact HI271.out | apply IsS68.alloc | apply IsS68.drewN | apply IsS68.drew | apply IsS68.set_1) | exact HI271.out)); (case side2 => repeat (first | (with_reducible first | exact HB.out | apply below_alloc | apply pw_below_drewN | apply below_drew1 | refine below_set ?_ (IsS68.ge HI271.out)) | exact HB.out)); rintro e w7 ⟨rfl, hi, hb, hk⟩; refine ⟨_, rfl, ?_⟩; have n0_ := Aside0.mk (hb); have n1_ := Aside0.mk (hi); clear HB; clear HI271; have HB := n0_; have HI271 := n1_; clear n0_ n1_; (try clear hb); (try clear hb2); (try clear hk); (try clear hi)) | ((with_reducible refine gate_dst (N := 4) rfl ?_); (try (refine gate_guard (by rfl) ?_; dsimp only)); refine box_event ?hg (N := 4) ?hd (cs := #[.int .i64 0, .int .i64 0, .int .i64 0]) (t := 23) ?hr ?_; (case hd => rfl); (case hg => rfl); (case hr => first | (go_simp; done) | (go_simp; rfl)); intro gb276 hg w8 hbox hb; have n0_ := Aside0.mk (IsS68.below (by repeat (first | (with_reducible first | exact HI271.out | apply IsS68.alloc | apply IsS68.drewN | apply IsS68.drew | apply IsS68.set_1) | exact HI271.out)) hb); have n1_ := Aside0.mk (below_step (by repeat (first | (with_reducible first | exact HB.out | apply below_alloc | apply pw_below_drewN | apply below_drew1 | refine below_set ?_ (IsS68.ge HI271.out)) | exact HB.out)) hb); have n2_ := Aside0.mk (hbox); have n3_ := Aside0.mk ((by rw [hg]; exact (below_size (by repeat (first | (with_reducible first | exact HB.out | apply below_alloc | apply pw_below_drewN | apply below_drew1 | refine below_set ?_ (IsS68.ge HI271.out)) | exact HB.out))) : w.heap.size ≤ gb276)); have n4_ := Aside0.mk ((by rw [hg]; exact (below_size (by repeat (first | (with_reducible first | exact HB.out | apply below_alloc | apply pw_below_drewN | apply below_drew1 | refine below_set ?_ (IsS68.ge HI271.out)) | exact HB.out))) : w.heap.size ≤ gb276)); have n5_ := Aside0.mk ((by rw [hg]; exact Nat.ne_of_lt (IsS68.lt (show IsS68 w _ g271 t269 t275 from by repeat (first | (with_reducible first | exact HI271.out | apply IsS68.alloc | apply IsS68.drewN | apply IsS68.drew | apply IsS68.set_1) | exact HI271.out))) : g271 ≠ gb276)); have n6_ := Aside0.mk ((by rw [hg]; exact Nat.ne_of_gt (IsS68.lt (show IsS68 w _ g271 t269 t275 from by repeat (first | (with_reducible first | exact HI271.out | apply IsS68.alloc | apply IsS68.drewN | apply IsS68.drew | apply IsS68.set_1) | exact HI271.out))) : gb276 ≠ g271)); clear HI271; clear HB; have HI271 := n0_; have HB := n1_; have BK276 := n2_; have GW276 := n3_; have GE276 := n4_; have NB271_276 := n5_; have NB276_271 := n6_; clear n0_ n1_ n2_ n3_ n4_ n5_ n6_; clear hb hbox hg; have hnb9 := NB276_271.out; have hnc9 := NB271_276.out; have hcz10_0 : w8.cell? ⟨gb276, 0, none⟩ = some (.int .i64 0) := (blk_cell BK276.out 0).trans rfl; have hcz10_1 : w8.cell? ⟨gb276, 1, none⟩ = some (.int .i64 0) := (blk_cell BK276.out 1).trans rfl; have hcz10_2 : w8.cell? ⟨gb276, 2, none⟩ = some (.int .i64 0) := (blk_cell BK276.out 2).trans rfl; have hfz10_0 := blk_frozen BK276.out 0; have hfz10_1 := blk_frozen BK276.out 1; have hfz10_2 := blk_frozen BK276.out 2) | ((with_reducible refine gate_callee (f := 23) rfl ?_); refine goesL_ (some 18) rfl rfl Try.func23 (by kernel_rfl) rfl #[.pointer (some ⟨g271, 0, none⟩)] rfl (by (try simp only [List.map_toArray, List.map_cons, List.map_nil]); first | done | rfl | (simp only [List.length_drop, List.length_take]; rfl)) ?_; (with_reducible refine (awardingbodylaw20_values.calls k g271 t269 t275 t277 t280 w _ ?side1 ?side2 A4.out).mono ?_); (case side1 => repeat (first | (with_reducible first | exact HI271.out | apply IsS68.alloc | apply IsS68.drewN | apply IsS68.drew | apply IsS68.set_1 | refine IsS68.far ?_ NB271_276.out _) | exact HI271.out)); (case side2 => repeat (first | (with_reducible first | exact HB.out | apply below_alloc | apply pw_below_drewN | apply below_drew1 | refine below_set ?_ (IsS68.ge HI271.out) | refine below_set ?_ GE276.out) | exact HB.out)); rintro e w11 ⟨v278, rfl, ho0, hi, hb, hk⟩; refine ⟨_, rfl, ?_⟩; have n0_ := Aside0.mk (KeepBut.blk hk (g' := gb276) (o := .cells #[.int .i64 t272, .int .i64 t273, .int .i64 t274] 23 (0, 0)) (by (with_reducible repeat (first | refine blk_drewN ?_ _ | refine blk_drew ?_ | refine blk_alloc ?_ _)); refine blk_put (cs := #[.int .i64 t272, .int .i64 t273, .int .i64 0]) ?_ 2 _ rfl; (with_reducible repeat (first | refine blk_drewN ?_ _ | refine blk_drew ?_ | refine blk_alloc ?_ _)); refine blk_put (cs := #[.int .i64 t272, .int .i64 0, .int .i64 0]) ?_ 1 _ rfl; (with_reducible repeat (first | refine blk_drewN ?_ _ | refine blk_drew ?_ | refine blk_alloc ?_ _)); refine blk_put (cs := #[.int .i64 0, .int .i64 0, .int .i64 0]) ?_ 0 _ rfl; (with_reducible repeat (first | refine blk_drewN ?_ _ | refine blk_drew ?_ | refine blk_alloc ?_ _)); exact BK276.out) NB276_271.out (by simp)); have n1_ := Aside0.mk (Kd.R_lower ho0 (below_size (by repeat (first | (with_reducible first | exact HB.out | apply below_alloc | apply pw_below_drewN | apply below_drew1 | refine below_set ?_ (IsS68.ge HI271.out) | refine below_set ?_ GE276.out) | exact HB.out)))); have n2_ := Aside0.mk (hb); have n3_ := Aside0.mk (hi); clear BK276; clear HB; clear HI271; have BK276 := n0_; have HO279 := n1_; have HB := n2_; have HI271 := n3_; clear n0_ n1_ n2_ n3_; (try clear hb); (try clear hb2); (try clear hk); (try clear hi); (try clear ho0); obtain ⟨Ao12, co12, eo12⟩ := Kd.R_slice HO279.out; subst eo12) | ((with_reducible refine gate_callee (f := 24) rfl ?_); refine goesL_ (some 22) rfl rfl Try.func24 (by kernel_rfl) rfl #[.pointer (some ⟨g271, 0, none⟩), .int .i64 (t277.length : Int)] rfl (by (try simp only [List.map_toArray, List.map_cons, List.map_nil]); first | done | rfl | (simp only [List.length_drop, List.length_take]; rfl)) ?_; (with_reducible refine (awardingbodymake_Tape_Order.calls k g271 t269 t280 (t277.length : Int) t281 t284 w _ ?side1 ?side2 A5.out).mono ?_); (case side1 => repeat (first | (with_reducible first | exact HI271.out | apply IsS68.alloc | apply IsS68.drewN | apply IsS68.drew | apply IsS68.set_1 | refine IsS68.far ?_ NB271_276.out _) | exact HI271.out)); (case side2 => repeat (first | (with_reducible first | exact HB.out | apply below_alloc | apply pw_below_drewN | apply below_drew1 | refine below_set ?_ (IsS68.ge HI271.out) | refine below_set ?_ GE276.out) | exact HB.out)); rintro e w13 ⟨v282, rfl, ho0, hi, hb, hk⟩; refine ⟨_, rfl, ?_⟩; have n0_ := Aside0.mk (KeepBut.blk hk (g' := gb276) (o := .cells #[.int .i64 t272, .int .i64 t273, .int .i64 t274] 23 (0, 0)) (by (with_reducible repeat (first | refine blk_drewN ?_ _ | refine blk_drew ?_ | refine blk_alloc ?_ _)); exact BK276.out) NB276_271.out (by simp)); have n1_ := Aside0.mk (Kd.R_mono (Kd.R_told (Kd.R_oldK (IsS68.apart (show IsS68 w _ g271 t269 t280 from by repeat (first | (with_reducible first | exact HI271.out | apply IsS68.alloc | apply IsS68.drewN | apply IsS68.drew | apply IsS68.set_1 | refine IsS68.far ?_ NB271_276.out _) | exact HI271.out)) (by (with_reducible repeat (first | apply Kd.R_alloc | apply Kd.R_drewN | apply Kd.R_drew)); exact HO279.out) (by decide)) hk) (Kd.R_base ho0)) (fun _ h_ => h_.1)); have n2_ := Aside0.mk (Kd.R_lower (Kd.R_new' ho0 (Kd.R_lt (by (with_reducible repeat (first | apply Kd.R_alloc | apply Kd.R_drewN | apply Kd.R_drew)); exact HO279.out))) (below_size (by repeat (first | (with_reducible first | exact HB.out | apply below_alloc | apply pw_below_drewN | apply below_drew1 | refine below_set ?_ (IsS68.ge HI271.out) | refine below_set ?_ GE276.out) | exact HB.out)))); have n3_ := Aside0.mk (hb); have n4_ := Aside0.mk (hi); clear BK276; clear HO279; clear HB; clear HI271; have BK276 := n0_; have HO279 := n1_; have HO283 := n2_; have HB := n3_; have HI271 := n4_; clear n0_ n1_ n2_ n3_ n4_; (try clear hb); (try clear hb2); (try clear hk); (try clear hi); (try clear ho0)))
 go_loopg [7, 8] k (fun kq v7 v8 w' => ∃ (x7_1 : List Int) (x8_1 : Int), v8 = .int .i64 x8_1 ∧ Aside0 (awardingbodylaw20_BubbleMoves.l0 kq t277 t281 x7_1 x8_1 t272 t273 t274 = some r) ∧ Aside0 (kq ≤ k) ∧ Aside0 (Kd.R (Kd.int .i64) 3 w' w.heap.size (fun k_ => some k_ ≠ (v282 : Value).ownBlock ∧ some k_ ≠ (v7 : Value).ownBlock) (.slice Ao12 t277.length co12) t277) ∧ Aside0 (Kd.R (Kd.int .i64) 3 w' w.heap.size (fun k_ => some k_ ≠ ((.slice Ao12 t277.length co12) : Value).ownBlock ∧ some k_ ≠ (v7 : Value).ownBlock) v282 t281) ∧ Aside0 (Kd.R (Kd.int .i64) 3 w' w.heap.size (fun k_ => some k_ ≠ ((.slice Ao12 t277.length co12) : Value).ownBlock ∧ some k_ ≠ (v282 : Value).ownBlock) v7 x7_1) ∧ Aside0 (w'.heap[gb276]? = some (.cells #[.int .i64 t272, .int .i64 t273, .int .i64 t274] 23 (0, 0))) ∧ Aside0 (Below w.heap.size w w'))
 case atStart => exact ⟨(([] : List Int)), (0), (by first | rfl | (simp; done) | (simp [*]; done)), H', ⟨Nat.le_refl _⟩, ⟨by (with_reducible repeat (first | apply Kd.R_alloc | apply Kd.R_drewN | apply Kd.R_drew)); exact Kd.R_mono HO279.out (fun _ hk => ⟨hk.2, (by simp [Value.ownBlock])⟩)⟩, ⟨by (with_reducible repeat (first | apply Kd.R_alloc | apply Kd.R_drewN | apply Kd.R_drew)); exact Kd.R_mono HO283.out (fun _ hk => ⟨hk.2, (by simp [Value.ownBlock])⟩)⟩, ⟨by first | exact Kd.R_nil _ _ _ _ _ | exact Kd.N_nil _ _ _ _ _ | exact Kd.V_nil _ _ _ _ _ | exact Kd.Q_nil _ _ _ _ _ | exact Kd.S_nil _ _ _ _ _⟩, ⟨by (with_reducible repeat (first | refine blk_drewN ?_ _ | refine blk_drew ?_ | refine blk_alloc ?_ _)); exact BK276.out⟩, ⟨by repeat (first | (with_reducible first | exact HB.out | apply below_alloc | apply pw_below_drewN | apply below_drew1 | refine below_set ?_ (IsS68.ge HI271.out) | refine below_set ?_ GE276.out) | exact HB.out)⟩⟩
 case round =>
  clear H'
  try clear c1
  try clear c2
  try clear p2
  try clear c5
  try clear c9
  try clear hcz10_0
  try clear hcz10_1
  try clear hcz10_2
  try clear hfz10_0
  try clear hfz10_1
  try clear hfz10_2
  obtain ⟨x7_1, x8_1, rfl, HA, HK1, HO_5, HO_6, HO_7, BK276, HB⟩ := hrel
  cases gk with
  | zero => exact absurd HA.out (by simp [awardingbodylaw20_BubbleMoves.l0])
  | succ k1 =>
   have H := HA.out
   clear HA
   simp only [awardingbodylaw20_BubbleMoves.l0] at H
   by_cases c14 : x8_1 < (t281.length : Int)
   ·rw [if_pos c14] at H
    have c14b0 : decide (x8_1 < (t281.length : Int)) = true := decide_eq_true c14
    clear c14
    by_cases c15 : 0 ≤ x8_1
    ·rw [if_pos c15] at H
     have c15b0 : decide (0 ≤ x8_1) = true := decide_eq_true c15
     clear c15
     by_cases c16 : 0 ≤ (rd t281 x8_1)
     ·rw [if_pos c16] at H
      have c16b0 : decide (0 ≤ (rd t281 x8_1)) = true := decide_eq_true c16
      clear c16
      by_cases c17 : (rd t281 x8_1) < (t277.length : Int)
      ·rw [if_pos c17] at H
       have c17b0 : decide ((rd t281 x8_1) < (t277.length : Int)) = true := decide_eq_true c17
       clear c17
       by_cases c18 : x7_1.length < 17592186044416
       ·rw [if_pos c18] at H
        have LMc18 := Aside0.mk c18
        clear c18
        obtain ⟨y287, hy287⟩ : ∃ y_ : List Int, y_ = (x7_1 ++ [rd t277 (rd t281 x8_1)]) := ⟨_, rfl⟩
        replace H : (awardingbodylaw20_BubbleMoves.l0 k1 t277 t281 y287 (wrap64 (x8_1 + 1)) t272 t273 t274) = some r := by first | (rw [hy287]; with_reducible exact H) | (have H2_ := (Option.bind_some _ _).symm.trans H; rw [hy287]; with_reducible exact H2_) | (have H2_ := (Option.bind_some _ _).symm.trans H; with_reducible exact H2_) | with_reducible exact H | (rw [hy287]; exact H) | exact H
        have Ny287 := Aside0.mk hy287
        clear hy287
        have H' := Aside0.mk H
        clear H
        obtain ⟨Ao19, co19, eo19⟩ := Kd.R_slice HO_6.out
        subst eo19
        have p285 : 0 ≤ (x8_1 : Int) := of_decide_eq_true (by first | (with_reducible assumption) | assumption)
        have q285 : x8_1 < (t281.length : Int) := of_decide_eq_true (by first | (with_reducible assumption) | assumption)
        obtain ⟨ad285, e285, hx285_0⟩ := Kd.at_int (Kd.R_reads' HO_6.out).2.2 x8_1 p285 q285
        cases e285
        replace p285 := eq_true p285
        replace q285 := eq_true q285
        have p286 : 0 ≤ ((rd t281 x8_1) : Int) := of_decide_eq_true (by first | (with_reducible assumption) | assumption)
        have q286 : (rd t281 x8_1) < (t277.length : Int) := of_decide_eq_true (by first | (with_reducible assumption) | assumption)
        obtain ⟨ad286, e286, hx286_0⟩ := Kd.at_int (Kd.R_reads' HO_5.out).2.2 (rd t281 x8_1) p286 q286
        cases e286
        replace p286 := eq_true p286
        replace q286 := eq_true q286
        go_wp2_with (first | ((with_reducible refine gate_builtin (b := .append) (xs := #[.tmp 29, .tmp 37]) rfl ?_); (try (refine gate_guard (by rfl) ?_; dsimp only)); at_builtin; refine Kd.R_append (Kd.int .i64) (w0 := w) w.heap.size rfl (.tmp 29) (.tmp 37) 28 3 (.int .i64 0) 8 rfl Try.underlying28 info3 rfl (by decide) (by omega) u7 x7_1 (rd t277 (rd t281 x8_1)) [.int .i64 (rd t277 (rd t281 x8_1))] (fun k_ => some k_ ≠ (.slice (some ad286) t277.length co12 : Value).ownBlock ∧ some k_ ≠ (.slice (some ad285) t281.length co19 : Value).ownBlock) (fun _ => False) rfl rfl ?aP (fun _ hk => hk.elim) ?aF ?aO ?aB ?aS ?aL ?_; (case aP => exact rfl); (case aB => exact (by repeat (first | (with_reducible first | exact HB.out | apply below_alloc | apply pw_below_drewN | apply below_drew1 | refine below_set ?_ GE276.out) | exact HB.out))); (case aF => exact (fun k_ hk => ⟨Kd.fresh' (Kd.R_lt (by (with_reducible repeat (first | apply Kd.R_alloc | apply Kd.R_drewN | apply Kd.R_drew)); exact HO_5.out)) k_ hk, Kd.fresh' (Kd.R_lt (by (with_reducible repeat (first | apply Kd.R_alloc | apply Kd.R_drewN | apply Kd.R_drew)); exact HO_6.out)) k_ hk⟩)); (case aO => exact (by (with_reducible repeat (first | apply Kd.R_alloc | apply Kd.R_drewN | apply Kd.R_drew)); exact HO_7.out)); (case aS => exact (below_size (by repeat (first | (with_reducible first | exact HB.out | apply below_alloc | apply pw_below_drewN | apply below_drew1 | refine below_set ?_ GE276.out) | exact HB.out)))); (case aL => have := LMc18.out; omega); intro v288 w20 ho hb hg hat; rw [← Ny287.out] at ho; have n0_ := Aside0.mk (Kd.R_after (ok := (fun k_ => some k_ ≠ (.slice (some ad285) t281.length co19 : Value).ownBlock)) (by (with_reducible repeat (first | apply Kd.R_alloc | apply Kd.R_drewN | apply Kd.R_drew)); exact HO_5.out) hg hat); have n1_ := Aside0.mk (Kd.R_after (ok := (fun k_ => some k_ ≠ (.slice (some ad286) t277.length co12 : Value).ownBlock)) (by (with_reducible repeat (first | apply Kd.R_alloc | apply Kd.R_drewN | apply Kd.R_drew)); exact HO_6.out) hg hat); have n2_ := Aside0.mk (blk_grown (g := gb276) (o := .cells #[.int .i64 t272, .int .i64 t273, .int .i64 t274] 23 (0, 0)) (by (with_reducible repeat (first | refine blk_drewN ?_ _ | refine blk_drew ?_ | refine blk_alloc ?_ _)); exact BK276.out) hg (Kd.R_ne HO_7.out BK276.out (by decide))); have n3_ := Aside0.mk (hb); have n4_ := Aside0.mk (ho); clear HO_5; clear HO_6; clear BK276; clear HB; clear HO_7; have HO_5 := n0_; have HO_6 := n1_; have BK276 := n2_; have HB := n3_; have HO289 := n4_; clear n0_ n1_ n2_ n3_ n4_; clear ho hb hg hat))
        go_roundg k1
        case measure => have := HK1.out; omega
        case rel => exact ⟨(y287), (wrap64 (x8_1 + 1)), (by first | rfl | (simp; done) | (simp [*]; done)), H', ⟨by have := HK1.out; omega⟩, ⟨by (with_reducible repeat (first | apply Kd.R_alloc | apply Kd.R_drewN | apply Kd.R_drew)); exact HO_5.out⟩, ⟨by (with_reducible repeat (first | apply Kd.R_alloc | apply Kd.R_drewN | apply Kd.R_drew)); exact HO_6.out⟩, ⟨by (with_reducible repeat (first | apply Kd.R_alloc | apply Kd.R_drewN | apply Kd.R_drew)); exact HO289.out⟩, ⟨by (with_reducible repeat (first | refine blk_drewN ?_ _ | refine blk_drew ?_ | refine blk_alloc ?_ _)); exact BK276.out⟩, ⟨by repeat (first | (with_reducible first | exact HB.out | apply below_alloc | apply pw_below_drewN | apply below_drew1 | refine below_set ?_ GE276.out) | exact HB.out)⟩⟩
       ·rw [if_neg c18] at H
        exact absurd H (by simp)
      ·rw [if_neg c17] at H
       exact absurd H (by simp)
     ·rw [if_neg c16] at H
      exact absurd H (by simp)
    ·rw [if_neg c15] at H
     exact absurd H (by simp)
   ·rw [if_neg c14] at H
    have c14b0 : decide (x8_1 < (t281.length : Int)) = false := decide_eq_false c14
    clear c14
    replace H := Option.bind_eq_some_iff.mp H
    obtain ⟨⟨t290, t291⟩, A210, H⟩ := H
    replace H : ((bubble_Judge.f k1 t272 t273 t274 x7_1).bind fun bt292 => (if t291 = 0 then (if bt292.2 = 0 then (if t290 ≥ (t277.length : Int) then (awardingbodylaw20_BubbleMoves.j1 k1 t281 t290 bt292.1 true) else (awardingbodylaw20_BubbleMoves.j1 k1 t281 t290 bt292.1 (decide (bt292.1 ≥ (t277.length : Int))))) else (awardingbodylaw20_BubbleMoves.j1 k1 t281 t290 bt292.1 true)) else (awardingbodylaw20_BubbleMoves.j1 k1 t281 t290 bt292.1 true))) = some r := H
    have A21 := Aside0.mk A210
    clear A210
    replace H := Option.bind_eq_some_iff.mp H
    obtain ⟨⟨t292, t293⟩, A220, H⟩ := H
    replace H : (if t291 = 0 then (if t293 = 0 then (if t290 ≥ (t277.length : Int) then (awardingbodylaw20_BubbleMoves.j1 k1 t281 t290 t292 true) else (awardingbodylaw20_BubbleMoves.j1 k1 t281 t290 t292 (decide (t292 ≥ (t277.length : Int))))) else (awardingbodylaw20_BubbleMoves.j1 k1 t281 t290 t292 true)) else (awardingbodylaw20_BubbleMoves.j1 k1 t281 t290 t292 true)) = some r := H
    have A22 := Aside0.mk A220
    clear A220
    have HC23 := Aside0.mk H
    clear H
    obtain ⟨Ao24, co24, eo24⟩ := Kd.R_slice HO_6.out
    subst eo24
    have hcz25_0 : wr.cell? ⟨gb276, 0, none⟩ = some (.int .i64 t272) := (blk_cell BK276.out 0).trans rfl
    have hcz25_1 : wr.cell? ⟨gb276, 1, none⟩ = some (.int .i64 t273) := (blk_cell BK276.out 1).trans rfl
    have hcz25_2 : wr.cell? ⟨gb276, 2, none⟩ = some (.int .i64 t274) := (blk_cell BK276.out 2).trans rfl
    have hfz25_0 := blk_frozen BK276.out 0
    have hfz25_1 := blk_frozen BK276.out 1
    have hfz25_2 := blk_frozen BK276.out 2
    go_upto_region 12 with (first | ((with_reducible refine gate_callee (f := 21) rfl ?_); refine goesL_ (some 42) rfl rfl Try.func21 (by kernel_rfl) rfl #[.agg #[.int .i64 t272, .int .i64 t273, .int .i64 t274], .slice Ao12 t277.length co12] rfl (by (try simp only [List.map_toArray, List.map_cons, List.map_nil]); first | done | rfl | (simp only [List.length_drop, List.length_take]; rfl)) ?_; (with_reducible refine (bubble_Judge.calls k1 t272 t273 t274 _ _ t277 t290 t291 _ ?side1 ?side2 A21.out).mono ?_); (case side1 => repeat (first | exact (Kd.R_reads' HO_5.out).2.2 | (with_reducible refine Kd.C_alloc ?_ _) | (with_reducible refine Kd.C_drewN ?_ _) | (with_reducible refine Kd.C_drew ?_))); (case side2 => exact (Kd.R_reads' HO_5.out).2.1); rintro e w26 ⟨rfl, hb⟩; refine ⟨_, rfl, ?_⟩; have n0_ := Aside0.mk (Kd.R_below (by (with_reducible repeat (first | apply Kd.R_alloc | apply Kd.R_drewN | apply Kd.R_drew)); exact HO_5.out) hb); have n1_ := Aside0.mk (Kd.R_below (by (with_reducible repeat (first | apply Kd.R_alloc | apply Kd.R_drewN | apply Kd.R_drew)); exact HO_6.out) hb); have n2_ := Aside0.mk (Kd.R_below (by (with_reducible repeat (first | apply Kd.R_alloc | apply Kd.R_drewN | apply Kd.R_drew)); exact HO_7.out) hb); have n3_ := Aside0.mk (blk_below (g := gb276) (o := .cells #[.int .i64 t272, .int .i64 t273, .int .i64 t274] 23 (0, 0)) (by (with_reducible repeat (first | refine blk_drewN ?_ _ | refine blk_drew ?_ | refine blk_alloc ?_ _)); exact BK276.out) hb); have n4_ := Aside0.mk (below_step (by repeat (first | (with_reducible first | exact HB.out | apply below_alloc | apply pw_below_drewN | apply below_drew1 | refine below_set ?_ GE276.out) | exact HB.out)) hb); clear HO_5; clear HO_6; clear HO_7; clear BK276; clear HB; have HO_5 := n0_; have HO_6 := n1_; have HO_7 := n2_; have BK276 := n3_; have HB := n4_; clear n0_ n1_ n2_ n3_ n4_; (try clear hb); (try clear hb2); (try clear hk); (try clear hi); have hcz27_0 : w26.cell? ⟨gb276, 0, none⟩ = some (.int .i64 t272) := (blk_cell BK276.out 0).trans rfl; have hcz27_1 : w26.cell? ⟨gb276, 1, none⟩ = some (.int .i64 t273) := (blk_cell BK276.out 1).trans rfl; have hcz27_2 : w26.cell? ⟨gb276, 2, none⟩ = some (.int .i64 t274) := (blk_cell BK276.out 2).trans rfl; have hfz27_0 := blk_frozen BK276.out 0; have hfz27_1 := blk_frozen BK276.out 1; have hfz27_2 := blk_frozen BK276.out 2; obtain ⟨Ao28, co28, eo28⟩ := Kd.R_slice HO_7.out; subst eo28) | ((with_reducible refine gate_callee (f := 21) rfl ?_); refine goesL_ (some 48) rfl rfl Try.func21 (by kernel_rfl) rfl #[.agg #[.int .i64 t272, .int .i64 t273, .int .i64 t274], .slice Ao28 x7_1.length co28] rfl (by (try simp only [List.map_toArray, List.map_cons, List.map_nil]); first | done | rfl | (simp only [List.length_drop, List.length_take]; rfl)) ?_; (with_reducible refine (bubble_Judge.calls k1 t272 t273 t274 _ _ x7_1 t292 t293 _ ?side1 ?side2 A22.out).mono ?_); (case side1 => repeat (first | exact (Kd.R_reads' HO_7.out).2.2 | (with_reducible refine Kd.C_alloc ?_ _) | (with_reducible refine Kd.C_drewN ?_ _) | (with_reducible refine Kd.C_drew ?_))); (case side2 => exact (Kd.R_reads' HO_7.out).2.1); rintro e w29 ⟨rfl, hb⟩; refine ⟨_, rfl, ?_⟩; have n0_ := Aside0.mk (Kd.R_below (by (with_reducible repeat (first | apply Kd.R_alloc | apply Kd.R_drewN | apply Kd.R_drew)); exact HO_5.out) hb); have n1_ := Aside0.mk (Kd.R_below (by (with_reducible repeat (first | apply Kd.R_alloc | apply Kd.R_drewN | apply Kd.R_drew)); exact HO_6.out) hb); have n2_ := Aside0.mk (Kd.R_below (by (with_reducible repeat (first | apply Kd.R_alloc | apply Kd.R_drewN | apply Kd.R_drew)); exact HO_7.out) hb); have n3_ := Aside0.mk (blk_below (g := gb276) (o := .cells #[.int .i64 t272, .int .i64 t273, .int .i64 t274] 23 (0, 0)) (by (with_reducible repeat (first | refine blk_drewN ?_ _ | refine blk_drew ?_ | refine blk_alloc ?_ _)); exact BK276.out) hb); have n4_ := Aside0.mk (below_step (by repeat (first | (with_reducible first | exact HB.out | apply below_alloc | apply pw_below_drewN | apply below_drew1 | refine below_set ?_ GE276.out) | exact HB.out)) hb); clear HO_5; clear HO_6; clear HO_7; clear BK276; clear HB; have HO_5 := n0_; have HO_6 := n1_; have HO_7 := n2_; have BK276 := n3_; have HB := n4_; clear n0_ n1_ n2_ n3_ n4_; (try clear hb); (try clear hb2); (try clear hk); (try clear hi)))
    (try simp only [Act.put, List.setIfInBounds_toArray, List.set_cons_zero, List.set_cons_succ])
    go_cut [68] (fun v68 wc => ∃ (kq : Nat) (x68_22 : Bool), v68 = .bool x68_22 ∧ Aside0 (awardingbodylaw20_BubbleMoves.j1 kq t281 t290 t292 x68_22 = some r) ∧ Aside0 (kq ≤ k1) ∧ Aside0 (Kd.R (Kd.int .i64) 3 wc w.heap.size (fun _ => True) (.slice Ao24 t281.length co24) t281) ∧ Aside0 (wc.heap[gb276]? = some (.cells #[.int .i64 t272, .int .i64 t273, .int .i64 t274] 23 (0, 0))) ∧ Aside0 (Below w.heap.size w wc))
    case first =>
     have H := HC23.out
     clear HC23
     by_cases c30 : t291 = 0
     ·rw [if_pos c30] at H
      have c30b0 : (t291 == 0) = true := beq_iff_eq.mpr c30
      have c30b1 : (t291 != 0) = false := bne_eq_false_iff_eq.mpr c30
      clear c30
      (first | rw [c30b0] | (simp only [i64_w, i32_w]; rw [c30b0]) | skip)
      by_cases c31 : t293 = 0
      ·rw [if_pos c31] at H
       have c31b0 : (t293 == 0) = true := beq_iff_eq.mpr c31
       have c31b1 : (t293 != 0) = false := bne_eq_false_iff_eq.mpr c31
       clear c31
       by_cases c32 : t290 ≥ (t277.length : Int)
       ·rw [if_pos c32] at H
        have c32b0 : decide ((t277.length : Int) ≤ t290) = true := decide_eq_true c32
        clear c32
        have H' := Aside0.mk H
        clear H
        go_wp2
        go_meet
        case rel => exact ⟨_, (true), (by first | rfl | (simp; done) | (simp [*]; done)), H', ⟨by have := HK1.out; first | omega | exact Nat.le_refl _⟩, ⟨by (with_reducible repeat (first | apply Kd.R_alloc | apply Kd.R_drewN | apply Kd.R_drew)); exact Kd.R_mono HO_6.out (fun _ hk => trivial)⟩, ⟨by (with_reducible repeat (first | refine blk_drewN ?_ _ | refine blk_drew ?_ | refine blk_alloc ?_ _)); exact BK276.out⟩, ⟨by repeat (first | (with_reducible first | exact HB.out | apply below_alloc | apply pw_below_drewN | apply below_drew1 | refine below_set ?_ GE276.out) | exact HB.out)⟩⟩
       ·rw [if_neg c32] at H
        have c32b0 : decide ((t277.length : Int) ≤ t290) = false := decide_eq_false c32
        clear c32
        have H' := Aside0.mk H
        clear H
        go_wp2
        go_meet
        case rel => exact ⟨_, (decide (t292 ≥ (t277.length : Int))), (by first | rfl | (simp; done) | (simp [*]; done)), H', ⟨by have := HK1.out; first | omega | exact Nat.le_refl _⟩, ⟨by (with_reducible repeat (first | apply Kd.R_alloc | apply Kd.R_drewN | apply Kd.R_drew)); exact Kd.R_mono HO_6.out (fun _ hk => trivial)⟩, ⟨by (with_reducible repeat (first | refine blk_drewN ?_ _ | refine blk_drew ?_ | refine blk_alloc ?_ _)); exact BK276.out⟩, ⟨by repeat (first | (with_reducible first | exact HB.out | apply below_alloc | apply pw_below_drewN | apply below_drew1 | refine below_set ?_ GE276.out) | exact HB.out)⟩⟩
      ·rw [if_neg c31] at H
       have c31b0 : (t293 == 0) = false := beq_eq_false_iff_ne.mpr c31
       have c31b1 : (t293 != 0) = true := bne_iff_ne.mpr c31
       have H' := Aside0.mk H
       clear H
       go_wp2
       go_meet
       case rel => exact ⟨_, (true), (by first | rfl | (simp; done) | (simp [*]; done)), H', ⟨by have := HK1.out; first | omega | exact Nat.le_refl _⟩, ⟨by (with_reducible repeat (first | apply Kd.R_alloc | apply Kd.R_drewN | apply Kd.R_drew)); exact Kd.R_mono HO_6.out (fun _ hk => trivial)⟩, ⟨by (with_reducible repeat (first | refine blk_drewN ?_ _ | refine blk_drew ?_ | refine blk_alloc ?_ _)); exact BK276.out⟩, ⟨by repeat (first | (with_reducible first | exact HB.out | apply below_alloc | apply pw_below_drewN | apply below_drew1 | refine below_set ?_ GE276.out) | exact HB.out)⟩⟩
     ·rw [if_neg c30] at H
      have c30b0 : (t291 == 0) = false := beq_eq_false_iff_ne.mpr c30
      have c30b1 : (t291 != 0) = true := bne_iff_ne.mpr c30
      (first | rw [c30b0] | (simp only [i64_w, i32_w]; rw [c30b0]) | skip)
      have H' := Aside0.mk H
      clear H
      go_wp2
      go_meet
      case rel => exact ⟨_, (true), (by first | rfl | (simp; done) | (simp [*]; done)), H', ⟨by have := HK1.out; first | omega | exact Nat.le_refl _⟩, ⟨by (with_reducible repeat (first | apply Kd.R_alloc | apply Kd.R_drewN | apply Kd.R_drew)); exact Kd.R_mono HO_6.out (fun _ hk => trivial)⟩, ⟨by (with_reducible repeat (first | refine blk_drewN ?_ _ | refine blk_drew ?_ | refine blk_alloc ?_ _)); exact BK276.out⟩, ⟨by repeat (first | (with_reducible first | exact HB.out | apply below_alloc | apply pw_below_drewN | apply below_drew1 | refine below_set ?_ GE276.out) | exact HB.out)⟩⟩
    case rest =>
     clear HC23
     try clear c1
     try clear c2
     try clear p2
     try clear q2
     try clear hx2
     try clear c3
     try clear c5
     try clear p6
     try clear c9
     try clear c14
     try clear c14b0
     try clear c15
     try clear c15b0
     try clear c16
     try clear c16b0
     try clear c17
     try clear c17b0
     try clear c18
     try clear c21
     try clear c23
     try clear c24
     try clear p28
     try clear q28
     try clear hx28
     try clear c30
     try clear c30b0
     try clear c30b1
     try clear c31
     try clear c31b0
     try clear c31b1
     try clear c32
     try clear c32b0
     try clear hcz10_0
     try clear hcz10_1
     try clear hcz10_2
     try clear hcz25_0
     try clear hcz25_1
     try clear hcz25_2
     try clear hcz27_0
     try clear hcz27_1
     try clear hcz27_2
     try clear hfz10_0
     try clear hfz10_1
     try clear hfz10_2
     try clear hfz25_0
     try clear hfz25_1
     try clear hfz25_2
     try clear hfz27_0
     try clear hfz27_1
     try clear hfz27_2
     try clear hx285_0
     try clear hx286_0
     try clear p2
     try clear p285
     try clear p286
     try clear q285
     try clear q286
     obtain ⟨kq, x68_22, rfl, HA, HJ22, HO_6, BK276, HB⟩ := hcut
     cases kq with
     | zero => exact absurd HA.out (by simp [awardingbodylaw20_BubbleMoves.j1])
     | succ kj22 =>
      have H := HA.out
      clear HA
      simp only [awardingbodylaw20_BubbleMoves.j1] at H
      by_cases c33 : x68_22 = true
      ·subst c33
       have H1 : (none) = some r := by rw [if_pos rfl] at H; exact H
       clear H
       have H := H1
       clear H1
       exact absurd H (by simp)
      ·replace c33 := Bool.eq_false_iff.mpr c33
       subst c33
       have H1 : (if t290 < 0 then (awardingbodylaw20_BubbleMoves.j2 kj22 t281 t290 t292 true) else (awardingbodylaw20_BubbleMoves.j2 kj22 t281 t290 t292 (decide (t292 < 0)))) = some r := by rw [if_neg (show ¬ (false = true) by decide)] at H; exact H
       clear H
       have H := H1
       clear H1
       have HC34 := Aside0.mk H
       clear H
       go_upto_region 14 with (fail)
       go_cut [74] (fun v74 wc => ∃ (kq : Nat) (x74_33 : Bool), v74 = .bool x74_33 ∧ Aside0 (awardingbodylaw20_BubbleMoves.j2 kq t281 t290 t292 x74_33 = some r) ∧ Aside0 (kq ≤ kj22) ∧ Aside0 (Kd.R (Kd.int .i64) 3 wc w.heap.size (fun _ => True) (.slice Ao24 t281.length co24) t281) ∧ Aside0 (wc.heap[gb276]? = some (.cells #[.int .i64 t272, .int .i64 t273, .int .i64 t274] 23 (0, 0))) ∧ Aside0 (Below w.heap.size w wc))
       case first =>
        have H := HC34.out
        clear HC34
        by_cases c35 : t290 < 0
        ·rw [if_pos c35] at H
         have c35b0 : decide (t290 < 0) = true := decide_eq_true c35
         clear c35
         (first | rw [c35b0] | (simp only [i64_w, i32_w]; rw [c35b0]) | skip)
         have H' := Aside0.mk H
         clear H
         go_wp2
         go_meet
         case rel => exact ⟨_, (true), (by first | rfl | (simp; done) | (simp [*]; done)), H', ⟨by have := HK1.out; have := HJ22.out; first | omega | exact Nat.le_refl _⟩, ⟨by (with_reducible repeat (first | apply Kd.R_alloc | apply Kd.R_drewN | apply Kd.R_drew)); exact HO_6.out⟩, ⟨by (with_reducible repeat (first | refine blk_drewN ?_ _ | refine blk_drew ?_ | refine blk_alloc ?_ _)); exact BK276.out⟩, ⟨by repeat (first | (with_reducible first | exact HB.out | apply below_alloc | apply pw_below_drewN | apply below_drew1 | refine below_set ?_ GE276.out) | exact HB.out)⟩⟩
        ·rw [if_neg c35] at H
         have c35b0 : decide (t290 < 0) = false := decide_eq_false c35
         clear c35
         (first | rw [c35b0] | (simp only [i64_w, i32_w]; rw [c35b0]) | skip)
         have H' := Aside0.mk H
         clear H
         go_wp2
         go_meet
         case rel => exact ⟨_, (decide (t292 < 0)), (by first | rfl | (simp; done) | (simp [*]; done)), H', ⟨by have := HK1.out; have := HJ22.out; first | omega | exact Nat.le_refl _⟩, ⟨by (with_reducible repeat (first | apply Kd.R_alloc | apply Kd.R_drewN | apply Kd.R_drew)); exact HO_6.out⟩, ⟨by (with_reducible repeat (first | refine blk_drewN ?_ _ | refine blk_drew ?_ | refine blk_alloc ?_ _)); exact BK276.out⟩, ⟨by repeat (first | (with_reducible first | exact HB.out | apply below_alloc | apply pw_below_drewN | apply below_drew1 | refine below_set ?_ GE276.out) | exact HB.out)⟩⟩
       case rest =>
        clear HC34
        try clear c1
        try clear c2
        try clear p2
        try clear q2
        try clear hx2
        try clear c3
        try clear c5
        try clear p6
        try clear c9
        try clear c14
        try clear c14b0
        try clear c15
        try clear c15b0
        try clear c16
        try clear c16b0
        try clear c17
        try clear c17b0
        try clear c18
        try clear c21
        try clear c23
        try clear c24
        try clear p28
        try clear q28
        try clear hx28
        try clear c30
        try clear c30b0
        try clear c30b1
        try clear c31
        try clear c31b0
        try clear c31b1
        try clear c32
        try clear c32b0
        try clear c33
        try clear c35
        try clear c35b0
        try clear hcz10_0
        try clear hcz10_1
        try clear hcz10_2
        try clear hcz25_0
        try clear hcz25_1
        try clear hcz25_2
        try clear hcz27_0
        try clear hcz27_1
        try clear hcz27_2
        try clear hfz10_0
        try clear hfz10_1
        try clear hfz10_2
        try clear hfz25_0
        try clear hfz25_1
        try clear hfz25_2
        try clear hfz27_0
        try clear hfz27_1
        try clear hfz27_2
        try clear hx285_0
        try clear hx286_0
        try clear p2
        try clear p28
        try clear p285
        try clear p286
        try clear p6
        try clear q2
        try clear q28
        try clear q285
        try clear q286
        obtain ⟨kq, x74_33, rfl, HA, HJ33, HO_6, BK276, HB⟩ := hcut
        cases kq with
        | zero => exact absurd HA.out (by simp [awardingbodylaw20_BubbleMoves.j2])
        | succ kj33 =>
         have H := HA.out
         clear HA
         simp only [awardingbodylaw20_BubbleMoves.j2] at H
         by_cases c36 : x74_33 = true
         ·subst c36
          have H1 : (if t290 = t292 then ((awardingbodylaw20_awake.f kj33).bind fun t294 => (some t294)) else (none)) = some r := by rw [if_pos rfl] at H; exact H
          clear H
          have H := H1
          clear H1
          by_cases c37 : t290 = t292
          ·rw [if_pos c37] at H
           have c37b0 : (t290 == t292) = true := beq_iff_eq.mpr c37
           have c37b1 : (t290 != t292) = false := bne_eq_false_iff_eq.mpr c37
           clear c37
           replace H := Option.bind_eq_some_iff.mp H
           obtain ⟨t294, A380, H⟩ := H
           replace H : (some t294) = some r := H
           have A38 := Aside0.mk A380
           clear A380
           obtain rfl := Option.some.inj H
           go_wp2_with (first | (go_at_call 14; (with_reducible refine (awardingbodylaw20_awake.calls kj33  t294 _ A38.out).mono ?_); rintro e w39 ⟨rfl, hb⟩; have n0_ := Aside0.mk (Kd.R_below (by (with_reducible repeat (first | apply Kd.R_alloc | apply Kd.R_drewN | apply Kd.R_drew)); exact HO_6.out) hb); have n1_ := Aside0.mk (blk_below (g := gb276) (o := .cells #[.int .i64 t272, .int .i64 t273, .int .i64 t274] 23 (0, 0)) (by (with_reducible repeat (first | refine blk_drewN ?_ _ | refine blk_drew ?_ | refine blk_alloc ?_ _)); exact BK276.out) hb); have n2_ := Aside0.mk (below_step (by repeat (first | (with_reducible first | exact HB.out | apply below_alloc | apply pw_below_drewN | apply below_drew1 | refine below_set ?_ GE276.out) | exact HB.out)) hb); clear HO_6; clear BK276; clear HB; have HO_6 := n0_; have BK276 := n1_; have HB := n2_; clear n0_ n1_ n2_; (try clear hb); (try clear hb2); (try clear hk); (try clear hi)))
           go_ret
           exact ⟨by first | rfl | (simp [errW_none, errW_some] <;> rfl) | (simp [*, errW_none, errW_some] <;> rfl), by repeat (first | (with_reducible first | exact HB.out | apply below_alloc | apply pw_below_drewN | apply below_drew1 | refine below_set ?_ GE276.out) | exact HB.out)⟩
          ·rw [if_neg c37] at H
           exact absurd H (by simp)
         ·replace c36 := Bool.eq_false_iff.mpr c36
          subst c36
          have H1 : (if 0 ≤ t292 then (if t292 < (t281.length : Int) then (if (rd t281 t292) = t290 then ((awardingbodylaw20_awake.f kj33).bind fun t296 => (some t296)) else (none)) else (none)) else (none)) = some r := by rw [if_neg (show ¬ (false = true) by decide)] at H; exact H
          clear H
          have H := H1
          clear H1
          by_cases c40 : 0 ≤ t292
          ·rw [if_pos c40] at H
           have c40b0 : decide (0 ≤ t292) = true := decide_eq_true c40
           clear c40
           by_cases c41 : t292 < (t281.length : Int)
           ·rw [if_pos c41] at H
            have c41b0 : decide (t292 < (t281.length : Int)) = true := decide_eq_true c41
            clear c41
            by_cases c42 : (rd t281 t292) = t290
            ·rw [if_pos c42] at H
             have c42b0 : ((rd t281 t292) == t290) = true := beq_iff_eq.mpr c42
             have c42b1 : ((rd t281 t292) != t290) = false := bne_eq_false_iff_eq.mpr c42
             clear c42
             replace H := Option.bind_eq_some_iff.mp H
             obtain ⟨t296, A430, H⟩ := H
             replace H : (some t296) = some r := H
             have A43 := Aside0.mk A430
             clear A430
             obtain rfl := Option.some.inj H
             have p295 : 0 ≤ (t292 : Int) := of_decide_eq_true (by first | (with_reducible assumption) | assumption)
             have q295 : t292 < (t281.length : Int) := of_decide_eq_true (by first | (with_reducible assumption) | assumption)
             obtain ⟨ad295, e295, hx295_0⟩ := Kd.at_int (Kd.R_reads' HO_6.out).2.2 t292 p295 q295
             cases e295
             replace p295 := eq_true p295
             replace q295 := eq_true q295
             go_wp2_with (first | (go_at_call 14; (with_reducible refine (awardingbodylaw20_awake.calls kj33  t296 _ A43.out).mono ?_); rintro e w44 ⟨rfl, hb⟩; have n0_ := Aside0.mk (Kd.R_below (by (with_reducible repeat (first | apply Kd.R_alloc | apply Kd.R_drewN | apply Kd.R_drew)); exact HO_6.out) hb); have n1_ := Aside0.mk (blk_below (g := gb276) (o := .cells #[.int .i64 t272, .int .i64 t273, .int .i64 t274] 23 (0, 0)) (by (with_reducible repeat (first | refine blk_drewN ?_ _ | refine blk_drew ?_ | refine blk_alloc ?_ _)); exact BK276.out) hb); have n2_ := Aside0.mk (below_step (by repeat (first | (with_reducible first | exact HB.out | apply below_alloc | apply pw_below_drewN | apply below_drew1 | refine below_set ?_ GE276.out) | exact HB.out)) hb); clear HO_6; clear BK276; clear HB; have HO_6 := n0_; have BK276 := n1_; have HB := n2_; clear n0_ n1_ n2_; (try clear hb); (try clear hb2); (try clear hk); (try clear hi)))
             go_ret
             exact ⟨by first | rfl | (simp [errW_none, errW_some] <;> rfl) | (simp [*, errW_none, errW_some] <;> rfl), by repeat (first | (with_reducible first | exact HB.out | apply below_alloc | apply pw_below_drewN | apply below_drew1 | refine below_set ?_ GE276.out) | exact HB.out)⟩
            ·rw [if_neg c42] at H
             exact absurd H (by simp)
           ·rw [if_neg c41] at H
            exact absurd H (by simp)
          ·rw [if_neg c40] at H
           exact absurd H (by simp)

/-- THE ONE PURE STATEMENT of awardingbodylaw20_BubbleMoves: yours. -/
def awardingbodylaw20_BubbleMoves.Pure : Prop := ∀ (l0 : List Int), l0.length ≤ maxLen → l0.length * 8 ≤ 140737488351232 → (∀ x ∈ l0, (Lit.int .i64 x).wf = true) → ∃ k, awardingbodylaw20_BubbleMoves.f k l0 = some true
theorem awardingbodylaw20_BubbleMoves.walk (P : awardingbodylaw20_BubbleMoves.Pure) (a0 : Option Addr) (len0 cap0 : Nat) (z0 : List Int) (w : World) (w0 : (a0 = none ∧ len0 = 0 ∧ cap0 = 0 ∧ z0 = []) ∨ ∃ x, a0 = some x ∧ len0 ≤ cap0 ∧ cap0 ≤ maxLen ∧ z0.length = cap0 ∧ (∀ i, i < z0.length → w.cell? (x.add i) = some (.int .i64 (z0.getD i 0))) ∧ ∀ n ∈ z0, (Lit.int .i64 n).wf = true) (y0 : len0 * 8 ≤ 140737488351232) :
  Calls Try.prog 5 #[.slice a0 len0 cap0] w fun e w' => e = .returned (.bool true) ∧ Below w.heap.size w w' := by
 obtain ⟨l0, rfl, hr0, hm0, hw0, hc0⟩ := ReadsInt.ofRowC w0
 obtain ⟨k, h⟩ := P l0 hm0 y0 hw0
 refine (awardingbodylaw20_BubbleMoves.calls k _ _ l0 true w (Kd.C_of_reads (d := (0 : Int)) (h1 := fun _ => rfl) hr0) hc0 h).mono ?_
 rintro e w' ⟨rfl, hd⟩
 exact ⟨rfl, hd⟩

end Go.Proofs.Ythbmpjglkbhhgaa.Print
