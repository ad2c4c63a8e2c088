-- Printed by a program of this session (wip/own_print.py) out of the translation; Lean checks it.
import Derived.Test.YthbmpjglkbhhgaaPrint0
import Derived.Test.YthbmpjglkbhhgaaPrint2
import Derived.Test.YthbmpjglkbhhgaaPrint4
import Derived.Test.YthbmpjglkbhhgaaPrint7
namespace Go.Proofs.Ythbmpjglkbhhgaa.Print
open Go.RowKit Go.Proofs.YthbmpjglkbhhgaaW.PrintWords Go.Proofs.YthbmpjglkbhhgaaW.PrintLast Go.Proofs.YthbmpjglkbhhgaaW.PrintMore
attribute [local go_sem] max2_int min2_int max_two min_two max_three min_three max_four min_four   -- for this text's walks alone
set_option linter.unusedVariables false
set_option linter.unusedSimpArgs false

/-! ### awardingbodylaw20_BubbleEmpty: function 7 -/
mutual
def awardingbodylaw20_BubbleEmpty.l0 : Nat → List Int → Int → Int → Int → Int → Int → Int → Int → Int → Int → Option (Bool)
  | 0, _, _, _, _, _, _, _, _, _, _ => none
  | k + 1, x5, x6, x7, x8, x9, x10, x11, x335000, x335001, x335002 => if x11 < (x5.length : Int) then (if 0 ≤ x11 then (if (rd x5 x11) ≥ x335001 then (if (rd x5 x11) ≥ x335000 then (awardingbodylaw20_BubbleEmpty.l0 k x5 x6 x7 (wrap64 (x8 + 1)) (wrap64 (x9 + 1)) (mx x10 (rd x5 x11)) (wrap64 (x11 + 1)) x335000 x335001 x335002) else (awardingbodylaw20_BubbleEmpty.l0 k x5 x6 x7 (wrap64 (x8 + 1)) x9 (mx x10 (rd x5 x11)) (wrap64 (x11 + 1)) x335000 x335001 x335002)) else (if (rd x5 x11) ≥ x335000 then (awardingbodylaw20_BubbleEmpty.l0 k x5 x6 x7 x8 (wrap64 (x9 + 1)) (mx x10 (rd x5 x11)) (wrap64 (x11 + 1)) x335000 x335001 x335002) else (awardingbodylaw20_BubbleEmpty.l0 k x5 x6 x7 x8 x9 (mx x10 (rd x5 x11)) (wrap64 (x11 + 1)) x335000 x335001 x335002))) else (none)) else (if x7 = 0 then (if x6 ≥ (x5.length : Int) then (awardingbodylaw20_BubbleEmpty.j1 k x5 x6 x8 x9 x10 true) else (awardingbodylaw20_BubbleEmpty.j1 k x5 x6 x8 x9 x10 (decide (x6 < (-2))))) else (awardingbodylaw20_BubbleEmpty.j1 k x5 x6 x8 x9 x10 true))
def awardingbodylaw20_BubbleEmpty.j1 : Nat → List Int → Int → Int → Int → Int → Bool → Option (Bool)
  | 0, _, _, _, _, _, _ => none
  | k + 1, x5, x6, x8, x9, x10, x65 => if x65 = true then (none) else (if x8 = 0 then (if x6 = (-1) then (if x9 = 1 then (if x6 < 0 then (none) else (if x9 < 2 then (if x6 = (-2) then (none) else (if x9 > 0 then (none) else (if 0 ≤ x6 then (if x6 < (x5.length : Int) then (if (rd x5 x6) = x10 then ((awardingbodylaw20_awake.f k).bind fun t346 => (some t346)) else (none)) else (none)) else (none)))) else (if x9 > 0 then (none) else (if 0 ≤ x6 then (if x6 < (x5.length : Int) then (if (rd x5 x6) = x10 then ((awardingbodylaw20_awake.f k).bind fun t348 => (some t348)) else (none)) else (none)) else (none))))) else (if x9 < 2 then (if x6 = (-2) then (none) else (if x9 > 0 then (none) else (if x6 < 0 then ((awardingbodylaw20_awake.f k).bind fun t349 => (some t349)) else (if 0 ≤ x6 then (if x6 < (x5.length : Int) then (if (rd x5 x6) = x10 then ((awardingbodylaw20_awake.f k).bind fun t351 => (some t351)) else (none)) else (none)) else (none))))) else (if x9 > 0 then (none) else (if x6 < 0 then ((awardingbodylaw20_awake.f k).bind fun t352 => (some t352)) else (if 0 ≤ x6 then (if x6 < (x5.length : Int) then (if (rd x5 x6) = x10 then ((awardingbodylaw20_awake.f k).bind fun t354 => (some t354)) else (none)) else (none)) else (none)))))) else (none)) else (if x9 = 1 then (if x6 < 0 then (none) else (if x9 < 2 then (if x6 = (-2) then (none) else (if x9 > 0 then (if x6 = (-1) then (none) else (if 0 ≤ x6 then (if x6 < (x5.length : Int) then (if (rd x5 x6) = x10 then ((awardingbodylaw20_awake.f k).bind fun t356 => (some t356)) else (none)) else (none)) else (none))) else (if 0 ≤ x6 then (if x6 < (x5.length : Int) then (if (rd x5 x6) = x10 then ((awardingbodylaw20_awake.f k).bind fun t358 => (some t358)) else (none)) else (none)) else (none)))) else (if x9 > 0 then (if x6 = (-1) then (none) else (if 0 ≤ x6 then (if x6 < (x5.length : Int) then (if (rd x5 x6) = x10 then ((awardingbodylaw20_awake.f k).bind fun t360 => (some t360)) else (none)) else (none)) else (none))) else (if 0 ≤ x6 then (if x6 < (x5.length : Int) then (if (rd x5 x6) = x10 then ((awardingbodylaw20_awake.f k).bind fun t362 => (some t362)) else (none)) else (none)) else (none))))) else (if x9 < 2 then (if x6 = (-2) then (none) else (if x9 > 0 then (if x6 = (-1) then (none) else (if x6 < 0 then ((awardingbodylaw20_awake.f k).bind fun t363 => (some t363)) else (if 0 ≤ x6 then (if x6 < (x5.length : Int) then (if (rd x5 x6) = x10 then ((awardingbodylaw20_awake.f k).bind fun t365 => (some t365)) else (none)) else (none)) else (none)))) else (if x6 < 0 then ((awardingbodylaw20_awake.f k).bind fun t366 => (some t366)) else (if 0 ≤ x6 then (if x6 < (x5.length : Int) then (if (rd x5 x6) = x10 then ((awardingbodylaw20_awake.f k).bind fun t368 => (some t368)) else (none)) else (none)) else (none))))) else (if x9 > 0 then (if x6 = (-1) then (none) else (if x6 < 0 then ((awardingbodylaw20_awake.f k).bind fun t369 => (some t369)) else (if 0 ≤ x6 then (if x6 < (x5.length : Int) then (if (rd x5 x6) = x10 then ((awardingbodylaw20_awake.f k).bind fun t371 => (some t371)) else (none)) else (none)) else (none)))) else (if x6 < 0 then ((awardingbodylaw20_awake.f k).bind fun t372 => (some t372)) else (if 0 ≤ x6 then (if x6 < (x5.length : Int) then (if (rd x5 x6) = x10 then ((awardingbodylaw20_awake.f k).bind fun t374 => (some t374)) else (none)) else (none)) else (none)))))))
end
def awardingbodylaw20_BubbleEmpty.f (k : Nat) (l0 : List Int) : Option (Bool) := (awardingbodymake_New.f l0).bind fun bt327 => ((awardingbodymake_Tape_Threshold.f bt327.1 bt327.2 0).bind fun bt330 => ((awardingbodylaw20_values.f k bt327.1 bt330.2.2.2).bind fun bt335 => ((bubble_Judge.f k bt330.1 bt330.2.1 bt330.2.2.1 bt335.1).bind fun bt339 => (awardingbodylaw20_BubbleEmpty.l0 k bt335.1 bt339.1 bt339.2 0 0 0 0 bt330.1 bt330.2.1 bt330.2.2.1))))
theorem awardingbodylaw20_BubbleEmpty.mono_l : ∀ k, (∀ y0 y1 y2 y3 y4 y5 y6 y7 y8 y9, LeO (awardingbodylaw20_BubbleEmpty.l0 k y0 y1 y2 y3 y4 y5 y6 y7 y8 y9) (awardingbodylaw20_BubbleEmpty.l0 (k + 1) y0 y1 y2 y3 y4 y5 y6 y7 y8 y9)) ∧ (∀ y0 y1 y2 y3 y4 y5, LeO (awardingbodylaw20_BubbleEmpty.j1 k y0 y1 y2 y3 y4 y5) (awardingbodylaw20_BubbleEmpty.j1 (k + 1) y0 y1 y2 y3 y4 y5))
  | 0 => ⟨fun _ _ _ _ _ _ _ _ _ _ r h => by simp [awardingbodylaw20_BubbleEmpty.l0] at h, fun _ _ _ _ _ _ r h => by simp [awardingbodylaw20_BubbleEmpty.j1] at h⟩
  | k + 1 => by
    obtain ⟨ih0, ih1⟩ := awardingbodylaw20_BubbleEmpty.mono_l k
    refine ⟨?_, ?_⟩
    · intro y0 y1 y2 y3 y4 y5 y6 y7 y8 y9
      unfold awardingbodylaw20_BubbleEmpty.l0
      repeat' first
      | (with_reducible exact ih0 _ _ _ _ _ _ _ _ _ _)
      | (with_reducible exact ih1 _ _ _ _ _ _)
      | (with_reducible exact awardingbodylaw20_awake.mono _)
      | (with_reducible exact awardingbodylaw20_values.mono _ _ _)
      | (with_reducible exact bubble_Judge.mono _ _ _ _ _)
      | (with_reducible exact LeO.refl _)
      | (with_reducible exact LeO.none _)
      | (with_reducible refine LeO.ite ?_ ?_)
      | (with_reducible refine LeO.bind ?_ (fun _ => ?_))
      | exact ih0 _ _ _ _ _ _ _ _ _ _
      | exact ih1 _ _ _ _ _ _
      | exact awardingbodylaw20_awake.mono _
      | exact awardingbodylaw20_values.mono _ _ _
      | exact bubble_Judge.mono _ _ _ _ _
      | exact LeO.none _
      | refine LeO.ite ?_ ?_
      | refine LeO.bind ?_ (fun _ => ?_)
    · intro y0 y1 y2 y3 y4 y5
      unfold awardingbodylaw20_BubbleEmpty.j1
      repeat' first
      | (with_reducible exact ih0 _ _ _ _ _ _ _ _ _ _)
      | (with_reducible exact ih1 _ _ _ _ _ _)
      | (with_reducible exact awardingbodylaw20_awake.mono _)
      | (with_reducible exact awardingbodylaw20_values.mono _ _ _)
      | (with_reducible exact bubble_Judge.mono _ _ _ _ _)
      | (with_reducible exact LeO.refl _)
      | (with_reducible exact LeO.none _)
      | (with_reducible refine LeO.ite ?_ ?_)
      | (with_reducible refine LeO.bind ?_ (fun _ => ?_))
      | exact ih0 _ _ _ _ _ _ _ _ _ _
      | exact ih1 _ _ _ _ _ _
      | exact awardingbodylaw20_awake.mono _
      | exact awardingbodylaw20_values.mono _ _ _
      | exact bubble_Judge.mono _ _ _ _ _
      | exact LeO.none _
      | refine LeO.ite ?_ ?_
      | refine LeO.bind ?_ (fun _ => ?_)
theorem awardingbodylaw20_BubbleEmpty.mono : ∀ a0 k, LeO (awardingbodylaw20_BubbleEmpty.f k a0) (awardingbodylaw20_BubbleEmpty.f (k + 1) a0) := by
  intro a0 k
  obtain ⟨ih0, ih1⟩ := awardingbodylaw20_BubbleEmpty.mono_l k
  unfold awardingbodylaw20_BubbleEmpty.f
  repeat' first
      | (with_reducible exact ih0 _ _ _ _ _ _ _ _ _ _)
      | (with_reducible exact ih1 _ _ _ _ _ _)
      | (with_reducible exact awardingbodylaw20_awake.mono _)
      | (with_reducible exact awardingbodylaw20_values.mono _ _ _)
      | (with_reducible exact bubble_Judge.mono _ _ _ _ _)
      | (with_reducible exact LeO.refl _)
      | (with_reducible exact LeO.none _)
      | (with_reducible refine LeO.ite ?_ ?_)
      | (with_reducible refine LeO.bind ?_ (fun _ => ?_))
      | exact ih0 _ _ _ _ _ _ _ _ _ _
      | exact ih1 _ _ _ _ _ _
      | exact awardingbodylaw20_awake.mono _
      | exact awardingbodylaw20_values.mono _ _ _
      | exact bubble_Judge.mono _ _ _ _ _
      | exact LeO.none _
      | refine LeO.ite ?_ ?_
      | refine LeO.bind ?_ (fun _ => ?_)
set_option maxHeartbeats 8000000 in
set_option maxRecDepth 100000 in
theorem awardingbodylaw20_BubbleEmpty.calls (k : Nat) (A0 : Option Addr) (c0 : Nat) (l0 : List Int) (r : Bool) (w : World) (hr0 : Kd.C (Kd.int .i64) w A0 l0.length l0) (hc0 : l0.length ≤ c0) (h : awardingbodylaw20_BubbleEmpty.f k l0 = some r) :
    Calls Try.prog 7 #[.slice A0 l0.length c0] w fun e w' => e = .returned (.bool r) ∧ Below w.heap.size w w' := by
 have hu23 := Try.underlying23
 have HR0 := Aside0.mk hr0
 have HC0 := Aside0.mk hc0
 clear hr0 hc0
 have HB := Aside0.mk (Below.refl w.heap.size w)
 have H : ((awardingbodymake_New.f l0).bind fun bt327 => ((awardingbodymake_Tape_Threshold.f bt327.1 bt327.2 0).bind fun bt330 => ((awardingbodylaw20_values.f k bt327.1 bt330.2.2.2).bind fun bt335 => ((bubble_Judge.f k bt330.1 bt330.2.1 bt330.2.2.1 bt335.1).bind fun bt339 => (awardingbodylaw20_BubbleEmpty.l0 k bt335.1 bt339.1 bt339.2 0 0 0 0 bt330.1 bt330.2.1 bt330.2.2.1))))) = some r := h
 clear h
 replace H := Option.bind_eq_some_iff.mp H
 obtain ⟨⟨t327, t328⟩, A20, H⟩ := H
 replace H : ((awardingbodymake_Tape_Threshold.f t327 t328 0).bind fun bt330 => ((awardingbodylaw20_values.f k t327 bt330.2.2.2).bind fun bt335 => ((bubble_Judge.f k bt330.1 bt330.2.1 bt330.2.2.1 bt335.1).bind fun bt339 => (awardingbodylaw20_BubbleEmpty.l0 k bt335.1 bt339.1 bt339.2 0 0 0 0 bt330.1 bt330.2.1 bt330.2.2.1)))) = some r := H
 have A2 := Aside0.mk A20
 clear A20
 replace H := Option.bind_eq_some_iff.mp H
 obtain ⟨⟨t330, t331, t332, t333⟩, A30, H⟩ := H
 replace H : ((awardingbodylaw20_values.f k t327 t333).bind fun bt335 => ((bubble_Judge.f k t330 t331 t332 bt335.1).bind fun bt339 => (awardingbodylaw20_BubbleEmpty.l0 k bt335.1 bt339.1 bt339.2 0 0 0 0 t330 t331 t332))) = some r := H
 have A3 := Aside0.mk A30
 clear A30
 replace H := Option.bind_eq_some_iff.mp H
 obtain ⟨⟨t335, t338⟩, A40, H⟩ := H
 replace H : ((bubble_Judge.f k t330 t331 t332 t335).bind fun bt339 => (awardingbodylaw20_BubbleEmpty.l0 k t335 bt339.1 bt339.2 0 0 0 0 t330 t331 t332)) = some r := H
 have A4 := Aside0.mk A40
 clear A40
 replace H := Option.bind_eq_some_iff.mp H
 obtain ⟨⟨t339, t340⟩, A50, H⟩ := H
 replace H : (awardingbodylaw20_BubbleEmpty.l0 k t335 t339 t340 0 0 0 0 t330 t331 t332) = some r := H
 have A5 := Aside0.mk A50
 clear A50
 have H' := Aside0.mk H
 clear H
 go_enter Try.func7, Try.ntmps7
 go_wp2_with (first | (go_at_call 15; (with_reducible refine (awardingbodymake_New.calls _ _ l0 t327 t328 w _ ?side1 ?side2 ?side3 A2.out).mono ?_); (case side1 => repeat (first | (with_reducible first | exact HB.out | apply below_alloc | apply pw_below_drewN | apply below_drew1) | exact HB.out)); (case side2 => exact HR0.out); (case side3 => exact HC0.out); rintro e w6 ⟨g329, rfl, hi, hb, hb2⟩; have n0_ := Aside0.mk (hb); have n1_ := Aside0.mk (hi); clear HB; have HB := n0_; have HI329 := n1_; clear n0_ n1_; (try clear hb); (try clear hb2); (try clear hk); (try clear hi)) | (go_at_call 16; (with_reducible refine (awardingbodymake_Tape_Threshold.calls g329 t327 t328 0 t330 t331 t332 t333 w _ ?side1 ?side2 A3.out).mono ?_); (case side1 => repeat (first | (with_reducible first | exact HI329.out | apply IsS68.alloc | apply IsS68.drewN | apply IsS68.drew | apply IsS68.set_1) | exact HI329.out)); (case side2 => repeat (first | (with_reducible first | exact HB.out | apply below_alloc | apply pw_below_drewN | apply below_drew1 | refine below_set ?_ (IsS68.ge HI329.out)) | exact HB.out)); rintro e w7 ⟨rfl, hi, hb, hk⟩; have n0_ := Aside0.mk (hb); have n1_ := Aside0.mk (hi); clear HB; clear HI329; have HB := n0_; have HI329 := n1_; clear n0_ n1_; (try clear hb); (try clear hb2); (try clear hk); (try clear hi)) | ((with_reducible refine gate_dst (N := 4) rfl ?_); (try (refine gate_guard (by rfl) ?_; dsimp only)); refine box_event ?hg (N := 4) ?hd (cs := #[.int .i64 0, .int .i64 0, .int .i64 0]) (t := 23) ?hr ?_; (case hd => rfl); (case hg => rfl); (case hr => first | (go_simp; done) | (go_simp; rfl)); intro gb334 hg w8 hbox hb; have n0_ := Aside0.mk (IsS68.below (by repeat (first | (with_reducible first | exact HI329.out | apply IsS68.alloc | apply IsS68.drewN | apply IsS68.drew | apply IsS68.set_1) | exact HI329.out)) hb); have n1_ := Aside0.mk (below_step (by repeat (first | (with_reducible first | exact HB.out | apply below_alloc | apply pw_below_drewN | apply below_drew1 | refine below_set ?_ (IsS68.ge HI329.out)) | exact HB.out)) hb); have n2_ := Aside0.mk (hbox); have n3_ := Aside0.mk ((by rw [hg]; exact (below_size (by repeat (first | (with_reducible first | exact HB.out | apply below_alloc | apply pw_below_drewN | apply below_drew1 | refine below_set ?_ (IsS68.ge HI329.out)) | exact HB.out))) : w.heap.size ≤ gb334)); have n4_ := Aside0.mk ((by rw [hg]; exact (below_size (by repeat (first | (with_reducible first | exact HB.out | apply below_alloc | apply pw_below_drewN | apply below_drew1 | refine below_set ?_ (IsS68.ge HI329.out)) | exact HB.out))) : w.heap.size ≤ gb334)); have n5_ := Aside0.mk ((by rw [hg]; exact Nat.ne_of_lt (IsS68.lt (show IsS68 w _ g329 t327 t333 from by repeat (first | (with_reducible first | exact HI329.out | apply IsS68.alloc | apply IsS68.drewN | apply IsS68.drew | apply IsS68.set_1) | exact HI329.out))) : g329 ≠ gb334)); have n6_ := Aside0.mk ((by rw [hg]; exact Nat.ne_of_gt (IsS68.lt (show IsS68 w _ g329 t327 t333 from by repeat (first | (with_reducible first | exact HI329.out | apply IsS68.alloc | apply IsS68.drewN | apply IsS68.drew | apply IsS68.set_1) | exact HI329.out))) : gb334 ≠ g329)); clear HI329; clear HB; have HI329 := n0_; have HB := n1_; have BK334 := n2_; have GW334 := n3_; have GE334 := n4_; have NB329_334 := n5_; have NB334_329 := n6_; clear n0_ n1_ n2_ n3_ n4_ n5_ n6_; clear hb hbox hg; have hnb9 := NB334_329.out; have hnc9 := NB329_334.out; have hcz10_0 : w8.cell? ⟨gb334, 0, none⟩ = some (.int .i64 0) := (blk_cell BK334.out 0).trans rfl; have hcz10_1 : w8.cell? ⟨gb334, 1, none⟩ = some (.int .i64 0) := (blk_cell BK334.out 1).trans rfl; have hcz10_2 : w8.cell? ⟨gb334, 2, none⟩ = some (.int .i64 0) := (blk_cell BK334.out 2).trans rfl; have hfz10_0 := blk_frozen BK334.out 0; have hfz10_1 := blk_frozen BK334.out 1; have hfz10_2 := blk_frozen BK334.out 2) | (go_at_call 23; (with_reducible refine (awardingbodylaw20_values.calls k g329 t327 t333 t335 t338 w _ ?side1 ?side2 A4.out).mono ?_); (case side1 => repeat (first | (with_reducible first | exact HI329.out | apply IsS68.alloc | apply IsS68.drewN | apply IsS68.drew | apply IsS68.set_1 | refine IsS68.far ?_ NB329_334.out _) | exact HI329.out)); (case side2 => repeat (first | (with_reducible first | exact HB.out | apply below_alloc | apply pw_below_drewN | apply below_drew1 | refine below_set ?_ (IsS68.ge HI329.out) | refine below_set ?_ GE334.out) | exact HB.out)); rintro e w11 ⟨v336, rfl, ho0, hi, hb, hk⟩; have n0_ := Aside0.mk (KeepBut.blk hk (g' := gb334) (o := .cells #[.int .i64 t330, .int .i64 t331, .int .i64 t332] 23 (0, 0)) (by (with_reducible repeat (first | refine blk_drewN ?_ _ | refine blk_drew ?_ | refine blk_alloc ?_ _)); refine blk_put (cs := #[.int .i64 t330, .int .i64 t331, .int .i64 0]) ?_ 2 _ rfl; (with_reducible repeat (first | refine blk_drewN ?_ _ | refine blk_drew ?_ | refine blk_alloc ?_ _)); refine blk_put (cs := #[.int .i64 t330, .int .i64 0, .int .i64 0]) ?_ 1 _ rfl; (with_reducible repeat (first | refine blk_drewN ?_ _ | refine blk_drew ?_ | refine blk_alloc ?_ _)); refine blk_put (cs := #[.int .i64 0, .int .i64 0, .int .i64 0]) ?_ 0 _ rfl; (with_reducible repeat (first | refine blk_drewN ?_ _ | refine blk_drew ?_ | refine blk_alloc ?_ _)); exact BK334.out) NB334_329.out (by simp)); have n1_ := Aside0.mk (Kd.R_lower ho0 (below_size (by repeat (first | (with_reducible first | exact HB.out | apply below_alloc | apply pw_below_drewN | apply below_drew1 | refine below_set ?_ (IsS68.ge HI329.out) | refine below_set ?_ GE334.out) | exact HB.out)))); have n2_ := Aside0.mk (hb); have n3_ := Aside0.mk (hi); clear BK334; clear HB; clear HI329; have BK334 := n0_; have HO337 := n1_; have HB := n2_; have HI329 := n3_; clear n0_ n1_ n2_ n3_; (try clear hb); (try clear hb2); (try clear hk); (try clear hi); (try clear ho0); have hcz12_0 : w11.cell? ⟨gb334, 0, none⟩ = some (.int .i64 t330) := (blk_cell BK334.out 0).trans rfl; have hcz12_1 : w11.cell? ⟨gb334, 1, none⟩ = some (.int .i64 t331) := (blk_cell BK334.out 1).trans rfl; have hcz12_2 : w11.cell? ⟨gb334, 2, none⟩ = some (.int .i64 t332) := (blk_cell BK334.out 2).trans rfl; have hfz12_0 := blk_frozen BK334.out 0; have hfz12_1 := blk_frozen BK334.out 1; have hfz12_2 := blk_frozen BK334.out 2; obtain ⟨Ao13, co13, eo13⟩ := Kd.R_slice HO337.out; subst eo13) | (go_at_call 21; (with_reducible refine (bubble_Judge.calls k t330 t331 t332 _ _ t335 t339 t340 _ ?side1 ?side2 A5.out).mono ?_); (case side1 => repeat (first | exact (Kd.R_reads' HO337.out).2.2 | (with_reducible refine Kd.C_alloc ?_ _) | (with_reducible refine Kd.C_drewN ?_ _) | (with_reducible refine Kd.C_drew ?_))); (case side2 => exact (Kd.R_reads' HO337.out).2.1); rintro e w14 ⟨rfl, hb⟩; have n0_ := Aside0.mk (Kd.R_below (by (with_reducible repeat (first | apply Kd.R_alloc | apply Kd.R_drewN | apply Kd.R_drew)); exact HO337.out) hb); have n1_ := Aside0.mk (IsS68.below (by repeat (first | (with_reducible first | exact HI329.out | apply IsS68.alloc | apply IsS68.drewN | apply IsS68.drew | apply IsS68.set_1 | refine IsS68.far ?_ NB329_334.out _) | exact HI329.out)) hb); have n2_ := Aside0.mk (blk_below (g := gb334) (o := .cells #[.int .i64 t330, .int .i64 t331, .int .i64 t332] 23 (0, 0)) (by (with_reducible repeat (first | refine blk_drewN ?_ _ | refine blk_drew ?_ | refine blk_alloc ?_ _)); exact BK334.out) hb); have n3_ := Aside0.mk (below_step (by repeat (first | (with_reducible first | exact HB.out | apply below_alloc | apply pw_below_drewN | apply below_drew1 | refine below_set ?_ (IsS68.ge HI329.out) | refine below_set ?_ GE334.out) | exact HB.out)) hb); clear HO337; clear HI329; clear BK334; clear HB; have HO337 := n0_; have HI329 := n1_; have BK334 := n2_; have HB := n3_; clear n0_ n1_ n2_ n3_; (try clear hb); (try clear hb2); (try clear hk); (try clear hi)))
 repeat (go_quiet (first | (go_at_call 15; (with_reducible refine (awardingbodymake_New.calls _ _ l0 t327 t328 w _ ?side1 ?side2 ?side3 A2.out).mono ?_); (case side1 => repeat (first | (with_reducible first | exact HB.out | apply below_alloc | apply pw_below_drewN | apply below_drew1) | exact HB.out)); (case side2 => exact HR0.out); (case side3 => exact HC0.out); rintro e w6 ⟨g329, rfl, hi, hb, hb2⟩; have n0_ := Aside0.mk (hb); have n1_ := Aside0.mk (hi); clear HB; have HB := n0_; have HI329 := n1_; clear n0_ n1_; (try clear hb); (try clear hb2); (try clear hk); (try clear hi)) | (go_at_call 16; (with_reducible refine (awardingbodymake_Tape_Threshold.calls g329 t327 t328 0 t330 t331 t332 t333 w _ ?side1 ?side2 A3.out).mono ?_); (case side1 => repeat (first | (with_reducible first | exact HI329.out | apply IsS68.alloc | apply IsS68.drewN | apply IsS68.drew | apply IsS68.set_1) | exact HI329.out)); (case side2 => repeat (first | (with_reducible first | exact HB.out | apply below_alloc | apply pw_below_drewN | apply below_drew1 | refine below_set ?_ (IsS68.ge HI329.out)) | exact HB.out)); rintro e w7 ⟨rfl, hi, hb, hk⟩; have n0_ := Aside0.mk (hb); have n1_ := Aside0.mk (hi); clear HB; clear HI329; have HB := n0_; have HI329 := n1_; clear n0_ n1_; (try clear hb); (try clear hb2); (try clear hk); (try clear hi)) | ((with_reducible refine gate_dst (N := 4) rfl ?_); (try (refine gate_guard (by rfl) ?_; dsimp only)); refine box_event ?hg (N := 4) ?hd (cs := #[.int .i64 0, .int .i64 0, .int .i64 0]) (t := 23) ?hr ?_; (case hd => rfl); (case hg => rfl); (case hr => first | (go_simp; done) | (go_simp; rfl)); intro gb334 hg w8 hbox hb; have n0_ := Aside0.mk (IsS68.below (by repeat (first | (with_reducible first | exact HI329.out | apply IsS68.alloc | apply IsS68.drewN | apply IsS68.drew | apply IsS68.set_1) | exact HI329.out)) hb); have n1_ := Aside0.mk (below_step (by repeat (first | (with_reducible first | exact HB.out | apply below_alloc | apply pw_below_drewN | apply below_drew1 | refine below_set ?_ (IsS68.ge HI329.out)) | exact HB.out)) hb); have n2_ := Aside0.mk (hbox); have n3_ := Aside0.mk ((by rw [hg]; exact (below_size (by repeat (first | (with_reducible first | exact HB.out | apply below_alloc | apply pw_below_drewN | apply below_drew1 | refine below_set ?_ (IsS68.ge HI329.out)) | exact HB.out))) : w.heap.size ≤ gb334)); have n4_ := Aside0.mk ((by rw [hg]; exact (below_size (by repeat (first | (with_reducible first | exact HB.out | apply below_alloc | apply pw_below_drewN | apply below_drew1 | refine below_set ?_ (IsS68.ge HI329.out)) | exact HB.out))) : w.heap.size ≤ gb334)); have n5_ := Aside0.mk ((by rw [hg]; exact Nat.ne_of_lt (IsS68.lt (show IsS68 w _ g329 t327 t333 from by repeat (first | (with_reducible first | exact HI329.out | apply IsS68.alloc | apply IsS68.drewN | apply IsS68.drew | apply IsS68.set_1) | exact HI329.out))) : g329 ≠ gb334)); have n6_ := Aside0.mk ((by rw [hg]; exact Nat.ne_of_gt (IsS68.lt (show IsS68 w _ g329 t327 t333 from by repeat (first | (with_reducible first | exact HI329.out | apply IsS68.alloc | apply IsS68.drewN | apply IsS68.drew | apply IsS68.set_1) | exact HI329.out))) : gb334 ≠ g329)); clear HI329; clear HB; have HI329 := n0_; have HB := n1_; have BK334 := n2_; have GW334 := n3_; have GE334 := n4_; have NB329_334 := n5_; have NB334_329 := n6_; clear n0_ n1_ n2_ n3_ n4_ n5_ n6_; clear hb hbox hg; have hnb9 := NB334_329.out; have hnc9 := NB329_334.out; have hcz10_0 : w8.cell? ⟨gb334, 0, none⟩ = some (.int .i64 0) := (blk_cell BK334.out 0).trans rfl; have hcz10_1 : w8.cell? ⟨gb334, 1, none⟩ = some (.int .i64 0) := (blk_cell BK334.out 1).trans rfl; have hcz10_2 : w8.cell? ⟨gb334, 2, none⟩ = some (.int .i64 0) := (blk_cell BK334.out 2).trans rfl; have hfz10_0 := blk_frozen BK334.out 0; have hfz10_1 := blk_frozen BK334.out 1; have hfz10_2 := blk_frozen BK334.out 2) | (go_at_call 23; (with_reducible refine (awardingbodylaw20_values.calls k g329 t327 t333 t335 t338 w _ ?side1 ?side2 A4.out).mono ?_); (case side1 => repeat (first | (with_reducible first | exact HI329.out | apply IsS68.alloc | apply IsS68.drewN | apply IsS68.drew | apply IsS68.set_1 | refine IsS68.far ?_ NB329_334.out _) | exact HI329.out)); (case side2 => repeat (first | (with_reducible first | exact HB.out | apply below_alloc | apply pw_below_drewN | apply below_drew1 | refine below_set ?_ (IsS68.ge HI329.out) | refine below_set ?_ GE334.out) | exact HB.out)); rintro e w11 ⟨v336, rfl, ho0, hi, hb, hk⟩; have n0_ := Aside0.mk (KeepBut.blk hk (g' := gb334) (o := .cells #[.int .i64 t330, .int .i64 t331, .int .i64 t332] 23 (0, 0)) (by (with_reducible repeat (first | refine blk_drewN ?_ _ | refine blk_drew ?_ | refine blk_alloc ?_ _)); refine blk_put (cs := #[.int .i64 t330, .int .i64 t331, .int .i64 0]) ?_ 2 _ rfl; (with_reducible repeat (first | refine blk_drewN ?_ _ | refine blk_drew ?_ | refine blk_alloc ?_ _)); refine blk_put (cs := #[.int .i64 t330, .int .i64 0, .int .i64 0]) ?_ 1 _ rfl; (with_reducible repeat (first | refine blk_drewN ?_ _ | refine blk_drew ?_ | refine blk_alloc ?_ _)); refine blk_put (cs := #[.int .i64 0, .int .i64 0, .int .i64 0]) ?_ 0 _ rfl; (with_reducible repeat (first | refine blk_drewN ?_ _ | refine blk_drew ?_ | refine blk_alloc ?_ _)); exact BK334.out) NB334_329.out (by simp)); have n1_ := Aside0.mk (Kd.R_lower ho0 (below_size (by repeat (first | (with_reducible first | exact HB.out | apply below_alloc | apply pw_below_drewN | apply below_drew1 | refine below_set ?_ (IsS68.ge HI329.out) | refine below_set ?_ GE334.out) | exact HB.out)))); have n2_ := Aside0.mk (hb); have n3_ := Aside0.mk (hi); clear BK334; clear HB; clear HI329; have BK334 := n0_; have HO337 := n1_; have HB := n2_; have HI329 := n3_; clear n0_ n1_ n2_ n3_; (try clear hb); (try clear hb2); (try clear hk); (try clear hi); (try clear ho0); have hcz12_0 : w11.cell? ⟨gb334, 0, none⟩ = some (.int .i64 t330) := (blk_cell BK334.out 0).trans rfl; have hcz12_1 : w11.cell? ⟨gb334, 1, none⟩ = some (.int .i64 t331) := (blk_cell BK334.out 1).trans rfl; have hcz12_2 : w11.cell? ⟨gb334, 2, none⟩ = some (.int .i64 t332) := (blk_cell BK334.out 2).trans rfl; have hfz12_0 := blk_frozen BK334.out 0; have hfz12_1 := blk_frozen BK334.out 1; have hfz12_2 := blk_frozen BK334.out 2; obtain ⟨Ao13, co13, eo13⟩ := Kd.R_slice HO337.out; subst eo13) | (go_at_call 21; (with_reducible refine (bubble_Judge.calls k t330 t331 t332 _ _ t335 t339 t340 _ ?side1 ?side2 A5.out).mono ?_); (case side1 => repeat (first | exact (Kd.R_reads' HO337.out).2.2 | (with_reducible refine Kd.C_alloc ?_ _) | (with_reducible refine Kd.C_drewN ?_ _) | (with_reducible refine Kd.C_drew ?_))); (case side2 => exact (Kd.R_reads' HO337.out).2.1); rintro e w14 ⟨rfl, hb⟩; have n0_ := Aside0.mk (Kd.R_below (by (with_reducible repeat (first | apply Kd.R_alloc | apply Kd.R_drewN | apply Kd.R_drew)); exact HO337.out) hb); have n1_ := Aside0.mk (IsS68.below (by repeat (first | (with_reducible first | exact HI329.out | apply IsS68.alloc | apply IsS68.drewN | apply IsS68.drew | apply IsS68.set_1 | refine IsS68.far ?_ NB329_334.out _) | exact HI329.out)) hb); have n2_ := Aside0.mk (blk_below (g := gb334) (o := .cells #[.int .i64 t330, .int .i64 t331, .int .i64 t332] 23 (0, 0)) (by (with_reducible repeat (first | refine blk_drewN ?_ _ | refine blk_drew ?_ | refine blk_alloc ?_ _)); exact BK334.out) hb); have n3_ := Aside0.mk (below_step (by repeat (first | (with_reducible first | exact HB.out | apply below_alloc | apply pw_below_drewN | apply below_drew1 | refine below_set ?_ (IsS68.ge HI329.out) | refine below_set ?_ GE334.out) | exact HB.out)) hb); clear HO337; clear HI329; clear BK334; clear HB; have HO337 := n0_; have HI329 := n1_; have BK334 := n2_; have HB := n3_; clear n0_ n1_ n2_ n3_; (try clear hb); (try clear hb2); (try clear hk); (try clear hi))); try go_wp2_with (first | (go_at_call 15; (with_reducible refine (awardingbodymake_New.calls _ _ l0 t327 t328 w _ ?side1 ?side2 ?side3 A2.out).mono ?_); (case side1 => repeat (first | (with_reducible first | exact HB.out | apply below_alloc | apply pw_below_drewN | apply below_drew1) | exact HB.out)); (case side2 => exact HR0.out); (case side3 => exact HC0.out); rintro e w6 ⟨g329, rfl, hi, hb, hb2⟩; have n0_ := Aside0.mk (hb); have n1_ := Aside0.mk (hi); clear HB; have HB := n0_; have HI329 := n1_; clear n0_ n1_; (try clear hb); (try clear hb2); (try clear hk); (try clear hi)) | (go_at_call 16; (with_reducible refine (awardingbodymake_Tape_Threshold.calls g329 t327 t328 0 t330 t331 t332 t333 w _ ?side1 ?side2 A3.out).mono ?_); (case side1 => repeat (first | (with_reducible first | exact HI329.out | apply IsS68.alloc | apply IsS68.drewN | apply IsS68.drew | apply IsS68.set_1) | exact HI329.out)); (case side2 => repeat (first | (with_reducible first | exact HB.out | apply below_alloc | apply pw_below_drewN | apply below_drew1 | refine below_set ?_ (IsS68.ge HI329.out)) | exact HB.out)); rintro e w7 ⟨rfl, hi, hb, hk⟩; have n0_ := Aside0.mk (hb); have n1_ := Aside0.mk (hi); clear HB; clear HI329; have HB := n0_; have HI329 := n1_; clear n0_ n1_; (try clear hb); (try clear hb2); (try clear hk); (try clear hi)) | ((with_reducible refine gate_dst (N := 4) rfl ?_); (try (refine gate_guard (by rfl) ?_; dsimp only)); refine box_event ?hg (N := 4) ?hd (cs := #[.int .i64 0, .int .i64 0, .int .i64 0]) (t := 23) ?hr ?_; (case hd => rfl); (case hg => rfl); (case hr => first | (go_simp; done) | (go_simp; rfl)); intro gb334 hg w8 hbox hb; have n0_ := Aside0.mk (IsS68.below (by repeat (first | (with_reducible first | exact HI329.out | apply IsS68.alloc | apply IsS68.drewN | apply IsS68.drew | apply IsS68.set_1) | exact HI329.out)) hb); have n1_ := Aside0.mk (below_step (by repeat (first | (with_reducible first | exact HB.out | apply below_alloc | apply pw_below_drewN | apply below_drew1 | refine below_set ?_ (IsS68.ge HI329.out)) | exact HB.out)) hb); have n2_ := Aside0.mk (hbox); have n3_ := Aside0.mk ((by rw [hg]; exact (below_size (by repeat (first | (with_reducible first | exact HB.out | apply below_alloc | apply pw_below_drewN | apply below_drew1 | refine below_set ?_ (IsS68.ge HI329.out)) | exact HB.out))) : w.heap.size ≤ gb334)); have n4_ := Aside0.mk ((by rw [hg]; exact (below_size (by repeat (first | (with_reducible first | exact HB.out | apply below_alloc | apply pw_below_drewN | apply below_drew1 | refine below_set ?_ (IsS68.ge HI329.out)) | exact HB.out))) : w.heap.size ≤ gb334)); have n5_ := Aside0.mk ((by rw [hg]; exact Nat.ne_of_lt (IsS68.lt (show IsS68 w _ g329 t327 t333 from by repeat (first | (with_reducible first | exact HI329.out | apply IsS68.alloc | apply IsS68.drewN | apply IsS68.drew | apply IsS68.set_1) | exact HI329.out))) : g329 ≠ gb334)); have n6_ := Aside0.mk ((by rw [hg]; exact Nat.ne_of_gt (IsS68.lt (show IsS68 w _ g329 t327 t333 from by repeat (first | (with_reducible first | exact HI329.out | apply IsS68.alloc | apply IsS68.drewN | apply IsS68.drew | apply IsS68.set_1) | exact HI329.out))) : gb334 ≠ g329)); clear HI329; clear HB; have HI329 := n0_; have HB := n1_; have BK334 := n2_; have GW334 := n3_; have GE334 := n4_; have NB329_334 := n5_; have NB334_329 := n6_; clear n0_ n1_ n2_ n3_ n4_ n5_ n6_; clear hb hbox hg; have hnb9 := NB334_329.out; have hnc9 := NB329_334.out; have hcz10_0 : w8.cell? ⟨gb334, 0, none⟩ = some (.int .i64 0) := (blk_cell BK334.out 0).trans rfl; have hcz10_1 : w8.cell? ⟨gb334, 1, none⟩ = some (.int .i64 0) := (blk_cell BK334.out 1).trans rfl; have hcz10_2 : w8.cell? ⟨gb334, 2, none⟩ = some (.int .i64 0) := (blk_cell BK334.out 2).trans rfl; have hfz10_0 := blk_frozen BK334.out 0; have hfz10_1 := blk_frozen BK334.out 1; have hfz10_2 := blk_frozen BK334.out 2) | (go_at_call 23; (with_reducible refine (awardingbodylaw20_values.calls k g329 t327 t333 t335 t338 w _ ?side1 ?side2 A4.out).mono ?_); (case side1 => repeat (first | (with_reducible first | exact HI329.out | apply IsS68.alloc | apply IsS68.drewN | apply IsS68.drew | apply IsS68.set_1 | refine IsS68.far ?_ NB329_334.out _) | exact HI329.out)); (case side2 => repeat (first | (with_reducible first | exact HB.out | apply below_alloc | apply pw_below_drewN | apply below_drew1 | refine below_set ?_ (IsS68.ge HI329.out) | refine below_set ?_ GE334.out) | exact HB.out)); rintro e w11 ⟨v336, rfl, ho0, hi, hb, hk⟩; have n0_ := Aside0.mk (KeepBut.blk hk (g' := gb334) (o := .cells #[.int .i64 t330, .int .i64 t331, .int .i64 t332] 23 (0, 0)) (by (with_reducible repeat (first | refine blk_drewN ?_ _ | refine blk_drew ?_ | refine blk_alloc ?_ _)); refine blk_put (cs := #[.int .i64 t330, .int .i64 t331, .int .i64 0]) ?_ 2 _ rfl; (with_reducible repeat (first | refine blk_drewN ?_ _ | refine blk_drew ?_ | refine blk_alloc ?_ _)); refine blk_put (cs := #[.int .i64 t330, .int .i64 0, .int .i64 0]) ?_ 1 _ rfl; (with_reducible repeat (first | refine blk_drewN ?_ _ | refine blk_drew ?_ | refine blk_alloc ?_ _)); refine blk_put (cs := #[.int .i64 0, .int .i64 0, .int .i64 0]) ?_ 0 _ rfl; (with_reducible repeat (first | refine blk_drewN ?_ _ | refine blk_drew ?_ | refine blk_alloc ?_ _)); exact BK334.out) NB334_329.out (by simp)); have n1_ := Aside0.mk (Kd.R_lower ho0 (below_size (by repeat (first | (with_reducible first | exact HB.out | apply below_alloc | apply pw_below_drewN | apply below_drew1 | refine below_set ?_ (IsS68.ge HI329.out) | refine below_set ?_ GE334.out) | exact HB.out)))); have n2_ := Aside0.mk (hb); have n3_ := Aside0.mk (hi); clear BK334; clear HB; clear HI329; have BK334 := n0_; have HO337 := n1_; have HB := n2_; have HI329 := n3_; clear n0_ n1_ n2_ n3_; (try clear hb); (try clear hb2); (try clear hk); (try clear hi); (try clear ho0); have hcz12_0 : w11.cell? ⟨gb334, 0, none⟩ = some (.int .i64 t330) := (blk_cell BK334.out 0).trans rfl; have hcz12_1 : w11.cell? ⟨gb334, 1, none⟩ = some (.int .i64 t331) := (blk_cell BK334.out 1).trans rfl; have hcz12_2 : w11.cell? ⟨gb334, 2, none⟩ = some (.int .i64 t332) := (blk_cell BK334.out 2).trans rfl; have hfz12_0 := blk_frozen BK334.out 0; have hfz12_1 := blk_frozen BK334.out 1; have hfz12_2 := blk_frozen BK334.out 2; obtain ⟨Ao13, co13, eo13⟩ := Kd.R_slice HO337.out; subst eo13) | (go_at_call 21; (with_reducible refine (bubble_Judge.calls k t330 t331 t332 _ _ t335 t339 t340 _ ?side1 ?side2 A5.out).mono ?_); (case side1 => repeat (first | exact (Kd.R_reads' HO337.out).2.2 | (with_reducible refine Kd.C_alloc ?_ _) | (with_reducible refine Kd.C_drewN ?_ _) | (with_reducible refine Kd.C_drew ?_))); (case side2 => exact (Kd.R_reads' HO337.out).2.1); rintro e w14 ⟨rfl, hb⟩; have n0_ := Aside0.mk (Kd.R_below (by (with_reducible repeat (first | apply Kd.R_alloc | apply Kd.R_drewN | apply Kd.R_drew)); exact HO337.out) hb); have n1_ := Aside0.mk (IsS68.below (by repeat (first | (with_reducible first | exact HI329.out | apply IsS68.alloc | apply IsS68.drewN | apply IsS68.drew | apply IsS68.set_1 | refine IsS68.far ?_ NB329_334.out _) | exact HI329.out)) hb); have n2_ := Aside0.mk (blk_below (g := gb334) (o := .cells #[.int .i64 t330, .int .i64 t331, .int .i64 t332] 23 (0, 0)) (by (with_reducible repeat (first | refine blk_drewN ?_ _ | refine blk_drew ?_ | refine blk_alloc ?_ _)); exact BK334.out) hb); have n3_ := Aside0.mk (below_step (by repeat (first | (with_reducible first | exact HB.out | apply below_alloc | apply pw_below_drewN | apply below_drew1 | refine below_set ?_ (IsS68.ge HI329.out) | refine below_set ?_ GE334.out) | exact HB.out)) hb); clear HO337; clear HI329; clear BK334; clear HB; have HO337 := n0_; have HI329 := n1_; have BK334 := n2_; have HB := n3_; clear n0_ n1_ n2_ n3_; (try clear hb); (try clear hb2); (try clear hk); (try clear hi))))
 go_loopg [8, 9, 10, 11] k (fun kq v8 v9 v10 v11 w' => ∃ (x8_1 : Int) (x9_1 : Int) (x10_1 : Int) (x11_1 : Int), v8 = .int .i64 x8_1 ∧ v9 = .int .i64 x9_1 ∧ v10 = .int .i64 x10_1 ∧ v11 = .int .i64 x11_1 ∧ Aside0 (awardingbodylaw20_BubbleEmpty.l0 kq t335 t339 t340 x8_1 x9_1 x10_1 x11_1 t330 t331 t332 = some r) ∧ Aside0 (kq ≤ k) ∧ Aside0 (Kd.R (Kd.int .i64) 3 w' w.heap.size (fun _ => True) (.slice Ao13 t335.length co13) t335) ∧ Aside0 (w'.heap[gb334]? = some (.cells #[.int .i64 t330, .int .i64 t331, .int .i64 t332] 23 (0, 0))) ∧ Aside0 (Below w.heap.size w w'))
 case atStart => exact ⟨(0), (0), (0), (0), (by first | rfl | (simp; done) | (simp [*]; done)), (by first | rfl | (simp; done) | (simp [*]; done)), (by first | rfl | (simp; done) | (simp [*]; done)), (by first | rfl | (simp; done) | (simp [*]; done)), H', ⟨Nat.le_refl _⟩, ⟨by (with_reducible repeat (first | apply Kd.R_alloc | apply Kd.R_drewN | apply Kd.R_drew)); exact HO337.out⟩, ⟨by (with_reducible repeat (first | refine blk_drewN ?_ _ | refine blk_drew ?_ | refine blk_alloc ?_ _)); exact BK334.out⟩, ⟨by repeat (first | (with_reducible first | exact HB.out | apply below_alloc | apply pw_below_drewN | apply below_drew1 | refine below_set ?_ (IsS68.ge HI329.out) | refine below_set ?_ GE334.out) | exact HB.out)⟩⟩
 case round =>
  clear H'
  try clear p2
  try clear c7
  try clear c9
  try clear hcz10_0
  try clear hcz10_1
  try clear hcz10_2
  try clear hcz12_0
  try clear hcz12_1
  try clear hcz12_2
  try clear hfz10_0
  try clear hfz10_1
  try clear hfz10_2
  try clear hfz12_0
  try clear hfz12_1
  try clear hfz12_2
  obtain ⟨x8_1, x9_1, x10_1, x11_1, rfl, rfl, rfl, rfl, HA, HK1, HO_5, BK334, HB⟩ := hrel
  cases gk with
  | zero => exact absurd HA.out (by simp [awardingbodylaw20_BubbleEmpty.l0])
  | succ k1 =>
   have H := HA.out
   clear HA
   simp only [awardingbodylaw20_BubbleEmpty.l0] at H
   by_cases c15 : x11_1 < (t335.length : Int)
   ·rw [if_pos c15] at H
    have c15b0 : decide (x11_1 < (t335.length : Int)) = true := decide_eq_true c15
    clear c15
    by_cases c16 : 0 ≤ x11_1
    ·rw [if_pos c16] at H
     have c16b0 : decide (0 ≤ x11_1) = true := decide_eq_true c16
     clear c16
     obtain ⟨ji17, hji17⟩ : ∃ j_ : Int, (mx x10_1 (rd t335 x11_1)) = j_ := ⟨_, rfl⟩
     replace H : (if (rd t335 x11_1) ≥ t331 then (if (rd t335 x11_1) ≥ t330 then (awardingbodylaw20_BubbleEmpty.l0 k1 t335 t339 t340 (wrap64 (x8_1 + 1)) (wrap64 (x9_1 + 1)) ji17 (wrap64 (x11_1 + 1)) t330 t331 t332) else (awardingbodylaw20_BubbleEmpty.l0 k1 t335 t339 t340 (wrap64 (x8_1 + 1)) x9_1 ji17 (wrap64 (x11_1 + 1)) t330 t331 t332)) else (if (rd t335 x11_1) ≥ t330 then (awardingbodylaw20_BubbleEmpty.l0 k1 t335 t339 t340 x8_1 (wrap64 (x9_1 + 1)) ji17 (wrap64 (x11_1 + 1)) t330 t331 t332) else (awardingbodylaw20_BubbleEmpty.l0 k1 t335 t339 t340 x8_1 x9_1 ji17 (wrap64 (x11_1 + 1)) t330 t331 t332))) = some r := by first | (rw [hji17] at H; exact H) | (simp only [hji17] at H ⊢; exact H)
     have hji17_ : (if x10_1 < (rd t335 x11_1) then (rd t335 x11_1) else x10_1) = ji17 := hji17
     by_cases c18 : (rd t335 x11_1) ≥ t331
     ·rw [if_pos c18] at H
      have c18b0 : decide (t331 ≤ (rd t335 x11_1)) = true := decide_eq_true c18
      clear c18
      by_cases c19 : (rd t335 x11_1) ≥ t330
      ·rw [if_pos c19] at H
       have c19b0 : decide (t330 ≤ (rd t335 x11_1)) = true := decide_eq_true c19
       clear c19
       have H' := Aside0.mk H
       clear H
       have p341 : 0 ≤ (x11_1 : Int) := of_decide_eq_true (by first | (with_reducible assumption) | assumption)
       have q341 : x11_1 < (t335.length : Int) := of_decide_eq_true (by first | (with_reducible assumption) | assumption)
       obtain ⟨ad341, e341, hx341_0⟩ := Kd.at_int (Kd.R_reads' HO_5.out).2.2 x11_1 p341 q341
       cases e341
       replace p341 := eq_true p341
       replace q341 := eq_true q341
       have p342 : 0 ≤ (x11_1 : Int) := of_decide_eq_true (by first | (with_reducible assumption) | assumption)
       have q342 : x11_1 < (t335.length : Int) := of_decide_eq_true (by first | (with_reducible assumption) | assumption)
       obtain ⟨ad342, e342, hx342_0⟩ := Kd.at_int (Kd.R_reads' HO_5.out).2.2 x11_1 p342 q342
       obtain rfl : ad341 = ad342 := (by injection e342)
       replace p342 := eq_true p342
       replace q342 := eq_true q342
       have hcz20_0 : wr.cell? ⟨gb334, 0, none⟩ = some (.int .i64 t330) := (blk_cell BK334.out 0).trans rfl
       have hcz20_1 : wr.cell? ⟨gb334, 1, none⟩ = some (.int .i64 t331) := (blk_cell BK334.out 1).trans rfl
       have hcz20_2 : wr.cell? ⟨gb334, 2, none⟩ = some (.int .i64 t332) := (blk_cell BK334.out 2).trans rfl
       have hfz20_0 := blk_frozen BK334.out 0
       have hfz20_1 := blk_frozen BK334.out 1
       have hfz20_2 := blk_frozen BK334.out 2
       have p343 : 0 ≤ (x11_1 : Int) := of_decide_eq_true (by first | (with_reducible assumption) | assumption)
       have q343 : x11_1 < (t335.length : Int) := of_decide_eq_true (by first | (with_reducible assumption) | assumption)
       obtain ⟨ad343, e343, hx343_0⟩ := Kd.at_int (Kd.R_reads' HO_5.out).2.2 x11_1 p343 q343
       obtain rfl : ad341 = ad343 := (by injection e343)
       replace p343 := eq_true p343
       replace q343 := eq_true q343
       go_wp2
       repeat (go_quiet (fail); try go_wp2)
       go_roundg k1
       case measure => have := HK1.out; omega
       case rel => exact ⟨(wrap64 (x8_1 + 1)), (wrap64 (x9_1 + 1)), (ji17), (wrap64 (x11_1 + 1)), (by first | rfl | (simp; done) | (simp [*]; done)), (by first | rfl | (simp; done) | (simp [*]; done)), (by first | rfl | (simp; done) | (simp only [← hji17] <;> (first | rfl | simp)) | (simp [*]; done)), (by first | rfl | (simp; done) | (simp [*]; done)), H', ⟨by have := HK1.out; omega⟩, ⟨by (with_reducible repeat (first | apply Kd.R_alloc | apply Kd.R_drewN | apply Kd.R_drew)); exact HO_5.out⟩, ⟨by (with_reducible repeat (first | refine blk_drewN ?_ _ | refine blk_drew ?_ | refine blk_alloc ?_ _)); exact BK334.out⟩, ⟨by repeat (first | (with_reducible first | exact HB.out | apply below_alloc | apply pw_below_drewN | apply below_drew1 | refine below_set ?_ GE334.out) | exact HB.out)⟩⟩
      ·rw [if_neg c19] at H
       have c19b0 : decide (t330 ≤ (rd t335 x11_1)) = false := decide_eq_false c19
       clear c19
       have H' := Aside0.mk H
       clear H
       have p341 : 0 ≤ (x11_1 : Int) := of_decide_eq_true (by first | (with_reducible assumption) | assumption)
       have q341 : x11_1 < (t335.length : Int) := of_decide_eq_true (by first | (with_reducible assumption) | assumption)
       obtain ⟨ad341, e341, hx341_0⟩ := Kd.at_int (Kd.R_reads' HO_5.out).2.2 x11_1 p341 q341
       cases e341
       replace p341 := eq_true p341
       replace q341 := eq_true q341
       have p342 : 0 ≤ (x11_1 : Int) := of_decide_eq_true (by first | (with_reducible assumption) | assumption)
       have q342 : x11_1 < (t335.length : Int) := of_decide_eq_true (by first | (with_reducible assumption) | assumption)
       obtain ⟨ad342, e342, hx342_0⟩ := Kd.at_int (Kd.R_reads' HO_5.out).2.2 x11_1 p342 q342
       obtain rfl : ad341 = ad342 := (by injection e342)
       replace p342 := eq_true p342
       replace q342 := eq_true q342
       have hcz21_0 : wr.cell? ⟨gb334, 0, none⟩ = some (.int .i64 t330) := (blk_cell BK334.out 0).trans rfl
       have hcz21_1 : wr.cell? ⟨gb334, 1, none⟩ = some (.int .i64 t331) := (blk_cell BK334.out 1).trans rfl
       have hcz21_2 : wr.cell? ⟨gb334, 2, none⟩ = some (.int .i64 t332) := (blk_cell BK334.out 2).trans rfl
       have hfz21_0 := blk_frozen BK334.out 0
       have hfz21_1 := blk_frozen BK334.out 1
       have hfz21_2 := blk_frozen BK334.out 2
       have p343 : 0 ≤ (x11_1 : Int) := of_decide_eq_true (by first | (with_reducible assumption) | assumption)
       have q343 : x11_1 < (t335.length : Int) := of_decide_eq_true (by first | (with_reducible assumption) | assumption)
       obtain ⟨ad343, e343, hx343_0⟩ := Kd.at_int (Kd.R_reads' HO_5.out).2.2 x11_1 p343 q343
       obtain rfl : ad341 = ad343 := (by injection e343)
       replace p343 := eq_true p343
       replace q343 := eq_true q343
       go_wp2
       repeat (go_quiet (fail); try go_wp2)
       go_roundg k1
       case measure => have := HK1.out; omega
       case rel => exact ⟨(wrap64 (x8_1 + 1)), (x9_1), (ji17), (wrap64 (x11_1 + 1)), (by first | rfl | (simp; done) | (simp [*]; done)), (by first | rfl | (simp; done) | (simp [*]; done)), (by first | rfl | (simp; done) | (simp only [← hji17] <;> (first | rfl | simp)) | (simp [*]; done)), (by first | rfl | (simp; done) | (simp [*]; done)), H', ⟨by have := HK1.out; omega⟩, ⟨by (with_reducible repeat (first | apply Kd.R_alloc | apply Kd.R_drewN | apply Kd.R_drew)); exact HO_5.out⟩, ⟨by (with_reducible repeat (first | refine blk_drewN ?_ _ | refine blk_drew ?_ | refine blk_alloc ?_ _)); exact BK334.out⟩, ⟨by repeat (first | (with_reducible first | exact HB.out | apply below_alloc | apply pw_below_drewN | apply below_drew1 | refine below_set ?_ GE334.out) | exact HB.out)⟩⟩
     ·rw [if_neg c18] at H
      have c18b0 : decide (t331 ≤ (rd t335 x11_1)) = false := decide_eq_false c18
      clear c18
      by_cases c22 : (rd t335 x11_1) ≥ t330
      ·rw [if_pos c22] at H
       have c22b0 : decide (t330 ≤ (rd t335 x11_1)) = true := decide_eq_true c22
       clear c22
       have H' := Aside0.mk H
       clear H
       have p341 : 0 ≤ (x11_1 : Int) := of_decide_eq_true (by first | (with_reducible assumption) | assumption)
       have q341 : x11_1 < (t335.length : Int) := of_decide_eq_true (by first | (with_reducible assumption) | assumption)
       obtain ⟨ad341, e341, hx341_0⟩ := Kd.at_int (Kd.R_reads' HO_5.out).2.2 x11_1 p341 q341
       cases e341
       replace p341 := eq_true p341
       replace q341 := eq_true q341
       have p342 : 0 ≤ (x11_1 : Int) := of_decide_eq_true (by first | (with_reducible assumption) | assumption)
       have q342 : x11_1 < (t335.length : Int) := of_decide_eq_true (by first | (with_reducible assumption) | assumption)
       obtain ⟨ad342, e342, hx342_0⟩ := Kd.at_int (Kd.R_reads' HO_5.out).2.2 x11_1 p342 q342
       obtain rfl : ad341 = ad342 := (by injection e342)
       replace p342 := eq_true p342
       replace q342 := eq_true q342
       have hcz23_0 : wr.cell? ⟨gb334, 0, none⟩ = some (.int .i64 t330) := (blk_cell BK334.out 0).trans rfl
       have hcz23_1 : wr.cell? ⟨gb334, 1, none⟩ = some (.int .i64 t331) := (blk_cell BK334.out 1).trans rfl
       have hcz23_2 : wr.cell? ⟨gb334, 2, none⟩ = some (.int .i64 t332) := (blk_cell BK334.out 2).trans rfl
       have hfz23_0 := blk_frozen BK334.out 0
       have hfz23_1 := blk_frozen BK334.out 1
       have hfz23_2 := blk_frozen BK334.out 2
       have p344 : 0 ≤ (x11_1 : Int) := of_decide_eq_true (by first | (with_reducible assumption) | assumption)
       have q344 : x11_1 < (t335.length : Int) := of_decide_eq_true (by first | (with_reducible assumption) | assumption)
       obtain ⟨ad344, e344, hx344_0⟩ := Kd.at_int (Kd.R_reads' HO_5.out).2.2 x11_1 p344 q344
       obtain rfl : ad341 = ad344 := (by injection e344)
       replace p344 := eq_true p344
       replace q344 := eq_true q344
       go_wp2
       repeat (go_quiet (fail); try go_wp2)
       go_roundg k1
       case measure => have := HK1.out; omega
       case rel => exact ⟨(x8_1), (wrap64 (x9_1 + 1)), (ji17), (wrap64 (x11_1 + 1)), (by first | rfl | (simp; done) | (simp [*]; done)), (by first | rfl | (simp; done) | (simp [*]; done)), (by first | rfl | (simp; done) | (simp only [← hji17] <;> (first | rfl | simp)) | (simp [*]; done)), (by first | rfl | (simp; done) | (simp [*]; done)), H', ⟨by have := HK1.out; omega⟩, ⟨by (with_reducible repeat (first | apply Kd.R_alloc | apply Kd.R_drewN | apply Kd.R_drew)); exact HO_5.out⟩, ⟨by (with_reducible repeat (first | refine blk_drewN ?_ _ | refine blk_drew ?_ | refine blk_alloc ?_ _)); exact BK334.out⟩, ⟨by repeat (first | (with_reducible first | exact HB.out | apply below_alloc | apply pw_below_drewN | apply below_drew1 | refine below_set ?_ GE334.out) | exact HB.out)⟩⟩
      ·rw [if_neg c22] at H
       have c22b0 : decide (t330 ≤ (rd t335 x11_1)) = false := decide_eq_false c22
       clear c22
       have H' := Aside0.mk H
       clear H
       have p341 : 0 ≤ (x11_1 : Int) := of_decide_eq_true (by first | (with_reducible assumption) | assumption)
       have q341 : x11_1 < (t335.length : Int) := of_decide_eq_true (by first | (with_reducible assumption) | assumption)
       obtain ⟨ad341, e341, hx341_0⟩ := Kd.at_int (Kd.R_reads' HO_5.out).2.2 x11_1 p341 q341
       cases e341
       replace p341 := eq_true p341
       replace q341 := eq_true q341
       have p342 : 0 ≤ (x11_1 : Int) := of_decide_eq_true (by first | (with_reducible assumption) | assumption)
       have q342 : x11_1 < (t335.length : Int) := of_decide_eq_true (by first | (with_reducible assumption) | assumption)
       obtain ⟨ad342, e342, hx342_0⟩ := Kd.at_int (Kd.R_reads' HO_5.out).2.2 x11_1 p342 q342
       obtain rfl : ad341 = ad342 := (by injection e342)
       replace p342 := eq_true p342
       replace q342 := eq_true q342
       have hcz24_0 : wr.cell? ⟨gb334, 0, none⟩ = some (.int .i64 t330) := (blk_cell BK334.out 0).trans rfl
       have hcz24_1 : wr.cell? ⟨gb334, 1, none⟩ = some (.int .i64 t331) := (blk_cell BK334.out 1).trans rfl
       have hcz24_2 : wr.cell? ⟨gb334, 2, none⟩ = some (.int .i64 t332) := (blk_cell BK334.out 2).trans rfl
       have hfz24_0 := blk_frozen BK334.out 0
       have hfz24_1 := blk_frozen BK334.out 1
       have hfz24_2 := blk_frozen BK334.out 2
       have p344 : 0 ≤ (x11_1 : Int) := of_decide_eq_true (by first | (with_reducible assumption) | assumption)
       have q344 : x11_1 < (t335.length : Int) := of_decide_eq_true (by first | (with_reducible assumption) | assumption)
       obtain ⟨ad344, e344, hx344_0⟩ := Kd.at_int (Kd.R_reads' HO_5.out).2.2 x11_1 p344 q344
       obtain rfl : ad341 = ad344 := (by injection e344)
       replace p344 := eq_true p344
       replace q344 := eq_true q344
       go_wp2
       repeat (go_quiet (fail); try go_wp2)
       go_roundg k1
       case measure => have := HK1.out; omega
       case rel => exact ⟨(x8_1), (x9_1), (ji17), (wrap64 (x11_1 + 1)), (by first | rfl | (simp; done) | (simp [*]; done)), (by first | rfl | (simp; done) | (simp [*]; done)), (by first | rfl | (simp; done) | (simp only [← hji17] <;> (first | rfl | simp)) | (simp [*]; done)), (by first | rfl | (simp; done) | (simp [*]; done)), H', ⟨by have := HK1.out; omega⟩, ⟨by (with_reducible repeat (first | apply Kd.R_alloc | apply Kd.R_drewN | apply Kd.R_drew)); exact HO_5.out⟩, ⟨by (with_reducible repeat (first | refine blk_drewN ?_ _ | refine blk_drew ?_ | refine blk_alloc ?_ _)); exact BK334.out⟩, ⟨by repeat (first | (with_reducible first | exact HB.out | apply below_alloc | apply pw_below_drewN | apply below_drew1 | refine below_set ?_ GE334.out) | exact HB.out)⟩⟩
    ·rw [if_neg c16] at H
     exact absurd H (by simp)
   ·rw [if_neg c15] at H
    have c15b0 : decide (x11_1 < (t335.length : Int)) = false := decide_eq_false c15
    clear c15
    have HC25 := Aside0.mk H
    clear H
    go_upto_region 14 with (fail)
    repeat (go_quiet (fail); go_upto_region 14 with (fail))
    go_cut [65] (fun v65 wc => ∃ (kq : Nat) (x65_24 : Bool), v65 = .bool x65_24 ∧ Aside0 (awardingbodylaw20_BubbleEmpty.j1 kq t335 t339 x8_1 x9_1 x10_1 x65_24 = some r) ∧ Aside0 (kq ≤ k1) ∧ Aside0 (Kd.R (Kd.int .i64) 3 wc w.heap.size (fun _ => True) (.slice Ao13 t335.length co13) t335) ∧ Aside0 (wc.heap[gb334]? = some (.cells #[.int .i64 t330, .int .i64 t331, .int .i64 t332] 23 (0, 0))) ∧ Aside0 (Below w.heap.size w wc))
    case first =>
     have H := HC25.out
     clear HC25
     by_cases c26 : t340 = 0
     ·rw [if_pos c26] at H
      have c26b0 : (t340 == 0) = true := beq_iff_eq.mpr c26
      have c26b1 : (t340 != 0) = false := bne_eq_false_iff_eq.mpr c26
      clear c26
      (first | rw [c26b0] | (simp only [i64_w, i32_w]; rw [c26b0]) | skip)
      by_cases c27 : t339 ≥ (t335.length : Int)
      ·rw [if_pos c27] at H
       have c27b0 : decide ((t335.length : Int) ≤ t339) = true := decide_eq_true c27
       clear c27
       have H' := Aside0.mk H
       clear H
       go_wp2
       repeat (go_quiet (fail); try go_wp2)
       go_meet
       case rel => exact ⟨_, (true), (by first | rfl | (simp; done) | (simp [*]; done)), H', ⟨by have := HK1.out; first | omega | exact Nat.le_refl _⟩, ⟨by (with_reducible repeat (first | apply Kd.R_alloc | apply Kd.R_drewN | apply Kd.R_drew)); exact HO_5.out⟩, ⟨by (with_reducible repeat (first | refine blk_drewN ?_ _ | refine blk_drew ?_ | refine blk_alloc ?_ _)); exact BK334.out⟩, ⟨by repeat (first | (with_reducible first | exact HB.out | apply below_alloc | apply pw_below_drewN | apply below_drew1 | refine below_set ?_ GE334.out) | exact HB.out)⟩⟩
      ·rw [if_neg c27] at H
       have c27b0 : decide ((t335.length : Int) ≤ t339) = false := decide_eq_false c27
       clear c27
       have H' := Aside0.mk H
       clear H
       go_wp2
       repeat (go_quiet (fail); try go_wp2)
       go_meet
       case rel => exact ⟨_, (decide (t339 < (-2))), (by first | rfl | (simp; done) | (simp [*]; done)), H', ⟨by have := HK1.out; first | omega | exact Nat.le_refl _⟩, ⟨by (with_reducible repeat (first | apply Kd.R_alloc | apply Kd.R_drewN | apply Kd.R_drew)); exact HO_5.out⟩, ⟨by (with_reducible repeat (first | refine blk_drewN ?_ _ | refine blk_drew ?_ | refine blk_alloc ?_ _)); exact BK334.out⟩, ⟨by repeat (first | (with_reducible first | exact HB.out | apply below_alloc | apply pw_below_drewN | apply below_drew1 | refine below_set ?_ GE334.out) | exact HB.out)⟩⟩
     ·rw [if_neg c26] at H
      have c26b0 : (t340 == 0) = false := beq_eq_false_iff_ne.mpr c26
      have c26b1 : (t340 != 0) = true := bne_iff_ne.mpr c26
      (first | rw [c26b0] | (simp only [i64_w, i32_w]; rw [c26b0]) | skip)
      have H' := Aside0.mk H
      clear H
      go_wp2
      repeat (go_quiet (fail); try go_wp2)
      go_meet
      case rel => exact ⟨_, (true), (by first | rfl | (simp; done) | (simp [*]; done)), H', ⟨by have := HK1.out; first | omega | exact Nat.le_refl _⟩, ⟨by (with_reducible repeat (first | apply Kd.R_alloc | apply Kd.R_drewN | apply Kd.R_drew)); exact HO_5.out⟩, ⟨by (with_reducible repeat (first | refine blk_drewN ?_ _ | refine blk_drew ?_ | refine blk_alloc ?_ _)); exact BK334.out⟩, ⟨by repeat (first | (with_reducible first | exact HB.out | apply below_alloc | apply pw_below_drewN | apply below_drew1 | refine below_set ?_ GE334.out) | exact HB.out)⟩⟩
    case rest =>
     clear HC25
     try clear c1
     try clear c2
     try clear p2
     try clear p3
     try clear q3
     try clear hx3
     try clear p6
     try clear c7
     try clear c9
     try clear c15
     try clear c15b0
     try clear c16
     try clear c16b0
     try clear c18
     try clear c18b0
     try clear c19
     try clear c19b0
     try clear c22
     try clear c22b0
     try clear c26
     try clear c26b0
     try clear c26b1
     try clear c27
     try clear c27b0
     try clear hcz10_0
     try clear hcz10_1
     try clear hcz10_2
     try clear hcz12_0
     try clear hcz12_1
     try clear hcz12_2
     try clear hcz20_0
     try clear hcz20_1
     try clear hcz20_2
     try clear hcz21_0
     try clear hcz21_1
     try clear hcz21_2
     try clear hcz23_0
     try clear hcz23_1
     try clear hcz23_2
     try clear hcz24_0
     try clear hcz24_1
     try clear hcz24_2
     try clear hfz10_0
     try clear hfz10_1
     try clear hfz10_2
     try clear hfz12_0
     try clear hfz12_1
     try clear hfz12_2
     try clear hfz20_0
     try clear hfz20_1
     try clear hfz20_2
     try clear hfz21_0
     try clear hfz21_1
     try clear hfz21_2
     try clear hfz23_0
     try clear hfz23_1
     try clear hfz23_2
     try clear hfz24_0
     try clear hfz24_1
     try clear hfz24_2
     try clear hx341_0
     try clear hx342_0
     try clear hx343_0
     try clear hx344_0
     try clear p2
     try clear p341
     try clear p342
     try clear p343
     try clear p344
     try clear q341
     try clear q342
     try clear q343
     try clear q344
     obtain ⟨kq, x65_24, rfl, HA, HJ24, HO_5, BK334, HB⟩ := hcut
     cases kq with
     | zero => exact absurd HA.out (by simp [awardingbodylaw20_BubbleEmpty.j1])
     | succ kj24 =>
      have H := HA.out
      clear HA
      simp only [awardingbodylaw20_BubbleEmpty.j1] at H
      by_cases c28 : x65_24 = true
      ·subst c28
       have H1 : (none) = some r := by rw [if_pos rfl] at H; exact H
       clear H
       have H := H1
       clear H1
       exact absurd H (by simp)
      ·replace c28 := Bool.eq_false_iff.mpr c28
       subst c28
       have H1 : (if x8_1 = 0 then (if t339 = (-1) then (if x9_1 = 1 then (if t339 < 0 then (none) else (if x9_1 < 2 then (if t339 = (-2) then (none) else (if x9_1 > 0 then (none) else (if 0 ≤ t339 then (if t339 < (t335.length : Int) then (if (rd t335 t339) = x10_1 then ((awardingbodylaw20_awake.f kj24).bind fun t346 => (some t346)) else (none)) else (none)) else (none)))) else (if x9_1 > 0 then (none) else (if 0 ≤ t339 then (if t339 < (t335.length : Int) then (if (rd t335 t339) = x10_1 then ((awardingbodylaw20_awake.f kj24).bind fun t348 => (some t348)) else (none)) else (none)) else (none))))) else (if x9_1 < 2 then (if t339 = (-2) then (none) else (if x9_1 > 0 then (none) else (if t339 < 0 then ((awardingbodylaw20_awake.f kj24).bind fun t349 => (some t349)) else (if 0 ≤ t339 then (if t339 < (t335.length : Int) then (if (rd t335 t339) = x10_1 then ((awardingbodylaw20_awake.f kj24).bind fun t351 => (some t351)) else (none)) else (none)) else (none))))) else (if x9_1 > 0 then (none) else (if t339 < 0 then ((awardingbodylaw20_awake.f kj24).bind fun t352 => (some t352)) else (if 0 ≤ t339 then (if t339 < (t335.length : Int) then (if (rd t335 t339) = x10_1 then ((awardingbodylaw20_awake.f kj24).bind fun t354 => (some t354)) else (none)) else (none)) else (none)))))) else (none)) else (if x9_1 = 1 then (if t339 < 0 then (none) else (if x9_1 < 2 then (if t339 = (-2) then (none) else (if x9_1 > 0 then (if t339 = (-1) then (none) else (if 0 ≤ t339 then (if t339 < (t335.length : Int) then (if (rd t335 t339) = x10_1 then ((awardingbodylaw20_awake.f kj24).bind fun t356 => (some t356)) else (none)) else (none)) else (none))) else (if 0 ≤ t339 then (if t339 < (t335.length : Int) then (if (rd t335 t339) = x10_1 then ((awardingbodylaw20_awake.f kj24).bind fun t358 => (some t358)) else (none)) else (none)) else (none)))) else (if x9_1 > 0 then (if t339 = (-1) then (none) else (if 0 ≤ t339 then (if t339 < (t335.length : Int) then (if (rd t335 t339) = x10_1 then ((awardingbodylaw20_awake.f kj24).bind fun t360 => (some t360)) else (none)) else (none)) else (none))) else (if 0 ≤ t339 then (if t339 < (t335.length : Int) then (if (rd t335 t339) = x10_1 then ((awardingbodylaw20_awake.f kj24).bind fun t362 => (some t362)) else (none)) else (none)) else (none))))) else (if x9_1 < 2 then (if t339 = (-2) then (none) else (if x9_1 > 0 then (if t339 = (-1) then (none) else (if t339 < 0 then ((awardingbodylaw20_awake.f kj24).bind fun t363 => (some t363)) else (if 0 ≤ t339 then (if t339 < (t335.length : Int) then (if (rd t335 t339) = x10_1 then ((awardingbodylaw20_awake.f kj24).bind fun t365 => (some t365)) else (none)) else (none)) else (none)))) else (if t339 < 0 then ((awardingbodylaw20_awake.f kj24).bind fun t366 => (some t366)) else (if 0 ≤ t339 then (if t339 < (t335.length : Int) then (if (rd t335 t339) = x10_1 then ((awardingbodylaw20_awake.f kj24).bind fun t368 => (some t368)) else (none)) else (none)) else (none))))) else (if x9_1 > 0 then (if t339 = (-1) then (none) else (if t339 < 0 then ((awardingbodylaw20_awake.f kj24).bind fun t369 => (some t369)) else (if 0 ≤ t339 then (if t339 < (t335.length : Int) then (if (rd t335 t339) = x10_1 then ((awardingbodylaw20_awake.f kj24).bind fun t371 => (some t371)) else (none)) else (none)) else (none)))) else (if t339 < 0 then ((awardingbodylaw20_awake.f kj24).bind fun t372 => (some t372)) else (if 0 ≤ t339 then (if t339 < (t335.length : Int) then (if (rd t335 t339) = x10_1 then ((awardingbodylaw20_awake.f kj24).bind fun t374 => (some t374)) else (none)) else (none)) else (none))))))) = some r := by rw [if_neg (show ¬ (false = true) by decide)] at H; exact H
       clear H
       have H := H1
       clear H1
       by_cases c29 : x8_1 = 0
       ·rw [if_pos c29] at H
        have c29b0 : (x8_1 == 0) = true := beq_iff_eq.mpr c29
        have c29b1 : (x8_1 != 0) = false := bne_eq_false_iff_eq.mpr c29
        clear c29
        by_cases c30 : t339 = (-1)
        ·rw [if_pos c30] at H
         have c30b0 : (t339 == (-1)) = true := beq_iff_eq.mpr c30
         have c30b1 : (t339 != (-1)) = false := bne_eq_false_iff_eq.mpr c30
         clear c30
         by_cases c31 : x9_1 = 1
         ·rw [if_pos c31] at H
          have c31b0 : (x9_1 == 1) = true := beq_iff_eq.mpr c31
          have c31b1 : (x9_1 != 1) = false := bne_eq_false_iff_eq.mpr c31
          clear c31
          by_cases c32 : t339 < 0
          ·rw [if_pos c32] at H
           exact absurd H (by simp)
          ·rw [if_neg c32] at H
           have c32b0 : decide (t339 < 0) = false := decide_eq_false c32
           clear c32
           by_cases c33 : x9_1 < 2
           ·rw [if_pos c33] at H
            have c33b0 : decide (x9_1 < 2) = true := decide_eq_true c33
            clear c33
            by_cases c34 : t339 = (-2)
            ·rw [if_pos c34] at H
             exact absurd H (by simp)
            ·rw [if_neg c34] at H
             have c34b0 : (t339 == (-2)) = false := beq_eq_false_iff_ne.mpr c34
             have c34b1 : (t339 != (-2)) = true := bne_iff_ne.mpr c34
             by_cases c35 : x9_1 > 0
             ·rw [if_pos c35] at H
              exact absurd H (by simp)
             ·rw [if_neg c35] at H
              have c35b0 : decide (0 < x9_1) = false := decide_eq_false c35
              clear c35
              by_cases c36 : 0 ≤ t339
              ·rw [if_pos c36] at H
               have c36b0 : decide (0 ≤ t339) = true := decide_eq_true c36
               clear c36
               by_cases c37 : t339 < (t335.length : Int)
               ·rw [if_pos c37] at H
                have c37b0 : decide (t339 < (t335.length : Int)) = true := decide_eq_true c37
                clear c37
                by_cases c38 : (rd t335 t339) = x10_1
                ·rw [if_pos c38] at H
                 have c38b0 : ((rd t335 t339) == x10_1) = true := beq_iff_eq.mpr c38
                 have c38b1 : ((rd t335 t339) != x10_1) = false := bne_eq_false_iff_eq.mpr c38
                 clear c38
                 replace H := Option.bind_eq_some_iff.mp H
                 obtain ⟨t346, A390, H⟩ := H
                 replace H : (some t346) = some r := H
                 have A39 := Aside0.mk A390
                 clear A390
                 obtain rfl := Option.some.inj H
                 have p345 : 0 ≤ (t339 : Int) := of_decide_eq_true (by first | (with_reducible assumption) | assumption)
                 have q345 : t339 < (t335.length : Int) := of_decide_eq_true (by first | (with_reducible assumption) | assumption)
                 obtain ⟨ad345, e345, hx345_0⟩ := Kd.at_int (Kd.R_reads' HO_5.out).2.2 t339 p345 q345
                 cases e345
                 replace p345 := eq_true p345
                 replace q345 := eq_true q345
                 go_wp2_with (first | (go_at_call 14; (with_reducible refine (awardingbodylaw20_awake.calls kj24  t346 _ A39.out).mono ?_); rintro e w40 ⟨rfl, hb⟩; have n0_ := Aside0.mk (Kd.R_below (by (with_reducible repeat (first | apply Kd.R_alloc | apply Kd.R_drewN | apply Kd.R_drew)); exact HO_5.out) hb); have n1_ := Aside0.mk (blk_below (g := gb334) (o := .cells #[.int .i64 t330, .int .i64 t331, .int .i64 t332] 23 (0, 0)) (by (with_reducible repeat (first | refine blk_drewN ?_ _ | refine blk_drew ?_ | refine blk_alloc ?_ _)); exact BK334.out) hb); have n2_ := Aside0.mk (below_step (by repeat (first | (with_reducible first | exact HB.out | apply below_alloc | apply pw_below_drewN | apply below_drew1 | refine below_set ?_ GE334.out) | exact HB.out)) hb); clear HO_5; clear BK334; clear HB; have HO_5 := n0_; have BK334 := n1_; have HB := n2_; clear n0_ n1_ n2_; (try clear hb); (try clear hb2); (try clear hk); (try clear hi)))
                 repeat (go_quiet (first | (go_at_call 14; (with_reducible refine (awardingbodylaw20_awake.calls kj24  t346 _ A39.out).mono ?_); rintro e w40 ⟨rfl, hb⟩; have n0_ := Aside0.mk (Kd.R_below (by (with_reducible repeat (first | apply Kd.R_alloc | apply Kd.R_drewN | apply Kd.R_drew)); exact HO_5.out) hb); have n1_ := Aside0.mk (blk_below (g := gb334) (o := .cells #[.int .i64 t330, .int .i64 t331, .int .i64 t332] 23 (0, 0)) (by (with_reducible repeat (first | refine blk_drewN ?_ _ | refine blk_drew ?_ | refine blk_alloc ?_ _)); exact BK334.out) hb); have n2_ := Aside0.mk (below_step (by repeat (first | (with_reducible first | exact HB.out | apply below_alloc | apply pw_below_drewN | apply below_drew1 | refine below_set ?_ GE334.out) | exact HB.out)) hb); clear HO_5; clear BK334; clear HB; have HO_5 := n0_; have BK334 := n1_; have HB := n2_; clear n0_ n1_ n2_; (try clear hb); (try clear hb2); (try clear hk); (try clear hi))); try go_wp2_with (first | (go_at_call 14; (with_reducible refine (awardingbodylaw20_awake.calls kj24  t346 _ A39.out).mono ?_); rintro e w40 ⟨rfl, hb⟩; have n0_ := Aside0.mk (Kd.R_below (by (with_reducible repeat (first | apply Kd.R_alloc | apply Kd.R_drewN | apply Kd.R_drew)); exact HO_5.out) hb); have n1_ := Aside0.mk (blk_below (g := gb334) (o := .cells #[.int .i64 t330, .int .i64 t331, .int .i64 t332] 23 (0, 0)) (by (with_reducible repeat (first | refine blk_drewN ?_ _ | refine blk_drew ?_ | refine blk_alloc ?_ _)); exact BK334.out) hb); have n2_ := Aside0.mk (below_step (by repeat (first | (with_reducible first | exact HB.out | apply below_alloc | apply pw_below_drewN | apply below_drew1 | refine below_set ?_ GE334.out) | exact HB.out)) hb); clear HO_5; clear BK334; clear HB; have HO_5 := n0_; have BK334 := n1_; have HB := n2_; clear n0_ n1_ n2_; (try clear hb); (try clear hb2); (try clear hk); (try clear hi))))
                 go_ret
                 exact ⟨by first | rfl | (simp [errW_none, errW_some] <;> rfl) | (simp [*, errW_none, errW_some] <;> rfl), by repeat (first | (with_reducible first | exact HB.out | apply below_alloc | apply pw_below_drewN | apply below_drew1 | refine below_set ?_ GE334.out) | exact HB.out)⟩
                ·rw [if_neg c38] at H
                 exact absurd H (by simp)
               ·rw [if_neg c37] at H
                exact absurd H (by simp)
              ·rw [if_neg c36] at H
               exact absurd H (by simp)
           ·rw [if_neg c33] at H
            have c33b0 : decide (x9_1 < 2) = false := decide_eq_false c33
            clear c33
            by_cases c41 : x9_1 > 0
            ·rw [if_pos c41] at H
             exact absurd H (by simp)
            ·rw [if_neg c41] at H
             have c41b0 : decide (0 < x9_1) = false := decide_eq_false c41
             clear c41
             by_cases c42 : 0 ≤ t339
             ·rw [if_pos c42] at H
              have c42b0 : decide (0 ≤ t339) = true := decide_eq_true c42
              clear c42
              by_cases c43 : t339 < (t335.length : Int)
              ·rw [if_pos c43] at H
               have c43b0 : decide (t339 < (t335.length : Int)) = true := decide_eq_true c43
               clear c43
               by_cases c44 : (rd t335 t339) = x10_1
               ·rw [if_pos c44] at H
                have c44b0 : ((rd t335 t339) == x10_1) = true := beq_iff_eq.mpr c44
                have c44b1 : ((rd t335 t339) != x10_1) = false := bne_eq_false_iff_eq.mpr c44
                clear c44
                replace H := Option.bind_eq_some_iff.mp H
                obtain ⟨t348, A450, H⟩ := H
                replace H : (some t348) = some r := H
                have A45 := Aside0.mk A450
                clear A450
                obtain rfl := Option.some.inj H
                have p347 : 0 ≤ (t339 : Int) := of_decide_eq_true (by first | (with_reducible assumption) | assumption)
                have q347 : t339 < (t335.length : Int) := of_decide_eq_true (by first | (with_reducible assumption) | assumption)
                obtain ⟨ad347, e347, hx347_0⟩ := Kd.at_int (Kd.R_reads' HO_5.out).2.2 t339 p347 q347
                cases e347
                replace p347 := eq_true p347
                replace q347 := eq_true q347
                go_wp2_with (first | (go_at_call 14; (with_reducible refine (awardingbodylaw20_awake.calls kj24  t348 _ A45.out).mono ?_); rintro e w46 ⟨rfl, hb⟩; have n0_ := Aside0.mk (Kd.R_below (by (with_reducible repeat (first | apply Kd.R_alloc | apply Kd.R_drewN | apply Kd.R_drew)); exact HO_5.out) hb); have n1_ := Aside0.mk (blk_below (g := gb334) (o := .cells #[.int .i64 t330, .int .i64 t331, .int .i64 t332] 23 (0, 0)) (by (with_reducible repeat (first | refine blk_drewN ?_ _ | refine blk_drew ?_ | refine blk_alloc ?_ _)); exact BK334.out) hb); have n2_ := Aside0.mk (below_step (by repeat (first | (with_reducible first | exact HB.out | apply below_alloc | apply pw_below_drewN | apply below_drew1 | refine below_set ?_ GE334.out) | exact HB.out)) hb); clear HO_5; clear BK334; clear HB; have HO_5 := n0_; have BK334 := n1_; have HB := n2_; clear n0_ n1_ n2_; (try clear hb); (try clear hb2); (try clear hk); (try clear hi)))
                repeat (go_quiet (first | (go_at_call 14; (with_reducible refine (awardingbodylaw20_awake.calls kj24  t348 _ A45.out).mono ?_); rintro e w46 ⟨rfl, hb⟩; have n0_ := Aside0.mk (Kd.R_below (by (with_reducible repeat (first | apply Kd.R_alloc | apply Kd.R_drewN | apply Kd.R_drew)); exact HO_5.out) hb); have n1_ := Aside0.mk (blk_below (g := gb334) (o := .cells #[.int .i64 t330, .int .i64 t331, .int .i64 t332] 23 (0, 0)) (by (with_reducible repeat (first | refine blk_drewN ?_ _ | refine blk_drew ?_ | refine blk_alloc ?_ _)); exact BK334.out) hb); have n2_ := Aside0.mk (below_step (by repeat (first | (with_reducible first | exact HB.out | apply below_alloc | apply pw_below_drewN | apply below_drew1 | refine below_set ?_ GE334.out) | exact HB.out)) hb); clear HO_5; clear BK334; clear HB; have HO_5 := n0_; have BK334 := n1_; have HB := n2_; clear n0_ n1_ n2_; (try clear hb); (try clear hb2); (try clear hk); (try clear hi))); try go_wp2_with (first | (go_at_call 14; (with_reducible refine (awardingbodylaw20_awake.calls kj24  t348 _ A45.out).mono ?_); rintro e w46 ⟨rfl, hb⟩; have n0_ := Aside0.mk (Kd.R_below (by (with_reducible repeat (first | apply Kd.R_alloc | apply Kd.R_drewN | apply Kd.R_drew)); exact HO_5.out) hb); have n1_ := Aside0.mk (blk_below (g := gb334) (o := .cells #[.int .i64 t330, .int .i64 t331, .int .i64 t332] 23 (0, 0)) (by (with_reducible repeat (first | refine blk_drewN ?_ _ | refine blk_drew ?_ | refine blk_alloc ?_ _)); exact BK334.out) hb); have n2_ := Aside0.mk (below_step (by repeat (first | (with_reducible first | exact HB.out | apply below_alloc | apply pw_below_drewN | apply below_drew1 | refine below_set ?_ GE334.out) | exact HB.out)) hb); clear HO_5; clear BK334; clear HB; have HO_5 := n0_; have BK334 := n1_; have HB := n2_; clear n0_ n1_ n2_; (try clear hb); (try clear hb2); (try clear hk); (try clear hi))))
                go_ret
                exact ⟨by first | rfl | (simp [errW_none, errW_some] <;> rfl) | (simp [*, errW_none, errW_some] <;> rfl), by repeat (first | (with_reducible first | exact HB.out | apply below_alloc | apply pw_below_drewN | apply below_drew1 | refine below_set ?_ GE334.out) | exact HB.out)⟩
               ·rw [if_neg c44] at H
                exact absurd H (by simp)
              ·rw [if_neg c43] at H
               exact absurd H (by simp)
             ·rw [if_neg c42] at H
              exact absurd H (by simp)
         ·rw [if_neg c31] at H
          have c31b0 : (x9_1 == 1) = false := beq_eq_false_iff_ne.mpr c31
          have c31b1 : (x9_1 != 1) = true := bne_iff_ne.mpr c31
          by_cases c47 : x9_1 < 2
          ·rw [if_pos c47] at H
           have c47b0 : decide (x9_1 < 2) = true := decide_eq_true c47
           clear c47
           by_cases c48 : t339 = (-2)
           ·rw [if_pos c48] at H
            exact absurd H (by simp)
           ·rw [if_neg c48] at H
            have c48b0 : (t339 == (-2)) = false := beq_eq_false_iff_ne.mpr c48
            have c48b1 : (t339 != (-2)) = true := bne_iff_ne.mpr c48
            by_cases c49 : x9_1 > 0
            ·rw [if_pos c49] at H
             exact absurd H (by simp)
            ·rw [if_neg c49] at H
             have c49b0 : decide (0 < x9_1) = false := decide_eq_false c49
             clear c49
             by_cases c50 : t339 < 0
             ·rw [if_pos c50] at H
              have c50b0 : decide (t339 < 0) = true := decide_eq_true c50
              clear c50
              replace H := Option.bind_eq_some_iff.mp H
              obtain ⟨t349, A510, H⟩ := H
              replace H : (some t349) = some r := H
              have A51 := Aside0.mk A510
              clear A510
              obtain rfl := Option.some.inj H
              go_wp2_with (first | (go_at_call 14; (with_reducible refine (awardingbodylaw20_awake.calls kj24  t349 _ A51.out).mono ?_); rintro e w52 ⟨rfl, hb⟩; have n0_ := Aside0.mk (Kd.R_below (by (with_reducible repeat (first | apply Kd.R_alloc | apply Kd.R_drewN | apply Kd.R_drew)); exact HO_5.out) hb); have n1_ := Aside0.mk (blk_below (g := gb334) (o := .cells #[.int .i64 t330, .int .i64 t331, .int .i64 t332] 23 (0, 0)) (by (with_reducible repeat (first | refine blk_drewN ?_ _ | refine blk_drew ?_ | refine blk_alloc ?_ _)); exact BK334.out) hb); have n2_ := Aside0.mk (below_step (by repeat (first | (with_reducible first | exact HB.out | apply below_alloc | apply pw_below_drewN | apply below_drew1 | refine below_set ?_ GE334.out) | exact HB.out)) hb); clear HO_5; clear BK334; clear HB; have HO_5 := n0_; have BK334 := n1_; have HB := n2_; clear n0_ n1_ n2_; (try clear hb); (try clear hb2); (try clear hk); (try clear hi)))
              repeat (go_quiet (first | (go_at_call 14; (with_reducible refine (awardingbodylaw20_awake.calls kj24  t349 _ A51.out).mono ?_); rintro e w52 ⟨rfl, hb⟩; have n0_ := Aside0.mk (Kd.R_below (by (with_reducible repeat (first | apply Kd.R_alloc | apply Kd.R_drewN | apply Kd.R_drew)); exact HO_5.out) hb); have n1_ := Aside0.mk (blk_below (g := gb334) (o := .cells #[.int .i64 t330, .int .i64 t331, .int .i64 t332] 23 (0, 0)) (by (with_reducible repeat (first | refine blk_drewN ?_ _ | refine blk_drew ?_ | refine blk_alloc ?_ _)); exact BK334.out) hb); have n2_ := Aside0.mk (below_step (by repeat (first | (with_reducible first | exact HB.out | apply below_alloc | apply pw_below_drewN | apply below_drew1 | refine below_set ?_ GE334.out) | exact HB.out)) hb); clear HO_5; clear BK334; clear HB; have HO_5 := n0_; have BK334 := n1_; have HB := n2_; clear n0_ n1_ n2_; (try clear hb); (try clear hb2); (try clear hk); (try clear hi))); try go_wp2_with (first | (go_at_call 14; (with_reducible refine (awardingbodylaw20_awake.calls kj24  t349 _ A51.out).mono ?_); rintro e w52 ⟨rfl, hb⟩; have n0_ := Aside0.mk (Kd.R_below (by (with_reducible repeat (first | apply Kd.R_alloc | apply Kd.R_drewN | apply Kd.R_drew)); exact HO_5.out) hb); have n1_ := Aside0.mk (blk_below (g := gb334) (o := .cells #[.int .i64 t330, .int .i64 t331, .int .i64 t332] 23 (0, 0)) (by (with_reducible repeat (first | refine blk_drewN ?_ _ | refine blk_drew ?_ | refine blk_alloc ?_ _)); exact BK334.out) hb); have n2_ := Aside0.mk (below_step (by repeat (first | (with_reducible first | exact HB.out | apply below_alloc | apply pw_below_drewN | apply below_drew1 | refine below_set ?_ GE334.out) | exact HB.out)) hb); clear HO_5; clear BK334; clear HB; have HO_5 := n0_; have BK334 := n1_; have HB := n2_; clear n0_ n1_ n2_; (try clear hb); (try clear hb2); (try clear hk); (try clear hi))))
              go_ret
              exact ⟨by first | rfl | (simp [errW_none, errW_some] <;> rfl) | (simp [*, errW_none, errW_some] <;> rfl), by repeat (first | (with_reducible first | exact HB.out | apply below_alloc | apply pw_below_drewN | apply below_drew1 | refine below_set ?_ GE334.out) | exact HB.out)⟩
             ·rw [if_neg c50] at H
              have c50b0 : decide (t339 < 0) = false := decide_eq_false c50
              clear c50
              by_cases c53 : 0 ≤ t339
              ·rw [if_pos c53] at H
               have c53b0 : decide (0 ≤ t339) = true := decide_eq_true c53
               clear c53
               by_cases c54 : t339 < (t335.length : Int)
               ·rw [if_pos c54] at H
                have c54b0 : decide (t339 < (t335.length : Int)) = true := decide_eq_true c54
                clear c54
                by_cases c55 : (rd t335 t339) = x10_1
                ·rw [if_pos c55] at H
                 have c55b0 : ((rd t335 t339) == x10_1) = true := beq_iff_eq.mpr c55
                 have c55b1 : ((rd t335 t339) != x10_1) = false := bne_eq_false_iff_eq.mpr c55
                 clear c55
                 replace H := Option.bind_eq_some_iff.mp H
                 obtain ⟨t351, A560, H⟩ := H
                 replace H : (some t351) = some r := H
                 have A56 := Aside0.mk A560
                 clear A560
                 obtain rfl := Option.some.inj H
                 have p350 : 0 ≤ (t339 : Int) := of_decide_eq_true (by first | (with_reducible assumption) | assumption)
                 have q350 : t339 < (t335.length : Int) := of_decide_eq_true (by first | (with_reducible assumption) | assumption)
                 obtain ⟨ad350, e350, hx350_0⟩ := Kd.at_int (Kd.R_reads' HO_5.out).2.2 t339 p350 q350
                 cases e350
                 replace p350 := eq_true p350
                 replace q350 := eq_true q350
                 go_wp2_with (first | (go_at_call 14; (with_reducible refine (awardingbodylaw20_awake.calls kj24  t351 _ A56.out).mono ?_); rintro e w57 ⟨rfl, hb⟩; have n0_ := Aside0.mk (Kd.R_below (by (with_reducible repeat (first | apply Kd.R_alloc | apply Kd.R_drewN | apply Kd.R_drew)); exact HO_5.out) hb); have n1_ := Aside0.mk (blk_below (g := gb334) (o := .cells #[.int .i64 t330, .int .i64 t331, .int .i64 t332] 23 (0, 0)) (by (with_reducible repeat (first | refine blk_drewN ?_ _ | refine blk_drew ?_ | refine blk_alloc ?_ _)); exact BK334.out) hb); have n2_ := Aside0.mk (below_step (by repeat (first | (with_reducible first | exact HB.out | apply below_alloc | apply pw_below_drewN | apply below_drew1 | refine below_set ?_ GE334.out) | exact HB.out)) hb); clear HO_5; clear BK334; clear HB; have HO_5 := n0_; have BK334 := n1_; have HB := n2_; clear n0_ n1_ n2_; (try clear hb); (try clear hb2); (try clear hk); (try clear hi)))
                 repeat (go_quiet (first | (go_at_call 14; (with_reducible refine (awardingbodylaw20_awake.calls kj24  t351 _ A56.out).mono ?_); rintro e w57 ⟨rfl, hb⟩; have n0_ := Aside0.mk (Kd.R_below (by (with_reducible repeat (first | apply Kd.R_alloc | apply Kd.R_drewN | apply Kd.R_drew)); exact HO_5.out) hb); have n1_ := Aside0.mk (blk_below (g := gb334) (o := .cells #[.int .i64 t330, .int .i64 t331, .int .i64 t332] 23 (0, 0)) (by (with_reducible repeat (first | refine blk_drewN ?_ _ | refine blk_drew ?_ | refine blk_alloc ?_ _)); exact BK334.out) hb); have n2_ := Aside0.mk (below_step (by repeat (first | (with_reducible first | exact HB.out | apply below_alloc | apply pw_below_drewN | apply below_drew1 | refine below_set ?_ GE334.out) | exact HB.out)) hb); clear HO_5; clear BK334; clear HB; have HO_5 := n0_; have BK334 := n1_; have HB := n2_; clear n0_ n1_ n2_; (try clear hb); (try clear hb2); (try clear hk); (try clear hi))); try go_wp2_with (first | (go_at_call 14; (with_reducible refine (awardingbodylaw20_awake.calls kj24  t351 _ A56.out).mono ?_); rintro e w57 ⟨rfl, hb⟩; have n0_ := Aside0.mk (Kd.R_below (by (with_reducible repeat (first | apply Kd.R_alloc | apply Kd.R_drewN | apply Kd.R_drew)); exact HO_5.out) hb); have n1_ := Aside0.mk (blk_below (g := gb334) (o := .cells #[.int .i64 t330, .int .i64 t331, .int .i64 t332] 23 (0, 0)) (by (with_reducible repeat (first | refine blk_drewN ?_ _ | refine blk_drew ?_ | refine blk_alloc ?_ _)); exact BK334.out) hb); have n2_ := Aside0.mk (below_step (by repeat (first | (with_reducible first | exact HB.out | apply below_alloc | apply pw_below_drewN | apply below_drew1 | refine below_set ?_ GE334.out) | exact HB.out)) hb); clear HO_5; clear BK334; clear HB; have HO_5 := n0_; have BK334 := n1_; have HB := n2_; clear n0_ n1_ n2_; (try clear hb); (try clear hb2); (try clear hk); (try clear hi))))
                 go_ret
                 exact ⟨by first | rfl | (simp [errW_none, errW_some] <;> rfl) | (simp [*, errW_none, errW_some] <;> rfl), by repeat (first | (with_reducible first | exact HB.out | apply below_alloc | apply pw_below_drewN | apply below_drew1 | refine below_set ?_ GE334.out) | exact HB.out)⟩
                ·rw [if_neg c55] at H
                 exact absurd H (by simp)
               ·rw [if_neg c54] at H
                exact absurd H (by simp)
              ·rw [if_neg c53] at H
               exact absurd H (by simp)
          ·rw [if_neg c47] at H
           have c47b0 : decide (x9_1 < 2) = false := decide_eq_false c47
           clear c47
           by_cases c58 : x9_1 > 0
           ·rw [if_pos c58] at H
            exact absurd H (by simp)
           ·rw [if_neg c58] at H
            have c58b0 : decide (0 < x9_1) = false := decide_eq_false c58
            clear c58
            by_cases c59 : t339 < 0
            ·rw [if_pos c59] at H
             have c59b0 : decide (t339 < 0) = true := decide_eq_true c59
             clear c59
             replace H := Option.bind_eq_some_iff.mp H
             obtain ⟨t352, A600, H⟩ := H
             replace H : (some t352) = some r := H
             have A60 := Aside0.mk A600
             clear A600
             obtain rfl := Option.some.inj H
             go_wp2_with (first | (go_at_call 14; (with_reducible refine (awardingbodylaw20_awake.calls kj24  t352 _ A60.out).mono ?_); rintro e w61 ⟨rfl, hb⟩; have n0_ := Aside0.mk (Kd.R_below (by (with_reducible repeat (first | apply Kd.R_alloc | apply Kd.R_drewN | apply Kd.R_drew)); exact HO_5.out) hb); have n1_ := Aside0.mk (blk_below (g := gb334) (o := .cells #[.int .i64 t330, .int .i64 t331, .int .i64 t332] 23 (0, 0)) (by (with_reducible repeat (first | refine blk_drewN ?_ _ | refine blk_drew ?_ | refine blk_alloc ?_ _)); exact BK334.out) hb); have n2_ := Aside0.mk (below_step (by repeat (first | (with_reducible first | exact HB.out | apply below_alloc | apply pw_below_drewN | apply below_drew1 | refine below_set ?_ GE334.out) | exact HB.out)) hb); clear HO_5; clear BK334; clear HB; have HO_5 := n0_; have BK334 := n1_; have HB := n2_; clear n0_ n1_ n2_; (try clear hb); (try clear hb2); (try clear hk); (try clear hi)))
             repeat (go_quiet (first | (go_at_call 14; (with_reducible refine (awardingbodylaw20_awake.calls kj24  t352 _ A60.out).mono ?_); rintro e w61 ⟨rfl, hb⟩; have n0_ := Aside0.mk (Kd.R_below (by (with_reducible repeat (first | apply Kd.R_alloc | apply Kd.R_drewN | apply Kd.R_drew)); exact HO_5.out) hb); have n1_ := Aside0.mk (blk_below (g := gb334) (o := .cells #[.int .i64 t330, .int .i64 t331, .int .i64 t332] 23 (0, 0)) (by (with_reducible repeat (first | refine blk_drewN ?_ _ | refine blk_drew ?_ | refine blk_alloc ?_ _)); exact BK334.out) hb); have n2_ := Aside0.mk (below_step (by repeat (first | (with_reducible first | exact HB.out | apply below_alloc | apply pw_below_drewN | apply below_drew1 | refine below_set ?_ GE334.out) | exact HB.out)) hb); clear HO_5; clear BK334; clear HB; have HO_5 := n0_; have BK334 := n1_; have HB := n2_; clear n0_ n1_ n2_; (try clear hb); (try clear hb2); (try clear hk); (try clear hi))); try go_wp2_with (first | (go_at_call 14; (with_reducible refine (awardingbodylaw20_awake.calls kj24  t352 _ A60.out).mono ?_); rintro e w61 ⟨rfl, hb⟩; have n0_ := Aside0.mk (Kd.R_below (by (with_reducible repeat (first | apply Kd.R_alloc | apply Kd.R_drewN | apply Kd.R_drew)); exact HO_5.out) hb); have n1_ := Aside0.mk (blk_below (g := gb334) (o := .cells #[.int .i64 t330, .int .i64 t331, .int .i64 t332] 23 (0, 0)) (by (with_reducible repeat (first | refine blk_drewN ?_ _ | refine blk_drew ?_ | refine blk_alloc ?_ _)); exact BK334.out) hb); have n2_ := Aside0.mk (below_step (by repeat (first | (with_reducible first | exact HB.out | apply below_alloc | apply pw_below_drewN | apply below_drew1 | refine below_set ?_ GE334.out) | exact HB.out)) hb); clear HO_5; clear BK334; clear HB; have HO_5 := n0_; have BK334 := n1_; have HB := n2_; clear n0_ n1_ n2_; (try clear hb); (try clear hb2); (try clear hk); (try clear hi))))
             go_ret
             exact ⟨by first | rfl | (simp [errW_none, errW_some] <;> rfl) | (simp [*, errW_none, errW_some] <;> rfl), by repeat (first | (with_reducible first | exact HB.out | apply below_alloc | apply pw_below_drewN | apply below_drew1 | refine below_set ?_ GE334.out) | exact HB.out)⟩
            ·rw [if_neg c59] at H
             have c59b0 : decide (t339 < 0) = false := decide_eq_false c59
             clear c59
             by_cases c62 : 0 ≤ t339
             ·rw [if_pos c62] at H
              have c62b0 : decide (0 ≤ t339) = true := decide_eq_true c62
              clear c62
              by_cases c63 : t339 < (t335.length : Int)
              ·rw [if_pos c63] at H
               have c63b0 : decide (t339 < (t335.length : Int)) = true := decide_eq_true c63
               clear c63
               by_cases c64 : (rd t335 t339) = x10_1
               ·rw [if_pos c64] at H
                have c64b0 : ((rd t335 t339) == x10_1) = true := beq_iff_eq.mpr c64
                have c64b1 : ((rd t335 t339) != x10_1) = false := bne_eq_false_iff_eq.mpr c64
                clear c64
                replace H := Option.bind_eq_some_iff.mp H
                obtain ⟨t354, A650, H⟩ := H
                replace H : (some t354) = some r := H
                have A65 := Aside0.mk A650
                clear A650
                obtain rfl := Option.some.inj H
                have p353 : 0 ≤ (t339 : Int) := of_decide_eq_true (by first | (with_reducible assumption) | assumption)
                have q353 : t339 < (t335.length : Int) := of_decide_eq_true (by first | (with_reducible assumption) | assumption)
                obtain ⟨ad353, e353, hx353_0⟩ := Kd.at_int (Kd.R_reads' HO_5.out).2.2 t339 p353 q353
                cases e353
                replace p353 := eq_true p353
                replace q353 := eq_true q353
                go_wp2_with (first | (go_at_call 14; (with_reducible refine (awardingbodylaw20_awake.calls kj24  t354 _ A65.out).mono ?_); rintro e w66 ⟨rfl, hb⟩; have n0_ := Aside0.mk (Kd.R_below (by (with_reducible repeat (first | apply Kd.R_alloc | apply Kd.R_drewN | apply Kd.R_drew)); exact HO_5.out) hb); have n1_ := Aside0.mk (blk_below (g := gb334) (o := .cells #[.int .i64 t330, .int .i64 t331, .int .i64 t332] 23 (0, 0)) (by (with_reducible repeat (first | refine blk_drewN ?_ _ | refine blk_drew ?_ | refine blk_alloc ?_ _)); exact BK334.out) hb); have n2_ := Aside0.mk (below_step (by repeat (first | (with_reducible first | exact HB.out | apply below_alloc | apply pw_below_drewN | apply below_drew1 | refine below_set ?_ GE334.out) | exact HB.out)) hb); clear HO_5; clear BK334; clear HB; have HO_5 := n0_; have BK334 := n1_; have HB := n2_; clear n0_ n1_ n2_; (try clear hb); (try clear hb2); (try clear hk); (try clear hi)))
                repeat (go_quiet (first | (go_at_call 14; (with_reducible refine (awardingbodylaw20_awake.calls kj24  t354 _ A65.out).mono ?_); rintro e w66 ⟨rfl, hb⟩; have n0_ := Aside0.mk (Kd.R_below (by (with_reducible repeat (first | apply Kd.R_alloc | apply Kd.R_drewN | apply Kd.R_drew)); exact HO_5.out) hb); have n1_ := Aside0.mk (blk_below (g := gb334) (o := .cells #[.int .i64 t330, .int .i64 t331, .int .i64 t332] 23 (0, 0)) (by (with_reducible repeat (first | refine blk_drewN ?_ _ | refine blk_drew ?_ | refine blk_alloc ?_ _)); exact BK334.out) hb); have n2_ := Aside0.mk (below_step (by repeat (first | (with_reducible first | exact HB.out | apply below_alloc | apply pw_below_drewN | apply below_drew1 | refine below_set ?_ GE334.out) | exact HB.out)) hb); clear HO_5; clear BK334; clear HB; have HO_5 := n0_; have BK334 := n1_; have HB := n2_; clear n0_ n1_ n2_; (try clear hb); (try clear hb2); (try clear hk); (try clear hi))); try go_wp2_with (first | (go_at_call 14; (with_reducible refine (awardingbodylaw20_awake.calls kj24  t354 _ A65.out).mono ?_); rintro e w66 ⟨rfl, hb⟩; have n0_ := Aside0.mk (Kd.R_below (by (with_reducible repeat (first | apply Kd.R_alloc | apply Kd.R_drewN | apply Kd.R_drew)); exact HO_5.out) hb); have n1_ := Aside0.mk (blk_below (g := gb334) (o := .cells #[.int .i64 t330, .int .i64 t331, .int .i64 t332] 23 (0, 0)) (by (with_reducible repeat (first | refine blk_drewN ?_ _ | refine blk_drew ?_ | refine blk_alloc ?_ _)); exact BK334.out) hb); have n2_ := Aside0.mk (below_step (by repeat (first | (with_reducible first | exact HB.out | apply below_alloc | apply pw_below_drewN | apply below_drew1 | refine below_set ?_ GE334.out) | exact HB.out)) hb); clear HO_5; clear BK334; clear HB; have HO_5 := n0_; have BK334 := n1_; have HB := n2_; clear n0_ n1_ n2_; (try clear hb); (try clear hb2); (try clear hk); (try clear hi))))
                go_ret
                exact ⟨by first | rfl | (simp [errW_none, errW_some] <;> rfl) | (simp [*, errW_none, errW_some] <;> rfl), by repeat (first | (with_reducible first | exact HB.out | apply below_alloc | apply pw_below_drewN | apply below_drew1 | refine below_set ?_ GE334.out) | exact HB.out)⟩
               ·rw [if_neg c64] at H
                exact absurd H (by simp)
              ·rw [if_neg c63] at H
               exact absurd H (by simp)
             ·rw [if_neg c62] at H
              exact absurd H (by simp)
        ·rw [if_neg c30] at H
         exact absurd H (by simp)
       ·rw [if_neg c29] at H
        have c29b0 : (x8_1 == 0) = false := beq_eq_false_iff_ne.mpr c29
        have c29b1 : (x8_1 != 0) = true := bne_iff_ne.mpr c29
        by_cases c67 : x9_1 = 1
        ·rw [if_pos c67] at H
         have c67b0 : (x9_1 == 1) = true := beq_iff_eq.mpr c67
         have c67b1 : (x9_1 != 1) = false := bne_eq_false_iff_eq.mpr c67
         clear c67
         by_cases c68 : t339 < 0
         ·rw [if_pos c68] at H
          exact absurd H (by simp)
         ·rw [if_neg c68] at H
          have c68b0 : decide (t339 < 0) = false := decide_eq_false c68
          clear c68
          by_cases c69 : x9_1 < 2
          ·rw [if_pos c69] at H
           have c69b0 : decide (x9_1 < 2) = true := decide_eq_true c69
           clear c69
           by_cases c70 : t339 = (-2)
           ·rw [if_pos c70] at H
            exact absurd H (by simp)
           ·rw [if_neg c70] at H
            have c70b0 : (t339 == (-2)) = false := beq_eq_false_iff_ne.mpr c70
            have c70b1 : (t339 != (-2)) = true := bne_iff_ne.mpr c70
            by_cases c71 : x9_1 > 0
            ·rw [if_pos c71] at H
             have c71b0 : decide (0 < x9_1) = true := decide_eq_true c71
             clear c71
             by_cases c72 : t339 = (-1)
             ·rw [if_pos c72] at H
              exact absurd H (by simp)
             ·rw [if_neg c72] at H
              have c72b0 : (t339 == (-1)) = false := beq_eq_false_iff_ne.mpr c72
              have c72b1 : (t339 != (-1)) = true := bne_iff_ne.mpr c72
              by_cases c73 : 0 ≤ t339
              ·rw [if_pos c73] at H
               have c73b0 : decide (0 ≤ t339) = true := decide_eq_true c73
               clear c73
               by_cases c74 : t339 < (t335.length : Int)
               ·rw [if_pos c74] at H
                have c74b0 : decide (t339 < (t335.length : Int)) = true := decide_eq_true c74
                clear c74
                by_cases c75 : (rd t335 t339) = x10_1
                ·rw [if_pos c75] at H
                 have c75b0 : ((rd t335 t339) == x10_1) = true := beq_iff_eq.mpr c75
                 have c75b1 : ((rd t335 t339) != x10_1) = false := bne_eq_false_iff_eq.mpr c75
                 clear c75
                 replace H := Option.bind_eq_some_iff.mp H
                 obtain ⟨t356, A760, H⟩ := H
                 replace H : (some t356) = some r := H
                 have A76 := Aside0.mk A760
                 clear A760
                 obtain rfl := Option.some.inj H
                 have p355 : 0 ≤ (t339 : Int) := of_decide_eq_true (by first | (with_reducible assumption) | assumption)
                 have q355 : t339 < (t335.length : Int) := of_decide_eq_true (by first | (with_reducible assumption) | assumption)
                 obtain ⟨ad355, e355, hx355_0⟩ := Kd.at_int (Kd.R_reads' HO_5.out).2.2 t339 p355 q355
                 cases e355
                 replace p355 := eq_true p355
                 replace q355 := eq_true q355
                 go_wp2_with (first | (go_at_call 14; (with_reducible refine (awardingbodylaw20_awake.calls kj24  t356 _ A76.out).mono ?_); rintro e w77 ⟨rfl, hb⟩; have n0_ := Aside0.mk (Kd.R_below (by (with_reducible repeat (first | apply Kd.R_alloc | apply Kd.R_drewN | apply Kd.R_drew)); exact HO_5.out) hb); have n1_ := Aside0.mk (blk_below (g := gb334) (o := .cells #[.int .i64 t330, .int .i64 t331, .int .i64 t332] 23 (0, 0)) (by (with_reducible repeat (first | refine blk_drewN ?_ _ | refine blk_drew ?_ | refine blk_alloc ?_ _)); exact BK334.out) hb); have n2_ := Aside0.mk (below_step (by repeat (first | (with_reducible first | exact HB.out | apply below_alloc | apply pw_below_drewN | apply below_drew1 | refine below_set ?_ GE334.out) | exact HB.out)) hb); clear HO_5; clear BK334; clear HB; have HO_5 := n0_; have BK334 := n1_; have HB := n2_; clear n0_ n1_ n2_; (try clear hb); (try clear hb2); (try clear hk); (try clear hi)))
                 repeat (go_quiet (first | (go_at_call 14; (with_reducible refine (awardingbodylaw20_awake.calls kj24  t356 _ A76.out).mono ?_); rintro e w77 ⟨rfl, hb⟩; have n0_ := Aside0.mk (Kd.R_below (by (with_reducible repeat (first | apply Kd.R_alloc | apply Kd.R_drewN | apply Kd.R_drew)); exact HO_5.out) hb); have n1_ := Aside0.mk (blk_below (g := gb334) (o := .cells #[.int .i64 t330, .int .i64 t331, .int .i64 t332] 23 (0, 0)) (by (with_reducible repeat (first | refine blk_drewN ?_ _ | refine blk_drew ?_ | refine blk_alloc ?_ _)); exact BK334.out) hb); have n2_ := Aside0.mk (below_step (by repeat (first | (with_reducible first | exact HB.out | apply below_alloc | apply pw_below_drewN | apply below_drew1 | refine below_set ?_ GE334.out) | exact HB.out)) hb); clear HO_5; clear BK334; clear HB; have HO_5 := n0_; have BK334 := n1_; have HB := n2_; clear n0_ n1_ n2_; (try clear hb); (try clear hb2); (try clear hk); (try clear hi))); try go_wp2_with (first | (go_at_call 14; (with_reducible refine (awardingbodylaw20_awake.calls kj24  t356 _ A76.out).mono ?_); rintro e w77 ⟨rfl, hb⟩; have n0_ := Aside0.mk (Kd.R_below (by (with_reducible repeat (first | apply Kd.R_alloc | apply Kd.R_drewN | apply Kd.R_drew)); exact HO_5.out) hb); have n1_ := Aside0.mk (blk_below (g := gb334) (o := .cells #[.int .i64 t330, .int .i64 t331, .int .i64 t332] 23 (0, 0)) (by (with_reducible repeat (first | refine blk_drewN ?_ _ | refine blk_drew ?_ | refine blk_alloc ?_ _)); exact BK334.out) hb); have n2_ := Aside0.mk (below_step (by repeat (first | (with_reducible first | exact HB.out | apply below_alloc | apply pw_below_drewN | apply below_drew1 | refine below_set ?_ GE334.out) | exact HB.out)) hb); clear HO_5; clear BK334; clear HB; have HO_5 := n0_; have BK334 := n1_; have HB := n2_; clear n0_ n1_ n2_; (try clear hb); (try clear hb2); (try clear hk); (try clear hi))))
                 go_ret
                 exact ⟨by first | rfl | (simp [errW_none, errW_some] <;> rfl) | (simp [*, errW_none, errW_some] <;> rfl), by repeat (first | (with_reducible first | exact HB.out | apply below_alloc | apply pw_below_drewN | apply below_drew1 | refine below_set ?_ GE334.out) | exact HB.out)⟩
                ·rw [if_neg c75] at H
                 exact absurd H (by simp)
               ·rw [if_neg c74] at H
                exact absurd H (by simp)
              ·rw [if_neg c73] at H
               exact absurd H (by simp)
            ·rw [if_neg c71] at H
             have c71b0 : decide (0 < x9_1) = false := decide_eq_false c71
             clear c71
             by_cases c78 : 0 ≤ t339
             ·rw [if_pos c78] at H
              have c78b0 : decide (0 ≤ t339) = true := decide_eq_true c78
              clear c78
              by_cases c79 : t339 < (t335.length : Int)
              ·rw [if_pos c79] at H
               have c79b0 : decide (t339 < (t335.length : Int)) = true := decide_eq_true c79
               clear c79
               by_cases c80 : (rd t335 t339) = x10_1
               ·rw [if_pos c80] at H
                have c80b0 : ((rd t335 t339) == x10_1) = true := beq_iff_eq.mpr c80
                have c80b1 : ((rd t335 t339) != x10_1) = false := bne_eq_false_iff_eq.mpr c80
                clear c80
                replace H := Option.bind_eq_some_iff.mp H
                obtain ⟨t358, A810, H⟩ := H
                replace H : (some t358) = some r := H
                have A81 := Aside0.mk A810
                clear A810
                obtain rfl := Option.some.inj H
                have p357 : 0 ≤ (t339 : Int) := of_decide_eq_true (by first | (with_reducible assumption) | assumption)
                have q357 : t339 < (t335.length : Int) := of_decide_eq_true (by first | (with_reducible assumption) | assumption)
                obtain ⟨ad357, e357, hx357_0⟩ := Kd.at_int (Kd.R_reads' HO_5.out).2.2 t339 p357 q357
                cases e357
                replace p357 := eq_true p357
                replace q357 := eq_true q357
                go_wp2_with (first | (go_at_call 14; (with_reducible refine (awardingbodylaw20_awake.calls kj24  t358 _ A81.out).mono ?_); rintro e w82 ⟨rfl, hb⟩; have n0_ := Aside0.mk (Kd.R_below (by (with_reducible repeat (first | apply Kd.R_alloc | apply Kd.R_drewN | apply Kd.R_drew)); exact HO_5.out) hb); have n1_ := Aside0.mk (blk_below (g := gb334) (o := .cells #[.int .i64 t330, .int .i64 t331, .int .i64 t332] 23 (0, 0)) (by (with_reducible repeat (first | refine blk_drewN ?_ _ | refine blk_drew ?_ | refine blk_alloc ?_ _)); exact BK334.out) hb); have n2_ := Aside0.mk (below_step (by repeat (first | (with_reducible first | exact HB.out | apply below_alloc | apply pw_below_drewN | apply below_drew1 | refine below_set ?_ GE334.out) | exact HB.out)) hb); clear HO_5; clear BK334; clear HB; have HO_5 := n0_; have BK334 := n1_; have HB := n2_; clear n0_ n1_ n2_; (try clear hb); (try clear hb2); (try clear hk); (try clear hi)))
                repeat (go_quiet (first | (go_at_call 14; (with_reducible refine (awardingbodylaw20_awake.calls kj24  t358 _ A81.out).mono ?_); rintro e w82 ⟨rfl, hb⟩; have n0_ := Aside0.mk (Kd.R_below (by (with_reducible repeat (first | apply Kd.R_alloc | apply Kd.R_drewN | apply Kd.R_drew)); exact HO_5.out) hb); have n1_ := Aside0.mk (blk_below (g := gb334) (o := .cells #[.int .i64 t330, .int .i64 t331, .int .i64 t332] 23 (0, 0)) (by (with_reducible repeat (first | refine blk_drewN ?_ _ | refine blk_drew ?_ | refine blk_alloc ?_ _)); exact BK334.out) hb); have n2_ := Aside0.mk (below_step (by repeat (first | (with_reducible first | exact HB.out | apply below_alloc | apply pw_below_drewN | apply below_drew1 | refine below_set ?_ GE334.out) | exact HB.out)) hb); clear HO_5; clear BK334; clear HB; have HO_5 := n0_; have BK334 := n1_; have HB := n2_; clear n0_ n1_ n2_; (try clear hb); (try clear hb2); (try clear hk); (try clear hi))); try go_wp2_with (first | (go_at_call 14; (with_reducible refine (awardingbodylaw20_awake.calls kj24  t358 _ A81.out).mono ?_); rintro e w82 ⟨rfl, hb⟩; have n0_ := Aside0.mk (Kd.R_below (by (with_reducible repeat (first | apply Kd.R_alloc | apply Kd.R_drewN | apply Kd.R_drew)); exact HO_5.out) hb); have n1_ := Aside0.mk (blk_below (g := gb334) (o := .cells #[.int .i64 t330, .int .i64 t331, .int .i64 t332] 23 (0, 0)) (by (with_reducible repeat (first | refine blk_drewN ?_ _ | refine blk_drew ?_ | refine blk_alloc ?_ _)); exact BK334.out) hb); have n2_ := Aside0.mk (below_step (by repeat (first | (with_reducible first | exact HB.out | apply below_alloc | apply pw_below_drewN | apply below_drew1 | refine below_set ?_ GE334.out) | exact HB.out)) hb); clear HO_5; clear BK334; clear HB; have HO_5 := n0_; have BK334 := n1_; have HB := n2_; clear n0_ n1_ n2_; (try clear hb); (try clear hb2); (try clear hk); (try clear hi))))
                go_ret
                exact ⟨by first | rfl | (simp [errW_none, errW_some] <;> rfl) | (simp [*, errW_none, errW_some] <;> rfl), by repeat (first | (with_reducible first | exact HB.out | apply below_alloc | apply pw_below_drewN | apply below_drew1 | refine below_set ?_ GE334.out) | exact HB.out)⟩
               ·rw [if_neg c80] at H
                exact absurd H (by simp)
              ·rw [if_neg c79] at H
               exact absurd H (by simp)
             ·rw [if_neg c78] at H
              exact absurd H (by simp)
          ·rw [if_neg c69] at H
           have c69b0 : decide (x9_1 < 2) = false := decide_eq_false c69
           clear c69
           by_cases c83 : x9_1 > 0
           ·rw [if_pos c83] at H
            have c83b0 : decide (0 < x9_1) = true := decide_eq_true c83
            clear c83
            by_cases c84 : t339 = (-1)
            ·rw [if_pos c84] at H
             exact absurd H (by simp)
            ·rw [if_neg c84] at H
             have c84b0 : (t339 == (-1)) = false := beq_eq_false_iff_ne.mpr c84
             have c84b1 : (t339 != (-1)) = true := bne_iff_ne.mpr c84
             by_cases c85 : 0 ≤ t339
             ·rw [if_pos c85] at H
              have c85b0 : decide (0 ≤ t339) = true := decide_eq_true c85
              clear c85
              by_cases c86 : t339 < (t335.length : Int)
              ·rw [if_pos c86] at H
               have c86b0 : decide (t339 < (t335.length : Int)) = true := decide_eq_true c86
               clear c86
               by_cases c87 : (rd t335 t339) = x10_1
               ·rw [if_pos c87] at H
                have c87b0 : ((rd t335 t339) == x10_1) = true := beq_iff_eq.mpr c87
                have c87b1 : ((rd t335 t339) != x10_1) = false := bne_eq_false_iff_eq.mpr c87
                clear c87
                replace H := Option.bind_eq_some_iff.mp H
                obtain ⟨t360, A880, H⟩ := H
                replace H : (some t360) = some r := H
                have A88 := Aside0.mk A880
                clear A880
                obtain rfl := Option.some.inj H
                have p359 : 0 ≤ (t339 : Int) := of_decide_eq_true (by first | (with_reducible assumption) | assumption)
                have q359 : t339 < (t335.length : Int) := of_decide_eq_true (by first | (with_reducible assumption) | assumption)
                obtain ⟨ad359, e359, hx359_0⟩ := Kd.at_int (Kd.R_reads' HO_5.out).2.2 t339 p359 q359
                cases e359
                replace p359 := eq_true p359
                replace q359 := eq_true q359
                go_wp2_with (first | (go_at_call 14; (with_reducible refine (awardingbodylaw20_awake.calls kj24  t360 _ A88.out).mono ?_); rintro e w89 ⟨rfl, hb⟩; have n0_ := Aside0.mk (Kd.R_below (by (with_reducible repeat (first | apply Kd.R_alloc | apply Kd.R_drewN | apply Kd.R_drew)); exact HO_5.out) hb); have n1_ := Aside0.mk (blk_below (g := gb334) (o := .cells #[.int .i64 t330, .int .i64 t331, .int .i64 t332] 23 (0, 0)) (by (with_reducible repeat (first | refine blk_drewN ?_ _ | refine blk_drew ?_ | refine blk_alloc ?_ _)); exact BK334.out) hb); have n2_ := Aside0.mk (below_step (by repeat (first | (with_reducible first | exact HB.out | apply below_alloc | apply pw_below_drewN | apply below_drew1 | refine below_set ?_ GE334.out) | exact HB.out)) hb); clear HO_5; clear BK334; clear HB; have HO_5 := n0_; have BK334 := n1_; have HB := n2_; clear n0_ n1_ n2_; (try clear hb); (try clear hb2); (try clear hk); (try clear hi)))
                repeat (go_quiet (first | (go_at_call 14; (with_reducible refine (awardingbodylaw20_awake.calls kj24  t360 _ A88.out).mono ?_); rintro e w89 ⟨rfl, hb⟩; have n0_ := Aside0.mk (Kd.R_below (by (with_reducible repeat (first | apply Kd.R_alloc | apply Kd.R_drewN | apply Kd.R_drew)); exact HO_5.out) hb); have n1_ := Aside0.mk (blk_below (g := gb334) (o := .cells #[.int .i64 t330, .int .i64 t331, .int .i64 t332] 23 (0, 0)) (by (with_reducible repeat (first | refine blk_drewN ?_ _ | refine blk_drew ?_ | refine blk_alloc ?_ _)); exact BK334.out) hb); have n2_ := Aside0.mk (below_step (by repeat (first | (with_reducible first | exact HB.out | apply below_alloc | apply pw_below_drewN | apply below_drew1 | refine below_set ?_ GE334.out) | exact HB.out)) hb); clear HO_5; clear BK334; clear HB; have HO_5 := n0_; have BK334 := n1_; have HB := n2_; clear n0_ n1_ n2_; (try clear hb); (try clear hb2); (try clear hk); (try clear hi))); try go_wp2_with (first | (go_at_call 14; (with_reducible refine (awardingbodylaw20_awake.calls kj24  t360 _ A88.out).mono ?_); rintro e w89 ⟨rfl, hb⟩; have n0_ := Aside0.mk (Kd.R_below (by (with_reducible repeat (first | apply Kd.R_alloc | apply Kd.R_drewN | apply Kd.R_drew)); exact HO_5.out) hb); have n1_ := Aside0.mk (blk_below (g := gb334) (o := .cells #[.int .i64 t330, .int .i64 t331, .int .i64 t332] 23 (0, 0)) (by (with_reducible repeat (first | refine blk_drewN ?_ _ | refine blk_drew ?_ | refine blk_alloc ?_ _)); exact BK334.out) hb); have n2_ := Aside0.mk (below_step (by repeat (first | (with_reducible first | exact HB.out | apply below_alloc | apply pw_below_drewN | apply below_drew1 | refine below_set ?_ GE334.out) | exact HB.out)) hb); clear HO_5; clear BK334; clear HB; have HO_5 := n0_; have BK334 := n1_; have HB := n2_; clear n0_ n1_ n2_; (try clear hb); (try clear hb2); (try clear hk); (try clear hi))))
                go_ret
                exact ⟨by first | rfl | (simp [errW_none, errW_some] <;> rfl) | (simp [*, errW_none, errW_some] <;> rfl), by repeat (first | (with_reducible first | exact HB.out | apply below_alloc | apply pw_below_drewN | apply below_drew1 | refine below_set ?_ GE334.out) | exact HB.out)⟩
               ·rw [if_neg c87] at H
                exact absurd H (by simp)
              ·rw [if_neg c86] at H
               exact absurd H (by simp)
             ·rw [if_neg c85] at H
              exact absurd H (by simp)
           ·rw [if_neg c83] at H
            have c83b0 : decide (0 < x9_1) = false := decide_eq_false c83
            clear c83
            by_cases c90 : 0 ≤ t339
            ·rw [if_pos c90] at H
             have c90b0 : decide (0 ≤ t339) = true := decide_eq_true c90
             clear c90
             by_cases c91 : t339 < (t335.length : Int)
             ·rw [if_pos c91] at H
              have c91b0 : decide (t339 < (t335.length : Int)) = true := decide_eq_true c91
              clear c91
              by_cases c92 : (rd t335 t339) = x10_1
              ·rw [if_pos c92] at H
               have c92b0 : ((rd t335 t339) == x10_1) = true := beq_iff_eq.mpr c92
               have c92b1 : ((rd t335 t339) != x10_1) = false := bne_eq_false_iff_eq.mpr c92
               clear c92
               replace H := Option.bind_eq_some_iff.mp H
               obtain ⟨t362, A930, H⟩ := H
               replace H : (some t362) = some r := H
               have A93 := Aside0.mk A930
               clear A930
               obtain rfl := Option.some.inj H
               have p361 : 0 ≤ (t339 : Int) := of_decide_eq_true (by first | (with_reducible assumption) | assumption)
               have q361 : t339 < (t335.length : Int) := of_decide_eq_true (by first | (with_reducible assumption) | assumption)
               obtain ⟨ad361, e361, hx361_0⟩ := Kd.at_int (Kd.R_reads' HO_5.out).2.2 t339 p361 q361
               cases e361
               replace p361 := eq_true p361
               replace q361 := eq_true q361
               go_wp2_with (first | (go_at_call 14; (with_reducible refine (awardingbodylaw20_awake.calls kj24  t362 _ A93.out).mono ?_); rintro e w94 ⟨rfl, hb⟩; have n0_ := Aside0.mk (Kd.R_below (by (with_reducible repeat (first | apply Kd.R_alloc | apply Kd.R_drewN | apply Kd.R_drew)); exact HO_5.out) hb); have n1_ := Aside0.mk (blk_below (g := gb334) (o := .cells #[.int .i64 t330, .int .i64 t331, .int .i64 t332] 23 (0, 0)) (by (with_reducible repeat (first | refine blk_drewN ?_ _ | refine blk_drew ?_ | refine blk_alloc ?_ _)); exact BK334.out) hb); have n2_ := Aside0.mk (below_step (by repeat (first | (with_reducible first | exact HB.out | apply below_alloc | apply pw_below_drewN | apply below_drew1 | refine below_set ?_ GE334.out) | exact HB.out)) hb); clear HO_5; clear BK334; clear HB; have HO_5 := n0_; have BK334 := n1_; have HB := n2_; clear n0_ n1_ n2_; (try clear hb); (try clear hb2); (try clear hk); (try clear hi)))
               repeat (go_quiet (first | (go_at_call 14; (with_reducible refine (awardingbodylaw20_awake.calls kj24  t362 _ A93.out).mono ?_); rintro e w94 ⟨rfl, hb⟩; have n0_ := Aside0.mk (Kd.R_below (by (with_reducible repeat (first | apply Kd.R_alloc | apply Kd.R_drewN | apply Kd.R_drew)); exact HO_5.out) hb); have n1_ := Aside0.mk (blk_below (g := gb334) (o := .cells #[.int .i64 t330, .int .i64 t331, .int .i64 t332] 23 (0, 0)) (by (with_reducible repeat (first | refine blk_drewN ?_ _ | refine blk_drew ?_ | refine blk_alloc ?_ _)); exact BK334.out) hb); have n2_ := Aside0.mk (below_step (by repeat (first | (with_reducible first | exact HB.out | apply below_alloc | apply pw_below_drewN | apply below_drew1 | refine below_set ?_ GE334.out) | exact HB.out)) hb); clear HO_5; clear BK334; clear HB; have HO_5 := n0_; have BK334 := n1_; have HB := n2_; clear n0_ n1_ n2_; (try clear hb); (try clear hb2); (try clear hk); (try clear hi))); try go_wp2_with (first | (go_at_call 14; (with_reducible refine (awardingbodylaw20_awake.calls kj24  t362 _ A93.out).mono ?_); rintro e w94 ⟨rfl, hb⟩; have n0_ := Aside0.mk (Kd.R_below (by (with_reducible repeat (first | apply Kd.R_alloc | apply Kd.R_drewN | apply Kd.R_drew)); exact HO_5.out) hb); have n1_ := Aside0.mk (blk_below (g := gb334) (o := .cells #[.int .i64 t330, .int .i64 t331, .int .i64 t332] 23 (0, 0)) (by (with_reducible repeat (first | refine blk_drewN ?_ _ | refine blk_drew ?_ | refine blk_alloc ?_ _)); exact BK334.out) hb); have n2_ := Aside0.mk (below_step (by repeat (first | (with_reducible first | exact HB.out | apply below_alloc | apply pw_below_drewN | apply below_drew1 | refine below_set ?_ GE334.out) | exact HB.out)) hb); clear HO_5; clear BK334; clear HB; have HO_5 := n0_; have BK334 := n1_; have HB := n2_; clear n0_ n1_ n2_; (try clear hb); (try clear hb2); (try clear hk); (try clear hi))))
               go_ret
               exact ⟨by first | rfl | (simp [errW_none, errW_some] <;> rfl) | (simp [*, errW_none, errW_some] <;> rfl), by repeat (first | (with_reducible first | exact HB.out | apply below_alloc | apply pw_below_drewN | apply below_drew1 | refine below_set ?_ GE334.out) | exact HB.out)⟩
              ·rw [if_neg c92] at H
               exact absurd H (by simp)
             ·rw [if_neg c91] at H
              exact absurd H (by simp)
            ·rw [if_neg c90] at H
             exact absurd H (by simp)
        ·rw [if_neg c67] at H
         have c67b0 : (x9_1 == 1) = false := beq_eq_false_iff_ne.mpr c67
         have c67b1 : (x9_1 != 1) = true := bne_iff_ne.mpr c67
         by_cases c95 : x9_1 < 2
         ·rw [if_pos c95] at H
          have c95b0 : decide (x9_1 < 2) = true := decide_eq_true c95
          clear c95
          by_cases c96 : t339 = (-2)
          ·rw [if_pos c96] at H
           exact absurd H (by simp)
          ·rw [if_neg c96] at H
           have c96b0 : (t339 == (-2)) = false := beq_eq_false_iff_ne.mpr c96
           have c96b1 : (t339 != (-2)) = true := bne_iff_ne.mpr c96
           by_cases c97 : x9_1 > 0
           ·rw [if_pos c97] at H
            have c97b0 : decide (0 < x9_1) = true := decide_eq_true c97
            clear c97
            by_cases c98 : t339 = (-1)
            ·rw [if_pos c98] at H
             exact absurd H (by simp)
            ·rw [if_neg c98] at H
             have c98b0 : (t339 == (-1)) = false := beq_eq_false_iff_ne.mpr c98
             have c98b1 : (t339 != (-1)) = true := bne_iff_ne.mpr c98
             by_cases c99 : t339 < 0
             ·rw [if_pos c99] at H
              have c99b0 : decide (t339 < 0) = true := decide_eq_true c99
              clear c99
              replace H := Option.bind_eq_some_iff.mp H
              obtain ⟨t363, A1000, H⟩ := H
              replace H : (some t363) = some r := H
              have A100 := Aside0.mk A1000
              clear A1000
              obtain rfl := Option.some.inj H
              go_wp2_with (first | (go_at_call 14; (with_reducible refine (awardingbodylaw20_awake.calls kj24  t363 _ A100.out).mono ?_); rintro e w101 ⟨rfl, hb⟩; have n0_ := Aside0.mk (Kd.R_below (by (with_reducible repeat (first | apply Kd.R_alloc | apply Kd.R_drewN | apply Kd.R_drew)); exact HO_5.out) hb); have n1_ := Aside0.mk (blk_below (g := gb334) (o := .cells #[.int .i64 t330, .int .i64 t331, .int .i64 t332] 23 (0, 0)) (by (with_reducible repeat (first | refine blk_drewN ?_ _ | refine blk_drew ?_ | refine blk_alloc ?_ _)); exact BK334.out) hb); have n2_ := Aside0.mk (below_step (by repeat (first | (with_reducible first | exact HB.out | apply below_alloc | apply pw_below_drewN | apply below_drew1 | refine below_set ?_ GE334.out) | exact HB.out)) hb); clear HO_5; clear BK334; clear HB; have HO_5 := n0_; have BK334 := n1_; have HB := n2_; clear n0_ n1_ n2_; (try clear hb); (try clear hb2); (try clear hk); (try clear hi)))
              repeat (go_quiet (first | (go_at_call 14; (with_reducible refine (awardingbodylaw20_awake.calls kj24  t363 _ A100.out).mono ?_); rintro e w101 ⟨rfl, hb⟩; have n0_ := Aside0.mk (Kd.R_below (by (with_reducible repeat (first | apply Kd.R_alloc | apply Kd.R_drewN | apply Kd.R_drew)); exact HO_5.out) hb); have n1_ := Aside0.mk (blk_below (g := gb334) (o := .cells #[.int .i64 t330, .int .i64 t331, .int .i64 t332] 23 (0, 0)) (by (with_reducible repeat (first | refine blk_drewN ?_ _ | refine blk_drew ?_ | refine blk_alloc ?_ _)); exact BK334.out) hb); have n2_ := Aside0.mk (below_step (by repeat (first | (with_reducible first | exact HB.out | apply below_alloc | apply pw_below_drewN | apply below_drew1 | refine below_set ?_ GE334.out) | exact HB.out)) hb); clear HO_5; clear BK334; clear HB; have HO_5 := n0_; have BK334 := n1_; have HB := n2_; clear n0_ n1_ n2_; (try clear hb); (try clear hb2); (try clear hk); (try clear hi))); try go_wp2_with (first | (go_at_call 14; (with_reducible refine (awardingbodylaw20_awake.calls kj24  t363 _ A100.out).mono ?_); rintro e w101 ⟨rfl, hb⟩; have n0_ := Aside0.mk (Kd.R_below (by (with_reducible repeat (first | apply Kd.R_alloc | apply Kd.R_drewN | apply Kd.R_drew)); exact HO_5.out) hb); have n1_ := Aside0.mk (blk_below (g := gb334) (o := .cells #[.int .i64 t330, .int .i64 t331, .int .i64 t332] 23 (0, 0)) (by (with_reducible repeat (first | refine blk_drewN ?_ _ | refine blk_drew ?_ | refine blk_alloc ?_ _)); exact BK334.out) hb); have n2_ := Aside0.mk (below_step (by repeat (first | (with_reducible first | exact HB.out | apply below_alloc | apply pw_below_drewN | apply below_drew1 | refine below_set ?_ GE334.out) | exact HB.out)) hb); clear HO_5; clear BK334; clear HB; have HO_5 := n0_; have BK334 := n1_; have HB := n2_; clear n0_ n1_ n2_; (try clear hb); (try clear hb2); (try clear hk); (try clear hi))))
              go_ret
              exact ⟨by first | rfl | (simp [errW_none, errW_some] <;> rfl) | (simp [*, errW_none, errW_some] <;> rfl), by repeat (first | (with_reducible first | exact HB.out | apply below_alloc | apply pw_below_drewN | apply below_drew1 | refine below_set ?_ GE334.out) | exact HB.out)⟩
             ·rw [if_neg c99] at H
              have c99b0 : decide (t339 < 0) = false := decide_eq_false c99
              clear c99
              by_cases c102 : 0 ≤ t339
              ·rw [if_pos c102] at H
               have c102b0 : decide (0 ≤ t339) = true := decide_eq_true c102
               clear c102
               by_cases c103 : t339 < (t335.length : Int)
               ·rw [if_pos c103] at H
                have c103b0 : decide (t339 < (t335.length : Int)) = true := decide_eq_true c103
                clear c103
                by_cases c104 : (rd t335 t339) = x10_1
                ·rw [if_pos c104] at H
                 have c104b0 : ((rd t335 t339) == x10_1) = true := beq_iff_eq.mpr c104
                 have c104b1 : ((rd t335 t339) != x10_1) = false := bne_eq_false_iff_eq.mpr c104
                 clear c104
                 replace H := Option.bind_eq_some_iff.mp H
                 obtain ⟨t365, A1050, H⟩ := H
                 replace H : (some t365) = some r := H
                 have A105 := Aside0.mk A1050
                 clear A1050
                 obtain rfl := Option.some.inj H
                 have p364 : 0 ≤ (t339 : Int) := of_decide_eq_true (by first | (with_reducible assumption) | assumption)
                 have q364 : t339 < (t335.length : Int) := of_decide_eq_true (by first | (with_reducible assumption) | assumption)
                 obtain ⟨ad364, e364, hx364_0⟩ := Kd.at_int (Kd.R_reads' HO_5.out).2.2 t339 p364 q364
                 cases e364
                 replace p364 := eq_true p364
                 replace q364 := eq_true q364
                 go_wp2_with (first | (go_at_call 14; (with_reducible refine (awardingbodylaw20_awake.calls kj24  t365 _ A105.out).mono ?_); rintro e w106 ⟨rfl, hb⟩; have n0_ := Aside0.mk (Kd.R_below (by (with_reducible repeat (first | apply Kd.R_alloc | apply Kd.R_drewN | apply Kd.R_drew)); exact HO_5.out) hb); have n1_ := Aside0.mk (blk_below (g := gb334) (o := .cells #[.int .i64 t330, .int .i64 t331, .int .i64 t332] 23 (0, 0)) (by (with_reducible repeat (first | refine blk_drewN ?_ _ | refine blk_drew ?_ | refine blk_alloc ?_ _)); exact BK334.out) hb); have n2_ := Aside0.mk (below_step (by repeat (first | (with_reducible first | exact HB.out | apply below_alloc | apply pw_below_drewN | apply below_drew1 | refine below_set ?_ GE334.out) | exact HB.out)) hb); clear HO_5; clear BK334; clear HB; have HO_5 := n0_; have BK334 := n1_; have HB := n2_; clear n0_ n1_ n2_; (try clear hb); (try clear hb2); (try clear hk); (try clear hi)))
                 repeat (go_quiet (first | (go_at_call 14; (with_reducible refine (awardingbodylaw20_awake.calls kj24  t365 _ A105.out).mono ?_); rintro e w106 ⟨rfl, hb⟩; have n0_ := Aside0.mk (Kd.R_below (by (with_reducible repeat (first | apply Kd.R_alloc | apply Kd.R_drewN | apply Kd.R_drew)); exact HO_5.out) hb); have n1_ := Aside0.mk (blk_below (g := gb334) (o := .cells #[.int .i64 t330, .int .i64 t331, .int .i64 t332] 23 (0, 0)) (by (with_reducible repeat (first | refine blk_drewN ?_ _ | refine blk_drew ?_ | refine blk_alloc ?_ _)); exact BK334.out) hb); have n2_ := Aside0.mk (below_step (by repeat (first | (with_reducible first | exact HB.out | apply below_alloc | apply pw_below_drewN | apply below_drew1 | refine below_set ?_ GE334.out) | exact HB.out)) hb); clear HO_5; clear BK334; clear HB; have HO_5 := n0_; have BK334 := n1_; have HB := n2_; clear n0_ n1_ n2_; (try clear hb); (try clear hb2); (try clear hk); (try clear hi))); try go_wp2_with (first | (go_at_call 14; (with_reducible refine (awardingbodylaw20_awake.calls kj24  t365 _ A105.out).mono ?_); rintro e w106 ⟨rfl, hb⟩; have n0_ := Aside0.mk (Kd.R_below (by (with_reducible repeat (first | apply Kd.R_alloc | apply Kd.R_drewN | apply Kd.R_drew)); exact HO_5.out) hb); have n1_ := Aside0.mk (blk_below (g := gb334) (o := .cells #[.int .i64 t330, .int .i64 t331, .int .i64 t332] 23 (0, 0)) (by (with_reducible repeat (first | refine blk_drewN ?_ _ | refine blk_drew ?_ | refine blk_alloc ?_ _)); exact BK334.out) hb); have n2_ := Aside0.mk (below_step (by repeat (first | (with_reducible first | exact HB.out | apply below_alloc | apply pw_below_drewN | apply below_drew1 | refine below_set ?_ GE334.out) | exact HB.out)) hb); clear HO_5; clear BK334; clear HB; have HO_5 := n0_; have BK334 := n1_; have HB := n2_; clear n0_ n1_ n2_; (try clear hb); (try clear hb2); (try clear hk); (try clear hi))))
                 go_ret
                 exact ⟨by first | rfl | (simp [errW_none, errW_some] <;> rfl) | (simp [*, errW_none, errW_some] <;> rfl), by repeat (first | (with_reducible first | exact HB.out | apply below_alloc | apply pw_below_drewN | apply below_drew1 | refine below_set ?_ GE334.out) | exact HB.out)⟩
                ·rw [if_neg c104] at H
                 exact absurd H (by simp)
               ·rw [if_neg c103] at H
                exact absurd H (by simp)
              ·rw [if_neg c102] at H
               exact absurd H (by simp)
           ·rw [if_neg c97] at H
            have c97b0 : decide (0 < x9_1) = false := decide_eq_false c97
            clear c97
            by_cases c107 : t339 < 0
            ·rw [if_pos c107] at H
             have c107b0 : decide (t339 < 0) = true := decide_eq_true c107
             clear c107
             replace H := Option.bind_eq_some_iff.mp H
             obtain ⟨t366, A1080, H⟩ := H
             replace H : (some t366) = some r := H
             have A108 := Aside0.mk A1080
             clear A1080
             obtain rfl := Option.some.inj H
             go_wp2_with (first | (go_at_call 14; (with_reducible refine (awardingbodylaw20_awake.calls kj24  t366 _ A108.out).mono ?_); rintro e w109 ⟨rfl, hb⟩; have n0_ := Aside0.mk (Kd.R_below (by (with_reducible repeat (first | apply Kd.R_alloc | apply Kd.R_drewN | apply Kd.R_drew)); exact HO_5.out) hb); have n1_ := Aside0.mk (blk_below (g := gb334) (o := .cells #[.int .i64 t330, .int .i64 t331, .int .i64 t332] 23 (0, 0)) (by (with_reducible repeat (first | refine blk_drewN ?_ _ | refine blk_drew ?_ | refine blk_alloc ?_ _)); exact BK334.out) hb); have n2_ := Aside0.mk (below_step (by repeat (first | (with_reducible first | exact HB.out | apply below_alloc | apply pw_below_drewN | apply below_drew1 | refine below_set ?_ GE334.out) | exact HB.out)) hb); clear HO_5; clear BK334; clear HB; have HO_5 := n0_; have BK334 := n1_; have HB := n2_; clear n0_ n1_ n2_; (try clear hb); (try clear hb2); (try clear hk); (try clear hi)))
             repeat (go_quiet (first | (go_at_call 14; (with_reducible refine (awardingbodylaw20_awake.calls kj24  t366 _ A108.out).mono ?_); rintro e w109 ⟨rfl, hb⟩; have n0_ := Aside0.mk (Kd.R_below (by (with_reducible repeat (first | apply Kd.R_alloc | apply Kd.R_drewN | apply Kd.R_drew)); exact HO_5.out) hb); have n1_ := Aside0.mk (blk_below (g := gb334) (o := .cells #[.int .i64 t330, .int .i64 t331, .int .i64 t332] 23 (0, 0)) (by (with_reducible repeat (first | refine blk_drewN ?_ _ | refine blk_drew ?_ | refine blk_alloc ?_ _)); exact BK334.out) hb); have n2_ := Aside0.mk (below_step (by repeat (first | (with_reducible first | exact HB.out | apply below_alloc | apply pw_below_drewN | apply below_drew1 | refine below_set ?_ GE334.out) | exact HB.out)) hb); clear HO_5; clear BK334; clear HB; have HO_5 := n0_; have BK334 := n1_; have HB := n2_; clear n0_ n1_ n2_; (try clear hb); (try clear hb2); (try clear hk); (try clear hi))); try go_wp2_with (first | (go_at_call 14; (with_reducible refine (awardingbodylaw20_awake.calls kj24  t366 _ A108.out).mono ?_); rintro e w109 ⟨rfl, hb⟩; have n0_ := Aside0.mk (Kd.R_below (by (with_reducible repeat (first | apply Kd.R_alloc | apply Kd.R_drewN | apply Kd.R_drew)); exact HO_5.out) hb); have n1_ := Aside0.mk (blk_below (g := gb334) (o := .cells #[.int .i64 t330, .int .i64 t331, .int .i64 t332] 23 (0, 0)) (by (with_reducible repeat (first | refine blk_drewN ?_ _ | refine blk_drew ?_ | refine blk_alloc ?_ _)); exact BK334.out) hb); have n2_ := Aside0.mk (below_step (by repeat (first | (with_reducible first | exact HB.out | apply below_alloc | apply pw_below_drewN | apply below_drew1 | refine below_set ?_ GE334.out) | exact HB.out)) hb); clear HO_5; clear BK334; clear HB; have HO_5 := n0_; have BK334 := n1_; have HB := n2_; clear n0_ n1_ n2_; (try clear hb); (try clear hb2); (try clear hk); (try clear hi))))
             go_ret
             exact ⟨by first | rfl | (simp [errW_none, errW_some] <;> rfl) | (simp [*, errW_none, errW_some] <;> rfl), by repeat (first | (with_reducible first | exact HB.out | apply below_alloc | apply pw_below_drewN | apply below_drew1 | refine below_set ?_ GE334.out) | exact HB.out)⟩
            ·rw [if_neg c107] at H
             have c107b0 : decide (t339 < 0) = false := decide_eq_false c107
             clear c107
             by_cases c110 : 0 ≤ t339
             ·rw [if_pos c110] at H
              have c110b0 : decide (0 ≤ t339) = true := decide_eq_true c110
              clear c110
              by_cases c111 : t339 < (t335.length : Int)
              ·rw [if_pos c111] at H
               have c111b0 : decide (t339 < (t335.length : Int)) = true := decide_eq_true c111
               clear c111
               by_cases c112 : (rd t335 t339) = x10_1
               ·rw [if_pos c112] at H
                have c112b0 : ((rd t335 t339) == x10_1) = true := beq_iff_eq.mpr c112
                have c112b1 : ((rd t335 t339) != x10_1) = false := bne_eq_false_iff_eq.mpr c112
                clear c112
                replace H := Option.bind_eq_some_iff.mp H
                obtain ⟨t368, A1130, H⟩ := H
                replace H : (some t368) = some r := H
                have A113 := Aside0.mk A1130
                clear A1130
                obtain rfl := Option.some.inj H
                have p367 : 0 ≤ (t339 : Int) := of_decide_eq_true (by first | (with_reducible assumption) | assumption)
                have q367 : t339 < (t335.length : Int) := of_decide_eq_true (by first | (with_reducible assumption) | assumption)
                obtain ⟨ad367, e367, hx367_0⟩ := Kd.at_int (Kd.R_reads' HO_5.out).2.2 t339 p367 q367
                cases e367
                replace p367 := eq_true p367
                replace q367 := eq_true q367
                go_wp2_with (first | (go_at_call 14; (with_reducible refine (awardingbodylaw20_awake.calls kj24  t368 _ A113.out).mono ?_); rintro e w114 ⟨rfl, hb⟩; have n0_ := Aside0.mk (Kd.R_below (by (with_reducible repeat (first | apply Kd.R_alloc | apply Kd.R_drewN | apply Kd.R_drew)); exact HO_5.out) hb); have n1_ := Aside0.mk (blk_below (g := gb334) (o := .cells #[.int .i64 t330, .int .i64 t331, .int .i64 t332] 23 (0, 0)) (by (with_reducible repeat (first | refine blk_drewN ?_ _ | refine blk_drew ?_ | refine blk_alloc ?_ _)); exact BK334.out) hb); have n2_ := Aside0.mk (below_step (by repeat (first | (with_reducible first | exact HB.out | apply below_alloc | apply pw_below_drewN | apply below_drew1 | refine below_set ?_ GE334.out) | exact HB.out)) hb); clear HO_5; clear BK334; clear HB; have HO_5 := n0_; have BK334 := n1_; have HB := n2_; clear n0_ n1_ n2_; (try clear hb); (try clear hb2); (try clear hk); (try clear hi)))
                repeat (go_quiet (first | (go_at_call 14; (with_reducible refine (awardingbodylaw20_awake.calls kj24  t368 _ A113.out).mono ?_); rintro e w114 ⟨rfl, hb⟩; have n0_ := Aside0.mk (Kd.R_below (by (with_reducible repeat (first | apply Kd.R_alloc | apply Kd.R_drewN | apply Kd.R_drew)); exact HO_5.out) hb); have n1_ := Aside0.mk (blk_below (g := gb334) (o := .cells #[.int .i64 t330, .int .i64 t331, .int .i64 t332] 23 (0, 0)) (by (with_reducible repeat (first | refine blk_drewN ?_ _ | refine blk_drew ?_ | refine blk_alloc ?_ _)); exact BK334.out) hb); have n2_ := Aside0.mk (below_step (by repeat (first | (with_reducible first | exact HB.out | apply below_alloc | apply pw_below_drewN | apply below_drew1 | refine below_set ?_ GE334.out) | exact HB.out)) hb); clear HO_5; clear BK334; clear HB; have HO_5 := n0_; have BK334 := n1_; have HB := n2_; clear n0_ n1_ n2_; (try clear hb); (try clear hb2); (try clear hk); (try clear hi))); try go_wp2_with (first | (go_at_call 14; (with_reducible refine (awardingbodylaw20_awake.calls kj24  t368 _ A113.out).mono ?_); rintro e w114 ⟨rfl, hb⟩; have n0_ := Aside0.mk (Kd.R_below (by (with_reducible repeat (first | apply Kd.R_alloc | apply Kd.R_drewN | apply Kd.R_drew)); exact HO_5.out) hb); have n1_ := Aside0.mk (blk_below (g := gb334) (o := .cells #[.int .i64 t330, .int .i64 t331, .int .i64 t332] 23 (0, 0)) (by (with_reducible repeat (first | refine blk_drewN ?_ _ | refine blk_drew ?_ | refine blk_alloc ?_ _)); exact BK334.out) hb); have n2_ := Aside0.mk (below_step (by repeat (first | (with_reducible first | exact HB.out | apply below_alloc | apply pw_below_drewN | apply below_drew1 | refine below_set ?_ GE334.out) | exact HB.out)) hb); clear HO_5; clear BK334; clear HB; have HO_5 := n0_; have BK334 := n1_; have HB := n2_; clear n0_ n1_ n2_; (try clear hb); (try clear hb2); (try clear hk); (try clear hi))))
                go_ret
                exact ⟨by first | rfl | (simp [errW_none, errW_some] <;> rfl) | (simp [*, errW_none, errW_some] <;> rfl), by repeat (first | (with_reducible first | exact HB.out | apply below_alloc | apply pw_below_drewN | apply below_drew1 | refine below_set ?_ GE334.out) | exact HB.out)⟩
               ·rw [if_neg c112] at H
                exact absurd H (by simp)
              ·rw [if_neg c111] at H
               exact absurd H (by simp)
             ·rw [if_neg c110] at H
              exact absurd H (by simp)
         ·rw [if_neg c95] at H
          have c95b0 : decide (x9_1 < 2) = false := decide_eq_false c95
          clear c95
          by_cases c115 : x9_1 > 0
          ·rw [if_pos c115] at H
           have c115b0 : decide (0 < x9_1) = true := decide_eq_true c115
           clear c115
           by_cases c116 : t339 = (-1)
           ·rw [if_pos c116] at H
            exact absurd H (by simp)
           ·rw [if_neg c116] at H
            have c116b0 : (t339 == (-1)) = false := beq_eq_false_iff_ne.mpr c116
            have c116b1 : (t339 != (-1)) = true := bne_iff_ne.mpr c116
            by_cases c117 : t339 < 0
            ·rw [if_pos c117] at H
             have c117b0 : decide (t339 < 0) = true := decide_eq_true c117
             clear c117
             replace H := Option.bind_eq_some_iff.mp H
             obtain ⟨t369, A1180, H⟩ := H
             replace H : (some t369) = some r := H
             have A118 := Aside0.mk A1180
             clear A1180
             obtain rfl := Option.some.inj H
             go_wp2_with (first | (go_at_call 14; (with_reducible refine (awardingbodylaw20_awake.calls kj24  t369 _ A118.out).mono ?_); rintro e w119 ⟨rfl, hb⟩; have n0_ := Aside0.mk (Kd.R_below (by (with_reducible repeat (first | apply Kd.R_alloc | apply Kd.R_drewN | apply Kd.R_drew)); exact HO_5.out) hb); have n1_ := Aside0.mk (blk_below (g := gb334) (o := .cells #[.int .i64 t330, .int .i64 t331, .int .i64 t332] 23 (0, 0)) (by (with_reducible repeat (first | refine blk_drewN ?_ _ | refine blk_drew ?_ | refine blk_alloc ?_ _)); exact BK334.out) hb); have n2_ := Aside0.mk (below_step (by repeat (first | (with_reducible first | exact HB.out | apply below_alloc | apply pw_below_drewN | apply below_drew1 | refine below_set ?_ GE334.out) | exact HB.out)) hb); clear HO_5; clear BK334; clear HB; have HO_5 := n0_; have BK334 := n1_; have HB := n2_; clear n0_ n1_ n2_; (try clear hb); (try clear hb2); (try clear hk); (try clear hi)))
             repeat (go_quiet (first | (go_at_call 14; (with_reducible refine (awardingbodylaw20_awake.calls kj24  t369 _ A118.out).mono ?_); rintro e w119 ⟨rfl, hb⟩; have n0_ := Aside0.mk (Kd.R_below (by (with_reducible repeat (first | apply Kd.R_alloc | apply Kd.R_drewN | apply Kd.R_drew)); exact HO_5.out) hb); have n1_ := Aside0.mk (blk_below (g := gb334) (o := .cells #[.int .i64 t330, .int .i64 t331, .int .i64 t332] 23 (0, 0)) (by (with_reducible repeat (first | refine blk_drewN ?_ _ | refine blk_drew ?_ | refine blk_alloc ?_ _)); exact BK334.out) hb); have n2_ := Aside0.mk (below_step (by repeat (first | (with_reducible first | exact HB.out | apply below_alloc | apply pw_below_drewN | apply below_drew1 | refine below_set ?_ GE334.out) | exact HB.out)) hb); clear HO_5; clear BK334; clear HB; have HO_5 := n0_; have BK334 := n1_; have HB := n2_; clear n0_ n1_ n2_; (try clear hb); (try clear hb2); (try clear hk); (try clear hi))); try go_wp2_with (first | (go_at_call 14; (with_reducible refine (awardingbodylaw20_awake.calls kj24  t369 _ A118.out).mono ?_); rintro e w119 ⟨rfl, hb⟩; have n0_ := Aside0.mk (Kd.R_below (by (with_reducible repeat (first | apply Kd.R_alloc | apply Kd.R_drewN | apply Kd.R_drew)); exact HO_5.out) hb); have n1_ := Aside0.mk (blk_below (g := gb334) (o := .cells #[.int .i64 t330, .int .i64 t331, .int .i64 t332] 23 (0, 0)) (by (with_reducible repeat (first | refine blk_drewN ?_ _ | refine blk_drew ?_ | refine blk_alloc ?_ _)); exact BK334.out) hb); have n2_ := Aside0.mk (below_step (by repeat (first | (with_reducible first | exact HB.out | apply below_alloc | apply pw_below_drewN | apply below_drew1 | refine below_set ?_ GE334.out) | exact HB.out)) hb); clear HO_5; clear BK334; clear HB; have HO_5 := n0_; have BK334 := n1_; have HB := n2_; clear n0_ n1_ n2_; (try clear hb); (try clear hb2); (try clear hk); (try clear hi))))
             go_ret
             exact ⟨by first | rfl | (simp [errW_none, errW_some] <;> rfl) | (simp [*, errW_none, errW_some] <;> rfl), by repeat (first | (with_reducible first | exact HB.out | apply below_alloc | apply pw_below_drewN | apply below_drew1 | refine below_set ?_ GE334.out) | exact HB.out)⟩
            ·rw [if_neg c117] at H
             have c117b0 : decide (t339 < 0) = false := decide_eq_false c117
             clear c117
             by_cases c120 : 0 ≤ t339
             ·rw [if_pos c120] at H
              have c120b0 : decide (0 ≤ t339) = true := decide_eq_true c120
              clear c120
              by_cases c121 : t339 < (t335.length : Int)
              ·rw [if_pos c121] at H
               have c121b0 : decide (t339 < (t335.length : Int)) = true := decide_eq_true c121
               clear c121
               by_cases c122 : (rd t335 t339) = x10_1
               ·rw [if_pos c122] at H
                have c122b0 : ((rd t335 t339) == x10_1) = true := beq_iff_eq.mpr c122
                have c122b1 : ((rd t335 t339) != x10_1) = false := bne_eq_false_iff_eq.mpr c122
                clear c122
                replace H := Option.bind_eq_some_iff.mp H
                obtain ⟨t371, A1230, H⟩ := H
                replace H : (some t371) = some r := H
                have A123 := Aside0.mk A1230
                clear A1230
                obtain rfl := Option.some.inj H
                have p370 : 0 ≤ (t339 : Int) := of_decide_eq_true (by first | (with_reducible assumption) | assumption)
                have q370 : t339 < (t335.length : Int) := of_decide_eq_true (by first | (with_reducible assumption) | assumption)
                obtain ⟨ad370, e370, hx370_0⟩ := Kd.at_int (Kd.R_reads' HO_5.out).2.2 t339 p370 q370
                cases e370
                replace p370 := eq_true p370
                replace q370 := eq_true q370
                go_wp2_with (first | (go_at_call 14; (with_reducible refine (awardingbodylaw20_awake.calls kj24  t371 _ A123.out).mono ?_); rintro e w124 ⟨rfl, hb⟩; have n0_ := Aside0.mk (Kd.R_below (by (with_reducible repeat (first | apply Kd.R_alloc | apply Kd.R_drewN | apply Kd.R_drew)); exact HO_5.out) hb); have n1_ := Aside0.mk (blk_below (g := gb334) (o := .cells #[.int .i64 t330, .int .i64 t331, .int .i64 t332] 23 (0, 0)) (by (with_reducible repeat (first | refine blk_drewN ?_ _ | refine blk_drew ?_ | refine blk_alloc ?_ _)); exact BK334.out) hb); have n2_ := Aside0.mk (below_step (by repeat (first | (with_reducible first | exact HB.out | apply below_alloc | apply pw_below_drewN | apply below_drew1 | refine below_set ?_ GE334.out) | exact HB.out)) hb); clear HO_5; clear BK334; clear HB; have HO_5 := n0_; have BK334 := n1_; have HB := n2_; clear n0_ n1_ n2_; (try clear hb); (try clear hb2); (try clear hk); (try clear hi)))
                repeat (go_quiet (first | (go_at_call 14; (with_reducible refine (awardingbodylaw20_awake.calls kj24  t371 _ A123.out).mono ?_); rintro e w124 ⟨rfl, hb⟩; have n0_ := Aside0.mk (Kd.R_below (by (with_reducible repeat (first | apply Kd.R_alloc | apply Kd.R_drewN | apply Kd.R_drew)); exact HO_5.out) hb); have n1_ := Aside0.mk (blk_below (g := gb334) (o := .cells #[.int .i64 t330, .int .i64 t331, .int .i64 t332] 23 (0, 0)) (by (with_reducible repeat (first | refine blk_drewN ?_ _ | refine blk_drew ?_ | refine blk_alloc ?_ _)); exact BK334.out) hb); have n2_ := Aside0.mk (below_step (by repeat (first | (with_reducible first | exact HB.out | apply below_alloc | apply pw_below_drewN | apply below_drew1 | refine below_set ?_ GE334.out) | exact HB.out)) hb); clear HO_5; clear BK334; clear HB; have HO_5 := n0_; have BK334 := n1_; have HB := n2_; clear n0_ n1_ n2_; (try clear hb); (try clear hb2); (try clear hk); (try clear hi))); try go_wp2_with (first | (go_at_call 14; (with_reducible refine (awardingbodylaw20_awake.calls kj24  t371 _ A123.out).mono ?_); rintro e w124 ⟨rfl, hb⟩; have n0_ := Aside0.mk (Kd.R_below (by (with_reducible repeat (first | apply Kd.R_alloc | apply Kd.R_drewN | apply Kd.R_drew)); exact HO_5.out) hb); have n1_ := Aside0.mk (blk_below (g := gb334) (o := .cells #[.int .i64 t330, .int .i64 t331, .int .i64 t332] 23 (0, 0)) (by (with_reducible repeat (first | refine blk_drewN ?_ _ | refine blk_drew ?_ | refine blk_alloc ?_ _)); exact BK334.out) hb); have n2_ := Aside0.mk (below_step (by repeat (first | (with_reducible first | exact HB.out | apply below_alloc | apply pw_below_drewN | apply below_drew1 | refine below_set ?_ GE334.out) | exact HB.out)) hb); clear HO_5; clear BK334; clear HB; have HO_5 := n0_; have BK334 := n1_; have HB := n2_; clear n0_ n1_ n2_; (try clear hb); (try clear hb2); (try clear hk); (try clear hi))))
                go_ret
                exact ⟨by first | rfl | (simp [errW_none, errW_some] <;> rfl) | (simp [*, errW_none, errW_some] <;> rfl), by repeat (first | (with_reducible first | exact HB.out | apply below_alloc | apply pw_below_drewN | apply below_drew1 | refine below_set ?_ GE334.out) | exact HB.out)⟩
               ·rw [if_neg c122] at H
                exact absurd H (by simp)
              ·rw [if_neg c121] at H
               exact absurd H (by simp)
             ·rw [if_neg c120] at H
              exact absurd H (by simp)
          ·rw [if_neg c115] at H
           have c115b0 : decide (0 < x9_1) = false := decide_eq_false c115
           clear c115
           by_cases c125 : t339 < 0
           ·rw [if_pos c125] at H
            have c125b0 : decide (t339 < 0) = true := decide_eq_true c125
            clear c125
            replace H := Option.bind_eq_some_iff.mp H
            obtain ⟨t372, A1260, H⟩ := H
            replace H : (some t372) = some r := H
            have A126 := Aside0.mk A1260
            clear A1260
            obtain rfl := Option.some.inj H
            go_wp2_with (first | (go_at_call 14; (with_reducible refine (awardingbodylaw20_awake.calls kj24  t372 _ A126.out).mono ?_); rintro e w127 ⟨rfl, hb⟩; have n0_ := Aside0.mk (Kd.R_below (by (with_reducible repeat (first | apply Kd.R_alloc | apply Kd.R_drewN | apply Kd.R_drew)); exact HO_5.out) hb); have n1_ := Aside0.mk (blk_below (g := gb334) (o := .cells #[.int .i64 t330, .int .i64 t331, .int .i64 t332] 23 (0, 0)) (by (with_reducible repeat (first | refine blk_drewN ?_ _ | refine blk_drew ?_ | refine blk_alloc ?_ _)); exact BK334.out) hb); have n2_ := Aside0.mk (below_step (by repeat (first | (with_reducible first | exact HB.out | apply below_alloc | apply pw_below_drewN | apply below_drew1 | refine below_set ?_ GE334.out) | exact HB.out)) hb); clear HO_5; clear BK334; clear HB; have HO_5 := n0_; have BK334 := n1_; have HB := n2_; clear n0_ n1_ n2_; (try clear hb); (try clear hb2); (try clear hk); (try clear hi)))
            repeat (go_quiet (first | (go_at_call 14; (with_reducible refine (awardingbodylaw20_awake.calls kj24  t372 _ A126.out).mono ?_); rintro e w127 ⟨rfl, hb⟩; have n0_ := Aside0.mk (Kd.R_below (by (with_reducible repeat (first | apply Kd.R_alloc | apply Kd.R_drewN | apply Kd.R_drew)); exact HO_5.out) hb); have n1_ := Aside0.mk (blk_below (g := gb334) (o := .cells #[.int .i64 t330, .int .i64 t331, .int .i64 t332] 23 (0, 0)) (by (with_reducible repeat (first | refine blk_drewN ?_ _ | refine blk_drew ?_ | refine blk_alloc ?_ _)); exact BK334.out) hb); have n2_ := Aside0.mk (below_step (by repeat (first | (with_reducible first | exact HB.out | apply below_alloc | apply pw_below_drewN | apply below_drew1 | refine below_set ?_ GE334.out) | exact HB.out)) hb); clear HO_5; clear BK334; clear HB; have HO_5 := n0_; have BK334 := n1_; have HB := n2_; clear n0_ n1_ n2_; (try clear hb); (try clear hb2); (try clear hk); (try clear hi))); try go_wp2_with (first | (go_at_call 14; (with_reducible refine (awardingbodylaw20_awake.calls kj24  t372 _ A126.out).mono ?_); rintro e w127 ⟨rfl, hb⟩; have n0_ := Aside0.mk (Kd.R_below (by (with_reducible repeat (first | apply Kd.R_alloc | apply Kd.R_drewN | apply Kd.R_drew)); exact HO_5.out) hb); have n1_ := Aside0.mk (blk_below (g := gb334) (o := .cells #[.int .i64 t330, .int .i64 t331, .int .i64 t332] 23 (0, 0)) (by (with_reducible repeat (first | refine blk_drewN ?_ _ | refine blk_drew ?_ | refine blk_alloc ?_ _)); exact BK334.out) hb); have n2_ := Aside0.mk (below_step (by repeat (first | (with_reducible first | exact HB.out | apply below_alloc | apply pw_below_drewN | apply below_drew1 | refine below_set ?_ GE334.out) | exact HB.out)) hb); clear HO_5; clear BK334; clear HB; have HO_5 := n0_; have BK334 := n1_; have HB := n2_; clear n0_ n1_ n2_; (try clear hb); (try clear hb2); (try clear hk); (try clear hi))))
            go_ret
            exact ⟨by first | rfl | (simp [errW_none, errW_some] <;> rfl) | (simp [*, errW_none, errW_some] <;> rfl), by repeat (first | (with_reducible first | exact HB.out | apply below_alloc | apply pw_below_drewN | apply below_drew1 | refine below_set ?_ GE334.out) | exact HB.out)⟩
           ·rw [if_neg c125] at H
            have c125b0 : decide (t339 < 0) = false := decide_eq_false c125
            clear c125
            by_cases c128 : 0 ≤ t339
            ·rw [if_pos c128] at H
             have c128b0 : decide (0 ≤ t339) = true := decide_eq_true c128
             clear c128
             by_cases c129 : t339 < (t335.length : Int)
             ·rw [if_pos c129] at H
              have c129b0 : decide (t339 < (t335.length : Int)) = true := decide_eq_true c129
              clear c129
              by_cases c130 : (rd t335 t339) = x10_1
              ·rw [if_pos c130] at H
               have c130b0 : ((rd t335 t339) == x10_1) = true := beq_iff_eq.mpr c130
               have c130b1 : ((rd t335 t339) != x10_1) = false := bne_eq_false_iff_eq.mpr c130
               clear c130
               replace H := Option.bind_eq_some_iff.mp H
               obtain ⟨t374, A1310, H⟩ := H
               replace H : (some t374) = some r := H
               have A131 := Aside0.mk A1310
               clear A1310
               obtain rfl := Option.some.inj H
               have p373 : 0 ≤ (t339 : Int) := of_decide_eq_true (by first | (with_reducible assumption) | assumption)
               have q373 : t339 < (t335.length : Int) := of_decide_eq_true (by first | (with_reducible assumption) | assumption)
               obtain ⟨ad373, e373, hx373_0⟩ := Kd.at_int (Kd.R_reads' HO_5.out).2.2 t339 p373 q373
               cases e373
               replace p373 := eq_true p373
               replace q373 := eq_true q373
               go_wp2_with (first | (go_at_call 14; (with_reducible refine (awardingbodylaw20_awake.calls kj24  t374 _ A131.out).mono ?_); rintro e w132 ⟨rfl, hb⟩; have n0_ := Aside0.mk (Kd.R_below (by (with_reducible repeat (first | apply Kd.R_alloc | apply Kd.R_drewN | apply Kd.R_drew)); exact HO_5.out) hb); have n1_ := Aside0.mk (blk_below (g := gb334) (o := .cells #[.int .i64 t330, .int .i64 t331, .int .i64 t332] 23 (0, 0)) (by (with_reducible repeat (first | refine blk_drewN ?_ _ | refine blk_drew ?_ | refine blk_alloc ?_ _)); exact BK334.out) hb); have n2_ := Aside0.mk (below_step (by repeat (first | (with_reducible first | exact HB.out | apply below_alloc | apply pw_below_drewN | apply below_drew1 | refine below_set ?_ GE334.out) | exact HB.out)) hb); clear HO_5; clear BK334; clear HB; have HO_5 := n0_; have BK334 := n1_; have HB := n2_; clear n0_ n1_ n2_; (try clear hb); (try clear hb2); (try clear hk); (try clear hi)))
               repeat (go_quiet (first | (go_at_call 14; (with_reducible refine (awardingbodylaw20_awake.calls kj24  t374 _ A131.out).mono ?_); rintro e w132 ⟨rfl, hb⟩; have n0_ := Aside0.mk (Kd.R_below (by (with_reducible repeat (first | apply Kd.R_alloc | apply Kd.R_drewN | apply Kd.R_drew)); exact HO_5.out) hb); have n1_ := Aside0.mk (blk_below (g := gb334) (o := .cells #[.int .i64 t330, .int .i64 t331, .int .i64 t332] 23 (0, 0)) (by (with_reducible repeat (first | refine blk_drewN ?_ _ | refine blk_drew ?_ | refine blk_alloc ?_ _)); exact BK334.out) hb); have n2_ := Aside0.mk (below_step (by repeat (first | (with_reducible first | exact HB.out | apply below_alloc | apply pw_below_drewN | apply below_drew1 | refine below_set ?_ GE334.out) | exact HB.out)) hb); clear HO_5; clear BK334; clear HB; have HO_5 := n0_; have BK334 := n1_; have HB := n2_; clear n0_ n1_ n2_; (try clear hb); (try clear hb2); (try clear hk); (try clear hi))); try go_wp2_with (first | (go_at_call 14; (with_reducible refine (awardingbodylaw20_awake.calls kj24  t374 _ A131.out).mono ?_); rintro e w132 ⟨rfl, hb⟩; have n0_ := Aside0.mk (Kd.R_below (by (with_reducible repeat (first | apply Kd.R_alloc | apply Kd.R_drewN | apply Kd.R_drew)); exact HO_5.out) hb); have n1_ := Aside0.mk (blk_below (g := gb334) (o := .cells #[.int .i64 t330, .int .i64 t331, .int .i64 t332] 23 (0, 0)) (by (with_reducible repeat (first | refine blk_drewN ?_ _ | refine blk_drew ?_ | refine blk_alloc ?_ _)); exact BK334.out) hb); have n2_ := Aside0.mk (below_step (by repeat (first | (with_reducible first | exact HB.out | apply below_alloc | apply pw_below_drewN | apply below_drew1 | refine below_set ?_ GE334.out) | exact HB.out)) hb); clear HO_5; clear BK334; clear HB; have HO_5 := n0_; have BK334 := n1_; have HB := n2_; clear n0_ n1_ n2_; (try clear hb); (try clear hb2); (try clear hk); (try clear hi))))
               go_ret
               exact ⟨by first | rfl | (simp [errW_none, errW_some] <;> rfl) | (simp [*, errW_none, errW_some] <;> rfl), by repeat (first | (with_reducible first | exact HB.out | apply below_alloc | apply pw_below_drewN | apply below_drew1 | refine below_set ?_ GE334.out) | exact HB.out)⟩
              ·rw [if_neg c130] at H
               exact absurd H (by simp)
             ·rw [if_neg c129] at H
              exact absurd H (by simp)
            ·rw [if_neg c128] at H
             exact absurd H (by simp)

/-- THE ONE PURE STATEMENT of awardingbodylaw20_BubbleEmpty: yours. -/
def awardingbodylaw20_BubbleEmpty.Pure : Prop := ∀ (l0 : List Int), l0.length ≤ maxLen → l0.length * 8 ≤ 140737488351232 → (∀ x ∈ l0, (Lit.int .i64 x).wf = true) → ∃ k, awardingbodylaw20_BubbleEmpty.f k l0 = some true
theorem awardingbodylaw20_BubbleEmpty.walk (P : awardingbodylaw20_BubbleEmpty.Pure) (a0 : Option Addr) (len0 cap0 : Nat) (z0 : List Int) (w : World) (w0 : (a0 = none ∧ len0 = 0 ∧ cap0 = 0 ∧ z0 = []) ∨ ∃ x, a0 = some x ∧ len0 ≤ cap0 ∧ cap0 ≤ maxLen ∧ z0.length = cap0 ∧ (∀ i, i < z0.length → w.cell? (x.add i) = some (.int .i64 (z0.getD i 0))) ∧ ∀ n ∈ z0, (Lit.int .i64 n).wf = true) (y0 : len0 * 8 ≤ 140737488351232) :
  Calls Try.prog 7 #[.slice a0 len0 cap0] w fun e w' => e = .returned (.bool true) ∧ Below w.heap.size w w' := by
 obtain ⟨l0, rfl, hr0, hm0, hw0, hc0⟩ := ReadsInt.ofRowC w0
 obtain ⟨k, h⟩ := P l0 hm0 y0 hw0
 refine (awardingbodylaw20_BubbleEmpty.calls k _ _ l0 true w (Kd.C_of_reads (d := (0 : Int)) (h1 := fun _ => rfl) hr0) hc0 h).mono ?_
 rintro e w' ⟨rfl, hd⟩
 exact ⟨rfl, hd⟩

end Go.Proofs.Ythbmpjglkbhhgaa.Print
