-- Printed by a program of this session (wip/own_print.py) out of the translation; Lean checks it.
import Derived.Test.YtbgeoadaeihgkaaPrint0
import Derived.Test.YtbgeoadaeihgkaaPrint2
import Derived.Test.YtbgeoadaeihgkaaPrint5
import Derived.Test.YtbgeoadaeihgkaaPrint10
namespace Go.Proofs.Ytbgeoadaeihgkaa.Print
open Go.RowKit Go.Proofs.YtbgeoadaeihgkaaW.PrintWords Go.Proofs.YtbgeoadaeihgkaaW.PrintLast Go.Proofs.YtbgeoadaeihgkaaW.PrintMore
attribute [local go_sem] max2_int min2_int max_two min_two max_three min_three max_four min_four   -- for this text's walks alone
set_option linter.unusedVariables false
set_option linter.unusedSimpArgs false

/-! ### awardingbodylaw14_AccessMinutes: function 6 -/
def awardingbodylaw14_AccessMinutes.f (k : Nat) (a0 : Int) (a1 : Int) (a2 : Int) : Option (Bool) := (awardingbodymake_Cut.f a1 102).bind fun t317 => ((awardingbodymake_Cut.f a2 65).bind fun t318 => ((awardingbodymake_Cut.f a0 603).bind fun t321 => ((access_Minutes.f k a0 a1 a2).bind fun bt322 => ((awardingbodyref14_Minutes.f k a0 a1 a2).bind fun bt324 => ((access_Minutes.f k t321 t317 t318).bind fun bt326 => ((awardingbodyref14_Minutes.f k t321 t317 t318).bind fun bt328 => (if bt322.1 = bt324.1 then (if bt322.2 = bt324.2 then (if bt326.1 = bt328.1 then (if bt326.2 = bt328.2 then ((awardingbodylaw14_awake.f k).bind fun t330 => (some t330)) else (none)) else (none)) else (none)) else (none))))))))
theorem awardingbodylaw14_AccessMinutes.mono : ∀ a0 a1 a2 k, LeO (awardingbodylaw14_AccessMinutes.f k a0 a1 a2) (awardingbodylaw14_AccessMinutes.f (k + 1) a0 a1 a2) := by
  intro a0 a1 a2 k
  unfold awardingbodylaw14_AccessMinutes.f
  repeat' first
      | (with_reducible exact access_Minutes.mono _ _ _ _)
      | (with_reducible exact awardingbodylaw14_awake.mono _)
      | (with_reducible exact awardingbodyref14_Minutes.mono _ _ _ _)
      | (with_reducible exact LeO.refl _)
      | (with_reducible exact LeO.none _)
      | (with_reducible refine LeO.ite ?_ ?_)
      | (with_reducible refine LeO.bind ?_ (fun _ => ?_))
      | exact access_Minutes.mono _ _ _ _
      | exact awardingbodylaw14_awake.mono _
      | exact awardingbodyref14_Minutes.mono _ _ _ _
      | exact LeO.none _
      | refine LeO.ite ?_ ?_
      | refine LeO.bind ?_ (fun _ => ?_)
set_option maxHeartbeats 8000000 in
set_option maxRecDepth 100000 in
theorem awardingbodylaw14_AccessMinutes.calls (k : Nat) (a0 : Int) (a1 : Int) (a2 : Int) (r : Bool) (w : World) (h : awardingbodylaw14_AccessMinutes.f k a0 a1 a2 = some r) :
    Calls Try.prog 6 #[.int .i64 a0, .int .i64 a1, .int .i64 a2] w fun e w' => e = .returned (.bool r) ∧ Below w.heap.size w w' := by
 have hu38 := Try.underlying38
 have HB := Aside0.mk (Below.refl w.heap.size w)
 have H : ((awardingbodymake_Cut.f a1 102).bind fun t317 => ((awardingbodymake_Cut.f a2 65).bind fun t318 => ((awardingbodymake_Cut.f a0 603).bind fun t321 => ((access_Minutes.f k a0 a1 a2).bind fun bt322 => ((awardingbodyref14_Minutes.f k a0 a1 a2).bind fun bt324 => ((access_Minutes.f k t321 t317 t318).bind fun bt326 => ((awardingbodyref14_Minutes.f k t321 t317 t318).bind fun bt328 => (if bt322.1 = bt324.1 then (if bt322.2 = bt324.2 then (if bt326.1 = bt328.1 then (if bt326.2 = bt328.2 then ((awardingbodylaw14_awake.f k).bind fun t330 => (some t330)) else (none)) else (none)) else (none)) else (none))))))))) = some r := h
 clear h
 replace H := Option.bind_eq_some_iff.mp H
 obtain ⟨t317, A40, H⟩ := H
 replace H : ((awardingbodymake_Cut.f a2 65).bind fun t318 => ((awardingbodymake_Cut.f a0 603).bind fun t321 => ((access_Minutes.f k a0 a1 a2).bind fun bt322 => ((awardingbodyref14_Minutes.f k a0 a1 a2).bind fun bt324 => ((access_Minutes.f k t321 t317 t318).bind fun bt326 => ((awardingbodyref14_Minutes.f k t321 t317 t318).bind fun bt328 => (if bt322.1 = bt324.1 then (if bt322.2 = bt324.2 then (if bt326.1 = bt328.1 then (if bt326.2 = bt328.2 then ((awardingbodylaw14_awake.f k).bind fun t330 => (some t330)) else (none)) else (none)) else (none)) else (none)))))))) = some r := H
 have A4 := Aside0.mk A40
 clear A40
 replace H := Option.bind_eq_some_iff.mp H
 obtain ⟨t318, A50, H⟩ := H
 replace H : ((awardingbodymake_Cut.f a0 603).bind fun t321 => ((access_Minutes.f k a0 a1 a2).bind fun bt322 => ((awardingbodyref14_Minutes.f k a0 a1 a2).bind fun bt324 => ((access_Minutes.f k t321 t317 t318).bind fun bt326 => ((awardingbodyref14_Minutes.f k t321 t317 t318).bind fun bt328 => (if bt322.1 = bt324.1 then (if bt322.2 = bt324.2 then (if bt326.1 = bt328.1 then (if bt326.2 = bt328.2 then ((awardingbodylaw14_awake.f k).bind fun t330 => (some t330)) else (none)) else (none)) else (none)) else (none))))))) = some r := H
 have A5 := Aside0.mk A50
 clear A50
 replace H := Option.bind_eq_some_iff.mp H
 obtain ⟨t321, A60, H⟩ := H
 replace H : ((access_Minutes.f k a0 a1 a2).bind fun bt322 => ((awardingbodyref14_Minutes.f k a0 a1 a2).bind fun bt324 => ((access_Minutes.f k t321 t317 t318).bind fun bt326 => ((awardingbodyref14_Minutes.f k t321 t317 t318).bind fun bt328 => (if bt322.1 = bt324.1 then (if bt322.2 = bt324.2 then (if bt326.1 = bt328.1 then (if bt326.2 = bt328.2 then ((awardingbodylaw14_awake.f k).bind fun t330 => (some t330)) else (none)) else (none)) else (none)) else (none)))))) = some r := H
 have A6 := Aside0.mk A60
 clear A60
 replace H := Option.bind_eq_some_iff.mp H
 obtain ⟨⟨t322, t323⟩, A70, H⟩ := H
 replace H : ((awardingbodyref14_Minutes.f k a0 a1 a2).bind fun bt324 => ((access_Minutes.f k t321 t317 t318).bind fun bt326 => ((awardingbodyref14_Minutes.f k t321 t317 t318).bind fun bt328 => (if t322 = bt324.1 then (if t323 = bt324.2 then (if bt326.1 = bt328.1 then (if bt326.2 = bt328.2 then ((awardingbodylaw14_awake.f k).bind fun t330 => (some t330)) else (none)) else (none)) else (none)) else (none))))) = some r := H
 have A7 := Aside0.mk A70
 clear A70
 replace H := Option.bind_eq_some_iff.mp H
 obtain ⟨⟨t324, t325⟩, A80, H⟩ := H
 replace H : ((access_Minutes.f k t321 t317 t318).bind fun bt326 => ((awardingbodyref14_Minutes.f k t321 t317 t318).bind fun bt328 => (if t322 = t324 then (if t323 = t325 then (if bt326.1 = bt328.1 then (if bt326.2 = bt328.2 then ((awardingbodylaw14_awake.f k).bind fun t330 => (some t330)) else (none)) else (none)) else (none)) else (none)))) = some r := H
 have A8 := Aside0.mk A80
 clear A80
 replace H := Option.bind_eq_some_iff.mp H
 obtain ⟨⟨t326, t327⟩, A90, H⟩ := H
 replace H : ((awardingbodyref14_Minutes.f k t321 t317 t318).bind fun bt328 => (if t322 = t324 then (if t323 = t325 then (if t326 = bt328.1 then (if t327 = bt328.2 then ((awardingbodylaw14_awake.f k).bind fun t330 => (some t330)) else (none)) else (none)) else (none)) else (none))) = some r := H
 have A9 := Aside0.mk A90
 clear A90
 replace H := Option.bind_eq_some_iff.mp H
 obtain ⟨⟨t328, t329⟩, A100, H⟩ := H
 replace H : (if t322 = t324 then (if t323 = t325 then (if t326 = t328 then (if t327 = t329 then ((awardingbodylaw14_awake.f k).bind fun t330 => (some t330)) else (none)) else (none)) else (none)) else (none)) = some r := H
 have A10 := Aside0.mk A100
 clear A100
 by_cases c11 : t322 = t324
 ·rw [if_pos c11] at H
  have c11b0 : (t322 == t324) = true := beq_iff_eq.mpr c11
  have c11b1 : (t322 != t324) = false := bne_eq_false_iff_eq.mpr c11
  clear c11
  by_cases c12 : t323 = t325
  ·rw [if_pos c12] at H
   have c12b0 : (t323 == t325) = true := beq_iff_eq.mpr c12
   have c12b1 : (t323 != t325) = false := bne_eq_false_iff_eq.mpr c12
   clear c12
   by_cases c13 : t326 = t328
   ·rw [if_pos c13] at H
    have c13b0 : (t326 == t328) = true := beq_iff_eq.mpr c13
    have c13b1 : (t326 != t328) = false := bne_eq_false_iff_eq.mpr c13
    clear c13
    by_cases c14 : t327 = t329
    ·rw [if_pos c14] at H
     have c14b0 : (t327 == t329) = true := beq_iff_eq.mpr c14
     have c14b1 : (t327 != t329) = false := bne_eq_false_iff_eq.mpr c14
     clear c14
     replace H := Option.bind_eq_some_iff.mp H
     obtain ⟨t330, A150, H⟩ := H
     replace H : (some t330) = some r := H
     have A15 := Aside0.mk A150
     clear A150
     obtain rfl := Option.some.inj H
     go_enter Try.func6, Try.ntmps6
     go_wp2_with (first | ((with_reducible refine gate_callee (f := 17) rfl ?_); refine goesL_ (some 22) rfl rfl Try.func17 (by kernel_rfl) rfl #[.int .i64 a1, .int .i64 102] rfl (by (try simp only [List.map_toArray, List.map_cons, List.map_nil]); first | done | rfl | (simp only [List.length_drop, List.length_take]; rfl)) ?_; (with_reducible refine (awardingbodymake_Cut.calls a1 102 t317 _ A4.out).mono ?_); rintro e w' ⟨rfl, ⟨nd, rfl⟩⟩; refine ⟨_, rfl, ?_⟩) | ((with_reducible refine gate_callee (f := 17) rfl ?_); refine goesL_ (some 24) rfl rfl Try.func17 (by kernel_rfl) rfl #[.int .i64 a2, .int .i64 65] rfl (by (try simp only [List.map_toArray, List.map_cons, List.map_nil]); first | done | rfl | (simp only [List.length_drop, List.length_take]; rfl)) ?_; (with_reducible refine (awardingbodymake_Cut.calls a2 65 t318 _ A5.out).mono ?_); rintro e w' ⟨rfl, ⟨nd, rfl⟩⟩; refine ⟨_, rfl, ?_⟩) | ((with_reducible refine gate_dst (N := 7) rfl ?_); refine box_event ?hg (N := 7) ?hd (cs := #[.int .i64 0, .int .i64 0]) (t := 38) ?hr ?_; (case hd => rfl); (case hg => rfl); (case hr => first | (go_simp; done) | (go_simp; rfl)); intro gb319 hg w16 hbox hb; have n0_ := Aside0.mk (below_step (by repeat (first | (with_reducible first | exact HB.out | apply below_alloc | apply pw_below_drewN | apply below_drew1) | exact HB.out)) hb); have n1_ := Aside0.mk (hbox); have n2_ := Aside0.mk ((by rw [hg]; exact (below_size (by repeat (first | (with_reducible first | exact HB.out | apply below_alloc | apply pw_below_drewN | apply below_drew1) | exact HB.out))) : w.heap.size ≤ gb319)); have n3_ := Aside0.mk ((by rw [hg]; exact (below_size (by repeat (first | (with_reducible first | exact HB.out | apply below_alloc | apply pw_below_drewN | apply below_drew1) | exact HB.out))) : w.heap.size ≤ gb319)); clear HB; have HB := n0_; have BK319 := n1_; have GW319 := n2_; have GE319 := n3_; clear n0_ n1_ n2_ n3_; clear hb hbox hg) | ((with_reducible refine gate_dst (N := 8) rfl ?_); refine box_event ?hg (N := 8) ?hd (cs := #[.int .i64 0, .int .i64 0]) (t := 38) ?hr ?_; (case hd => rfl); (case hg => rfl); (case hr => first | (go_simp; done) | (go_simp; rfl)); intro gb320 hg w17 hbox hb; have n0_ := Aside0.mk (blk_below (g := gb319) (o := .cells #[.int .i64 0, .int .i64 0] 38 (0, 0)) (by (with_reducible repeat (first | refine blk_drewN ?_ _ | refine blk_drew ?_ | refine blk_alloc ?_ _)); exact BK319.out) hb); have n1_ := Aside0.mk (below_step (by repeat (first | (with_reducible first | exact HB.out | apply below_alloc | apply pw_below_drewN | apply below_drew1 | refine below_set ?_ GE319.out) | exact HB.out)) hb); have n2_ := Aside0.mk (hbox); have n3_ := Aside0.mk ((by rw [hg]; exact (below_size (by repeat (first | (with_reducible first | exact HB.out | apply below_alloc | apply pw_below_drewN | apply below_drew1 | refine below_set ?_ GE319.out) | exact HB.out))) : w.heap.size ≤ gb320)); have n4_ := Aside0.mk ((by rw [hg]; exact (below_size (by repeat (first | (with_reducible first | exact HB.out | apply below_alloc | apply pw_below_drewN | apply below_drew1 | refine below_set ?_ GE319.out) | exact HB.out))) : w.heap.size ≤ gb320)); have n5_ := Aside0.mk ((by rw [hg]; exact Nat.ne_of_lt (blk_lt (g := gb319) (o := .cells #[.int .i64 0, .int .i64 0] 38 (0, 0)) (by (with_reducible repeat (first | refine blk_drewN ?_ _ | refine blk_drew ?_ | refine blk_alloc ?_ _)); exact BK319.out)) : gb319 ≠ gb320)); have n6_ := Aside0.mk ((by rw [hg]; exact Nat.ne_of_gt (blk_lt (g := gb319) (o := .cells #[.int .i64 0, .int .i64 0] 38 (0, 0)) (by (with_reducible repeat (first | refine blk_drewN ?_ _ | refine blk_drew ?_ | refine blk_alloc ?_ _)); exact BK319.out)) : gb320 ≠ gb319)); clear BK319; clear HB; have BK319 := n0_; have HB := n1_; have BK320 := n2_; have GW320 := n3_; have GE320 := n4_; have NB319_320 := n5_; have NB320_319 := n6_; clear n0_ n1_ n2_ n3_ n4_ n5_ n6_; clear hb hbox hg; have hnb18 := NB319_320.out; have hnc18 := NB320_319.out; have hcz19_0 : w17.cell? ⟨gb319, 0, none⟩ = some (.int .i64 0) := (blk_cell BK319.out 0).trans rfl; have hcz19_1 : w17.cell? ⟨gb319, 1, none⟩ = some (.int .i64 0) := (blk_cell BK319.out 1).trans rfl; have hfz19_0 := blk_frozen BK319.out 0; have hfz19_1 := blk_frozen BK319.out 1; have hcz20_0 : w17.cell? ⟨gb320, 0, none⟩ = some (.int .i64 0) := (blk_cell BK320.out 0).trans rfl; have hcz20_1 : w17.cell? ⟨gb320, 1, none⟩ = some (.int .i64 0) := (blk_cell BK320.out 1).trans rfl; have hfz20_0 := blk_frozen BK320.out 0; have hfz20_1 := blk_frozen BK320.out 1) | ((with_reducible refine gate_callee (f := 17) rfl ?_); refine goesL_ (some 27) rfl rfl Try.func17 (by kernel_rfl) rfl #[.int .i64 a0, .int .i64 603] rfl (by (try simp only [List.map_toArray, List.map_cons, List.map_nil]); first | done | rfl | (simp only [List.length_drop, List.length_take]; rfl)) ?_; (with_reducible refine (awardingbodymake_Cut.calls a0 603 t321 _ A6.out).mono ?_); rintro e w' ⟨rfl, ⟨nd, rfl⟩⟩; refine ⟨_, rfl, ?_⟩) | ((with_reducible refine gate_callee (f := 25) rfl ?_); refine goesL_ (some 31) rfl rfl Try.func25 (by kernel_rfl) rfl #[.int .i64 a0, .agg #[.int .i64 a1, .int .i64 a2]] rfl (by (try simp only [List.map_toArray, List.map_cons, List.map_nil]); first | done | rfl | (simp only [List.length_drop, List.length_take]; rfl)) ?_; (with_reducible refine (access_Minutes.calls k a0 a1 a2 t322 t323 _ A7.out).mono ?_); rintro e w21 ⟨rfl, hb⟩; refine ⟨_, rfl, ?_⟩; have n0_ := Aside0.mk (blk_below (g := gb319) (o := .cells #[.int .i64 a1, .int .i64 a2] 38 (0, 0)) (by (with_reducible repeat (first | refine blk_drewN ?_ _ | refine blk_drew ?_ | refine blk_alloc ?_ _)); refine blk_far ?_ NB319_320.out _; (with_reducible repeat (first | refine blk_drewN ?_ _ | refine blk_drew ?_ | refine blk_alloc ?_ _)); refine blk_far ?_ NB319_320.out _; (with_reducible repeat (first | refine blk_drewN ?_ _ | refine blk_drew ?_ | refine blk_alloc ?_ _)); refine blk_put (cs := #[.int .i64 a1, .int .i64 0]) ?_ 1 _ rfl; (with_reducible repeat (first | refine blk_drewN ?_ _ | refine blk_drew ?_ | refine blk_alloc ?_ _)); refine blk_put (cs := #[.int .i64 0, .int .i64 0]) ?_ 0 _ rfl; (with_reducible repeat (first | refine blk_drewN ?_ _ | refine blk_drew ?_ | refine blk_alloc ?_ _)); exact BK319.out) hb); have n1_ := Aside0.mk (blk_below (g := gb320) (o := .cells #[.int .i64 t317, .int .i64 t318] 38 (0, 0)) (by (with_reducible repeat (first | refine blk_drewN ?_ _ | refine blk_drew ?_ | refine blk_alloc ?_ _)); refine blk_put (cs := #[.int .i64 t317, .int .i64 0]) ?_ 1 _ rfl; (with_reducible repeat (first | refine blk_drewN ?_ _ | refine blk_drew ?_ | refine blk_alloc ?_ _)); refine blk_put (cs := #[.int .i64 0, .int .i64 0]) ?_ 0 _ rfl; (with_reducible repeat (first | refine blk_drewN ?_ _ | refine blk_drew ?_ | refine blk_alloc ?_ _)); refine blk_far ?_ NB320_319.out _; (with_reducible repeat (first | refine blk_drewN ?_ _ | refine blk_drew ?_ | refine blk_alloc ?_ _)); refine blk_far ?_ NB320_319.out _; (with_reducible repeat (first | refine blk_drewN ?_ _ | refine blk_drew ?_ | refine blk_alloc ?_ _)); exact BK320.out) hb); have n2_ := Aside0.mk (below_step (by repeat (first | (with_reducible first | exact HB.out | apply below_alloc | apply pw_below_drewN | apply below_drew1 | refine below_set ?_ GE319.out | refine below_set ?_ GE320.out) | exact HB.out)) hb); clear BK319; clear BK320; clear HB; have BK319 := n0_; have BK320 := n1_; have HB := n2_; clear n0_ n1_ n2_; (try clear hb); (try clear hb2); (try clear hk); (try clear hi); have hcz22_0 : w21.cell? ⟨gb319, 0, none⟩ = some (.int .i64 a1) := (blk_cell BK319.out 0).trans rfl; have hcz22_1 : w21.cell? ⟨gb319, 1, none⟩ = some (.int .i64 a2) := (blk_cell BK319.out 1).trans rfl; have hfz22_0 := blk_frozen BK319.out 0; have hfz22_1 := blk_frozen BK319.out 1) | ((with_reducible refine gate_callee (f := 26) rfl ?_); refine goesL_ (some 37) rfl rfl Try.func26 (by kernel_rfl) rfl #[.int .i64 a0, .agg #[.int .i64 a1, .int .i64 a2]] rfl (by (try simp only [List.map_toArray, List.map_cons, List.map_nil]); first | done | rfl | (simp only [List.length_drop, List.length_take]; rfl)) ?_; (with_reducible refine (awardingbodyref14_Minutes.calls k a0 a1 a2 t324 t325 _ A8.out).mono ?_); rintro e w23 ⟨rfl, hb⟩; refine ⟨_, rfl, ?_⟩; have n0_ := Aside0.mk (blk_below (g := gb319) (o := .cells #[.int .i64 a1, .int .i64 a2] 38 (0, 0)) (by (with_reducible repeat (first | refine blk_drewN ?_ _ | refine blk_drew ?_ | refine blk_alloc ?_ _)); exact BK319.out) hb); have n1_ := Aside0.mk (blk_below (g := gb320) (o := .cells #[.int .i64 t317, .int .i64 t318] 38 (0, 0)) (by (with_reducible repeat (first | refine blk_drewN ?_ _ | refine blk_drew ?_ | refine blk_alloc ?_ _)); exact BK320.out) hb); have n2_ := Aside0.mk (below_step (by repeat (first | (with_reducible first | exact HB.out | apply below_alloc | apply pw_below_drewN | apply below_drew1 | refine below_set ?_ GE319.out | refine below_set ?_ GE320.out) | exact HB.out)) hb); clear BK319; clear BK320; clear HB; have BK319 := n0_; have BK320 := n1_; have HB := n2_; clear n0_ n1_ n2_; (try clear hb); (try clear hb2); (try clear hk); (try clear hi); have hcz24_0 : w23.cell? ⟨gb320, 0, none⟩ = some (.int .i64 t317) := (blk_cell BK320.out 0).trans rfl; have hcz24_1 : w23.cell? ⟨gb320, 1, none⟩ = some (.int .i64 t318) := (blk_cell BK320.out 1).trans rfl; have hfz24_0 := blk_frozen BK320.out 0; have hfz24_1 := blk_frozen BK320.out 1) | ((with_reducible refine gate_callee (f := 25) rfl ?_); refine goesL_ (some 43) rfl rfl Try.func25 (by kernel_rfl) rfl #[.int .i64 t321, .agg #[.int .i64 t317, .int .i64 t318]] rfl (by (try simp only [List.map_toArray, List.map_cons, List.map_nil]); first | done | rfl | (simp only [List.length_drop, List.length_take]; rfl)) ?_; (with_reducible refine (access_Minutes.calls k t321 t317 t318 t326 t327 _ A9.out).mono ?_); rintro e w25 ⟨rfl, hb⟩; refine ⟨_, rfl, ?_⟩; have n0_ := Aside0.mk (blk_below (g := gb319) (o := .cells #[.int .i64 a1, .int .i64 a2] 38 (0, 0)) (by (with_reducible repeat (first | refine blk_drewN ?_ _ | refine blk_drew ?_ | refine blk_alloc ?_ _)); exact BK319.out) hb); have n1_ := Aside0.mk (blk_below (g := gb320) (o := .cells #[.int .i64 t317, .int .i64 t318] 38 (0, 0)) (by (with_reducible repeat (first | refine blk_drewN ?_ _ | refine blk_drew ?_ | refine blk_alloc ?_ _)); exact BK320.out) hb); have n2_ := Aside0.mk (below_step (by repeat (first | (with_reducible first | exact HB.out | apply below_alloc | apply pw_below_drewN | apply below_drew1 | refine below_set ?_ GE319.out | refine below_set ?_ GE320.out) | exact HB.out)) hb); clear BK319; clear BK320; clear HB; have BK319 := n0_; have BK320 := n1_; have HB := n2_; clear n0_ n1_ n2_; (try clear hb); (try clear hb2); (try clear hk); (try clear hi); have hcz26_0 : w25.cell? ⟨gb320, 0, none⟩ = some (.int .i64 t317) := (blk_cell BK320.out 0).trans rfl; have hcz26_1 : w25.cell? ⟨gb320, 1, none⟩ = some (.int .i64 t318) := (blk_cell BK320.out 1).trans rfl; have hfz26_0 := blk_frozen BK320.out 0; have hfz26_1 := blk_frozen BK320.out 1) | ((with_reducible refine gate_callee (f := 26) rfl ?_); refine goesL_ (some 49) rfl rfl Try.func26 (by kernel_rfl) rfl #[.int .i64 t321, .agg #[.int .i64 t317, .int .i64 t318]] rfl (by (try simp only [List.map_toArray, List.map_cons, List.map_nil]); first | done | rfl | (simp only [List.length_drop, List.length_take]; rfl)) ?_; (with_reducible refine (awardingbodyref14_Minutes.calls k t321 t317 t318 t328 t329 _ A10.out).mono ?_); rintro e w27 ⟨rfl, hb⟩; refine ⟨_, rfl, ?_⟩; have n0_ := Aside0.mk (blk_below (g := gb319) (o := .cells #[.int .i64 a1, .int .i64 a2] 38 (0, 0)) (by (with_reducible repeat (first | refine blk_drewN ?_ _ | refine blk_drew ?_ | refine blk_alloc ?_ _)); exact BK319.out) hb); have n1_ := Aside0.mk (blk_below (g := gb320) (o := .cells #[.int .i64 t317, .int .i64 t318] 38 (0, 0)) (by (with_reducible repeat (first | refine blk_drewN ?_ _ | refine blk_drew ?_ | refine blk_alloc ?_ _)); exact BK320.out) hb); have n2_ := Aside0.mk (below_step (by repeat (first | (with_reducible first | exact HB.out | apply below_alloc | apply pw_below_drewN | apply below_drew1 | refine below_set ?_ GE319.out | refine below_set ?_ GE320.out) | exact HB.out)) hb); clear BK319; clear BK320; clear HB; have BK319 := n0_; have BK320 := n1_; have HB := n2_; clear n0_ n1_ n2_; (try clear hb); (try clear hb2); (try clear hk); (try clear hi)) | (go_at_call 16; (with_reducible refine (awardingbodylaw14_awake.calls k  t330 _ A15.out).mono ?_); rintro e w28 ⟨rfl, hb⟩; have n0_ := Aside0.mk (blk_below (g := gb319) (o := .cells #[.int .i64 a1, .int .i64 a2] 38 (0, 0)) (by (with_reducible repeat (first | refine blk_drewN ?_ _ | refine blk_drew ?_ | refine blk_alloc ?_ _)); exact BK319.out) hb); have n1_ := Aside0.mk (blk_below (g := gb320) (o := .cells #[.int .i64 t317, .int .i64 t318] 38 (0, 0)) (by (with_reducible repeat (first | refine blk_drewN ?_ _ | refine blk_drew ?_ | refine blk_alloc ?_ _)); exact BK320.out) hb); have n2_ := Aside0.mk (below_step (by repeat (first | (with_reducible first | exact HB.out | apply below_alloc | apply pw_below_drewN | apply below_drew1 | refine below_set ?_ GE319.out | refine below_set ?_ GE320.out) | exact HB.out)) hb); clear BK319; clear BK320; clear HB; have BK319 := n0_; have BK320 := n1_; have HB := n2_; clear n0_ n1_ n2_; (try clear hb); (try clear hb2); (try clear hk); (try clear hi)))
     go_ret
     exact ⟨by first | rfl | (simp [errW_none, errW_some] <;> rfl) | (simp [*, errW_none, errW_some] <;> rfl), by repeat (first | (with_reducible first | exact HB.out | apply below_alloc | apply pw_below_drewN | apply below_drew1 | refine below_set ?_ GE319.out | refine below_set ?_ GE320.out) | exact HB.out)⟩
    ·rw [if_neg c14] at H
     exact absurd H (by simp)
   ·rw [if_neg c13] at H
    exact absurd H (by simp)
  ·rw [if_neg c12] at H
   exact absurd H (by simp)
 ·rw [if_neg c11] at H
  exact absurd H (by simp)

/-- THE ONE PURE STATEMENT of awardingbodylaw14_AccessMinutes: yours. -/
def awardingbodylaw14_AccessMinutes.Pure : Prop := ∀ (a0 : Int) (a1 : Int) (a2 : Int), (Lit.int .i64 a0).wf = true → (Lit.int .i64 a1).wf = true → (Lit.int .i64 a2).wf = true → ∃ k, awardingbodylaw14_AccessMinutes.f k a0 a1 a2 = some true
theorem awardingbodylaw14_AccessMinutes.walk (P : awardingbodylaw14_AccessMinutes.Pure) (a0 : Int) (a1 : Int) (a2 : Int) (w : World) (w0 : (Lit.int .i64 a0).wf = true) (w1 : (Lit.int .i64 a1).wf = true) (w2 : (Lit.int .i64 a2).wf = true) :
  Calls Try.prog 6 #[.int .i64 a0, .int .i64 a1, .int .i64 a2] w fun e w' => e = .returned (.bool true) ∧ Below w.heap.size w w' := by
 obtain ⟨k, h⟩ := P a0 a1 a2 w0 w1 w2
 refine (awardingbodylaw14_AccessMinutes.calls k a0 a1 a2 true w h).mono ?_
 rintro e w' ⟨rfl, hd⟩
 exact ⟨rfl, hd⟩

end Go.Proofs.Ytbgeoadaeihgkaa.Print
