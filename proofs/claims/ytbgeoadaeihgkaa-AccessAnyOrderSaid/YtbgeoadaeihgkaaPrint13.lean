-- Printed by a program of this session (wip/own_print.py) out of the translation; Lean checks it.
import Derived.Test.YtbgeoadaeihgkaaPrint0
import Derived.Test.YtbgeoadaeihgkaaPrint1
import Derived.Test.YtbgeoadaeihgkaaPrint2
import Derived.Test.YtbgeoadaeihgkaaPrint4
import Derived.Test.YtbgeoadaeihgkaaPrint5
import Derived.Test.YtbgeoadaeihgkaaPrint7
import Derived.Test.YtbgeoadaeihgkaaPrint12
namespace Go.Proofs.Ytbgeoadaeihgkaa.Print
open Go.RowKit Go.Proofs.YtbgeoadaeihgkaaW.PrintWords Go.Proofs.YtbgeoadaeihgkaaW.PrintLast Go.Proofs.YtbgeoadaeihgkaaW.PrintMore
attribute [local go_sem] max2_int min2_int max_two min_two max_three min_three max_four min_four   -- for this text's walks alone
set_option linter.unusedVariables false
set_option linter.unusedSimpArgs false

attribute [local go_sem high] eqA38
/-! ### awardingbodylaw14_AccessAnyOrder: function 7 -/
mutual
def awardingbodylaw14_AccessAnyOrder.l0 : Nat → Int → List (S28) → List (S49) → List Int → List Int → List (S28) → Int → Option (Bool)
  | 0, _, _, _, _, _, _, _ => none
  | k + 1, x1, x6, x7, x8, x9, x10, x12 => if x12 < (x8.length : Int) then (if 0 ≤ x12 then (if 0 ≤ (rd x8 x12) then (if (rd x8 x12) < (x6.length : Int) then (if x10.length < 4398046511104 then (awardingbodylaw14_AccessAnyOrder.l0 k x1 x6 x7 x8 x9 (x10 ++ [(⟨(rd_T28 x6 (rd x8 x12)).f0, (rd_T28 x6 (rd x8 x12)).f1, (rd_T28 x6 (rd x8 x12)).f2, (rd_T28 x6 (rd x8 x12)).f3⟩ : S28)]) (wrap64 (x12 + 1))) else (none)) else (none)) else (none)) else (none)) else (awardingbodylaw14_AccessAnyOrder.l1 k x1 x6 x7 x9 x10 ([] : List (S49)) 0)
def awardingbodylaw14_AccessAnyOrder.l1 : Nat → Int → List (S28) → List (S49) → List Int → List (S28) → List (S49) → Int → Option (Bool)
  | 0, _, _, _, _, _, _, _ => none
  | k + 1, x1, x6, x7, x9, x10, x11, x13 => if x13 < (x9.length : Int) then (if 0 ≤ x13 then (if 0 ≤ (rd x9 x13) then (if (rd x9 x13) < (x7.length : Int) then (if x11.length < 3518437208883 then (awardingbodylaw14_AccessAnyOrder.l1 k x1 x6 x7 x9 x10 (x11 ++ [(⟨(rd_T49 x7 (rd x9 x13)).f0, (rd_T49 x7 (rd x9 x13)).f1, (rd_T49 x7 (rd x9 x13)).f2, (rd_T49 x7 (rd x9 x13)).f3, (rd_T49 x7 (rd x9 x13)).f4⟩ : S49)]) (wrap64 (x13 + 1))) else (none)) else (none)) else (none)) else (none)) else ((access_Grant.f k x6 x7 0 x1).bind fun bt407 => ((access_Grant.f k x10 x11 0 x1).bind fun bt411 => (if bt407.2.2 = 0 then (if bt411.2.2 = 0 then (if (bt407.1 == bt411.1 && (bt407.2.1 == bt411.2.1)) = true then ((awardingbodylaw14_awake.f k).bind fun t415 => (some t415)) else (none)) else (none)) else (none))))
end
def awardingbodylaw14_AccessAnyOrder.f (k : Nat) (l0 : List Int) (a1 : Int) : Option (Bool) := (awardingbodymake_New.f l0).bind fun bt377 => ((awardingbodymake_Tape_Rules.f k bt377.1 bt377.2 0).bind fun bt380 => ((awardingbodymake_Tape_Evidence.f k bt377.1 bt380.2).bind fun bt384 => ((awardingbodymake_Tape_Order.f k bt377.1 bt384.2 (bt380.1.length : Int)).bind fun bt388 => ((awardingbodymake_Tape_Mixed.f k bt377.1 bt388.2 (bt384.1.length : Int)).bind fun bt392 => ((awardingbodymake_Cut.f a1 30).bind fun t396 => (awardingbodylaw14_AccessAnyOrder.l0 k t396 bt380.1 bt384.1 bt388.1 bt392.1 ([] : List (S28)) 0))))))
theorem awardingbodylaw14_AccessAnyOrder.mono_l : ∀ k, (∀ y0 y1 y2 y3 y4 y5 y6, LeO (awardingbodylaw14_AccessAnyOrder.l0 k y0 y1 y2 y3 y4 y5 y6) (awardingbodylaw14_AccessAnyOrder.l0 (k + 1) y0 y1 y2 y3 y4 y5 y6)) ∧ (∀ y0 y1 y2 y3 y4 y5 y6, LeO (awardingbodylaw14_AccessAnyOrder.l1 k y0 y1 y2 y3 y4 y5 y6) (awardingbodylaw14_AccessAnyOrder.l1 (k + 1) y0 y1 y2 y3 y4 y5 y6))
  | 0 => ⟨fun _ _ _ _ _ _ _ r h => by simp [awardingbodylaw14_AccessAnyOrder.l0] at h, fun _ _ _ _ _ _ _ r h => by simp [awardingbodylaw14_AccessAnyOrder.l1] at h⟩
  | k + 1 => by
    obtain ⟨ih0, ih1⟩ := awardingbodylaw14_AccessAnyOrder.mono_l k
    refine ⟨?_, ?_⟩
    · intro y0 y1 y2 y3 y4 y5 y6
      unfold awardingbodylaw14_AccessAnyOrder.l0
      repeat' first
      | (with_reducible exact ih0 _ _ _ _ _ _ _)
      | (with_reducible exact ih1 _ _ _ _ _ _ _)
      | (with_reducible exact access_Grant.mono _ _ _ _ _)
      | (with_reducible exact awardingbodylaw14_awake.mono _)
      | (with_reducible exact awardingbodymake_Tape_Evidence.mono _ _ _)
      | (with_reducible exact awardingbodymake_Tape_Mixed.mono _ _ _ _)
      | (with_reducible exact awardingbodymake_Tape_Order.mono _ _ _ _)
      | (with_reducible exact awardingbodymake_Tape_Rules.mono _ _ _ _)
      | (with_reducible exact LeO.refl _)
      | (with_reducible exact LeO.none _)
      | (with_reducible refine LeO.ite ?_ ?_)
      | (with_reducible refine LeO.bind ?_ (fun _ => ?_))
      | exact ih0 _ _ _ _ _ _ _
      | exact ih1 _ _ _ _ _ _ _
      | exact access_Grant.mono _ _ _ _ _
      | exact awardingbodylaw14_awake.mono _
      | exact awardingbodymake_Tape_Evidence.mono _ _ _
      | exact awardingbodymake_Tape_Mixed.mono _ _ _ _
      | exact awardingbodymake_Tape_Order.mono _ _ _ _
      | exact awardingbodymake_Tape_Rules.mono _ _ _ _
      | exact LeO.none _
      | refine LeO.ite ?_ ?_
      | refine LeO.bind ?_ (fun _ => ?_)
    · intro y0 y1 y2 y3 y4 y5 y6
      unfold awardingbodylaw14_AccessAnyOrder.l1
      repeat' first
      | (with_reducible exact ih0 _ _ _ _ _ _ _)
      | (with_reducible exact ih1 _ _ _ _ _ _ _)
      | (with_reducible exact access_Grant.mono _ _ _ _ _)
      | (with_reducible exact awardingbodylaw14_awake.mono _)
      | (with_reducible exact awardingbodymake_Tape_Evidence.mono _ _ _)
      | (with_reducible exact awardingbodymake_Tape_Mixed.mono _ _ _ _)
      | (with_reducible exact awardingbodymake_Tape_Order.mono _ _ _ _)
      | (with_reducible exact awardingbodymake_Tape_Rules.mono _ _ _ _)
      | (with_reducible exact LeO.refl _)
      | (with_reducible exact LeO.none _)
      | (with_reducible refine LeO.ite ?_ ?_)
      | (with_reducible refine LeO.bind ?_ (fun _ => ?_))
      | exact ih0 _ _ _ _ _ _ _
      | exact ih1 _ _ _ _ _ _ _
      | exact access_Grant.mono _ _ _ _ _
      | exact awardingbodylaw14_awake.mono _
      | exact awardingbodymake_Tape_Evidence.mono _ _ _
      | exact awardingbodymake_Tape_Mixed.mono _ _ _ _
      | exact awardingbodymake_Tape_Order.mono _ _ _ _
      | exact awardingbodymake_Tape_Rules.mono _ _ _ _
      | exact LeO.none _
      | refine LeO.ite ?_ ?_
      | refine LeO.bind ?_ (fun _ => ?_)
theorem awardingbodylaw14_AccessAnyOrder.mono : ∀ a0 a1 k, LeO (awardingbodylaw14_AccessAnyOrder.f k a0 a1) (awardingbodylaw14_AccessAnyOrder.f (k + 1) a0 a1) := by
  intro a0 a1 k
  obtain ⟨ih0, ih1⟩ := awardingbodylaw14_AccessAnyOrder.mono_l k
  unfold awardingbodylaw14_AccessAnyOrder.f
  repeat' first
      | (with_reducible exact ih0 _ _ _ _ _ _ _)
      | (with_reducible exact ih1 _ _ _ _ _ _ _)
      | (with_reducible exact access_Grant.mono _ _ _ _ _)
      | (with_reducible exact awardingbodylaw14_awake.mono _)
      | (with_reducible exact awardingbodymake_Tape_Evidence.mono _ _ _)
      | (with_reducible exact awardingbodymake_Tape_Mixed.mono _ _ _ _)
      | (with_reducible exact awardingbodymake_Tape_Order.mono _ _ _ _)
      | (with_reducible exact awardingbodymake_Tape_Rules.mono _ _ _ _)
      | (with_reducible exact LeO.refl _)
      | (with_reducible exact LeO.none _)
      | (with_reducible refine LeO.ite ?_ ?_)
      | (with_reducible refine LeO.bind ?_ (fun _ => ?_))
      | exact ih0 _ _ _ _ _ _ _
      | exact ih1 _ _ _ _ _ _ _
      | exact access_Grant.mono _ _ _ _ _
      | exact awardingbodylaw14_awake.mono _
      | exact awardingbodymake_Tape_Evidence.mono _ _ _
      | exact awardingbodymake_Tape_Mixed.mono _ _ _ _
      | exact awardingbodymake_Tape_Order.mono _ _ _ _
      | exact awardingbodymake_Tape_Rules.mono _ _ _ _
      | exact LeO.none _
      | refine LeO.ite ?_ ?_
      | refine LeO.bind ?_ (fun _ => ?_)
set_option maxHeartbeats 8000000 in
set_option maxRecDepth 100000 in
theorem awardingbodylaw14_AccessAnyOrder.calls (k : Nat) (A0 : Option Addr) (c0 : Nat) (l0 : List Int) (a1 : Int) (r : Bool) (w : World) (hr0 : Kd.C (Kd.int .i64) w A0 l0.length l0) (hc0 : l0.length ≤ c0) (h : awardingbodylaw14_AccessAnyOrder.f k l0 a1 = some r) :
    Calls Try.prog 7 #[.slice A0 l0.length c0, .int .i64 a1] w fun e w' => e = .returned (.bool r) ∧ Below w.heap.size w w' := by
 have hu28 := Try.underlying28
 have hu49 := Try.underlying49
 have hu38 := Try.underlying38
 have HR0 := Aside0.mk hr0
 have HC0 := Aside0.mk hc0
 clear hr0 hc0
 have HB := Aside0.mk (Below.refl w.heap.size w)
 have H : ((awardingbodymake_New.f l0).bind fun bt377 => ((awardingbodymake_Tape_Rules.f k bt377.1 bt377.2 0).bind fun bt380 => ((awardingbodymake_Tape_Evidence.f k bt377.1 bt380.2).bind fun bt384 => ((awardingbodymake_Tape_Order.f k bt377.1 bt384.2 (bt380.1.length : Int)).bind fun bt388 => ((awardingbodymake_Tape_Mixed.f k bt377.1 bt388.2 (bt384.1.length : Int)).bind fun bt392 => ((awardingbodymake_Cut.f a1 30).bind fun t396 => (awardingbodylaw14_AccessAnyOrder.l0 k t396 bt380.1 bt384.1 bt388.1 bt392.1 ([] : List (S28)) 0))))))) = some r := h
 clear h
 replace H := Option.bind_eq_some_iff.mp H
 obtain ⟨⟨t377, t378⟩, A30, H⟩ := H
 replace H : ((awardingbodymake_Tape_Rules.f k t377 t378 0).bind fun bt380 => ((awardingbodymake_Tape_Evidence.f k t377 bt380.2).bind fun bt384 => ((awardingbodymake_Tape_Order.f k t377 bt384.2 (bt380.1.length : Int)).bind fun bt388 => ((awardingbodymake_Tape_Mixed.f k t377 bt388.2 (bt384.1.length : Int)).bind fun bt392 => ((awardingbodymake_Cut.f a1 30).bind fun t396 => (awardingbodylaw14_AccessAnyOrder.l0 k t396 bt380.1 bt384.1 bt388.1 bt392.1 ([] : List (S28)) 0)))))) = some r := H
 have A3 := Aside0.mk A30
 clear A30
 replace H := Option.bind_eq_some_iff.mp H
 obtain ⟨⟨t380, t383⟩, A40, H⟩ := H
 replace H : ((awardingbodymake_Tape_Evidence.f k t377 t383).bind fun bt384 => ((awardingbodymake_Tape_Order.f k t377 bt384.2 (t380.length : Int)).bind fun bt388 => ((awardingbodymake_Tape_Mixed.f k t377 bt388.2 (bt384.1.length : Int)).bind fun bt392 => ((awardingbodymake_Cut.f a1 30).bind fun t396 => (awardingbodylaw14_AccessAnyOrder.l0 k t396 t380 bt384.1 bt388.1 bt392.1 ([] : List (S28)) 0))))) = some r := H
 have A4 := Aside0.mk A40
 clear A40
 replace H := Option.bind_eq_some_iff.mp H
 obtain ⟨⟨t384, t387⟩, A50, H⟩ := H
 replace H : ((awardingbodymake_Tape_Order.f k t377 t387 (t380.length : Int)).bind fun bt388 => ((awardingbodymake_Tape_Mixed.f k t377 bt388.2 (t384.length : Int)).bind fun bt392 => ((awardingbodymake_Cut.f a1 30).bind fun t396 => (awardingbodylaw14_AccessAnyOrder.l0 k t396 t380 t384 bt388.1 bt392.1 ([] : List (S28)) 0)))) = some r := H
 have A5 := Aside0.mk A50
 clear A50
 replace H := Option.bind_eq_some_iff.mp H
 obtain ⟨⟨t388, t391⟩, A60, H⟩ := H
 replace H : ((awardingbodymake_Tape_Mixed.f k t377 t391 (t384.length : Int)).bind fun bt392 => ((awardingbodymake_Cut.f a1 30).bind fun t396 => (awardingbodylaw14_AccessAnyOrder.l0 k t396 t380 t384 t388 bt392.1 ([] : List (S28)) 0))) = some r := H
 have A6 := Aside0.mk A60
 clear A60
 replace H := Option.bind_eq_some_iff.mp H
 obtain ⟨⟨t392, t395⟩, A70, H⟩ := H
 replace H : ((awardingbodymake_Cut.f a1 30).bind fun t396 => (awardingbodylaw14_AccessAnyOrder.l0 k t396 t380 t384 t388 t392 ([] : List (S28)) 0)) = some r := H
 have A7 := Aside0.mk A70
 clear A70
 replace H := Option.bind_eq_some_iff.mp H
 obtain ⟨t396, A80, H⟩ := H
 replace H : (awardingbodylaw14_AccessAnyOrder.l0 k t396 t380 t384 t388 t392 ([] : List (S28)) 0) = some r := H
 have A8 := Aside0.mk A80
 clear A80
 have H' := Aside0.mk H
 clear H
 go_enter Try.func7, Try.ntmps7
 go_wp2_with (first | ((with_reducible refine gate_callee (f := 12) rfl ?_); refine goesL_ (some 19) rfl rfl Try.func12 (by kernel_rfl) rfl #[.slice A0 l0.length c0] rfl (by (try simp only [List.map_toArray, List.map_cons, List.map_nil]); first | done | rfl | (simp only [List.length_drop, List.length_take]; rfl)) ?_; (with_reducible refine (awardingbodymake_New.calls _ _ l0 t377 t378 w _ ?side1 ?side2 ?side3 A3.out).mono ?_); (case side1 => repeat (first | (with_reducible first | exact HB.out | apply below_alloc | apply pw_below_drewN | apply below_drew1) | exact HB.out)); (case side2 => exact HR0.out); (case side3 => exact HC0.out); rintro e w9 ⟨g379, rfl, hi, hb, hb2⟩; refine ⟨_, rfl, ?_⟩; have n0_ := Aside0.mk (hb); have n1_ := Aside0.mk (hi); clear HB; have HB := n0_; have HI379 := n1_; clear n0_ n1_; (try clear hb); (try clear hb2); (try clear hk); (try clear hi)) | ((with_reducible refine gate_callee (f := 13) rfl ?_); refine goesL_ (some 21) rfl rfl Try.func13 (by kernel_rfl) rfl #[.pointer (some ⟨g379, 0, none⟩), .int .i64 0] rfl (by (try simp only [List.map_toArray, List.map_cons, List.map_nil]); first | done | rfl | (simp only [List.length_drop, List.length_take]; rfl)) ?_; (with_reducible refine (awardingbodymake_Tape_Rules.calls k g379 t377 t378 0 t380 t383 w _ ?side1 ?side2 A4.out).mono ?_); (case side1 => repeat (first | (with_reducible first | exact HI379.out | apply IsS57.alloc | apply IsS57.drewN | apply IsS57.drew | apply IsS57.set_1) | exact HI379.out)); (case side2 => repeat (first | (with_reducible first | exact HB.out | apply below_alloc | apply pw_below_drewN | apply below_drew1 | refine below_set ?_ (IsS57.ge HI379.out)) | exact HB.out)); rintro e w10 ⟨v381, rfl, ho0, hi, hb, hk⟩; refine ⟨_, rfl, ?_⟩; have n0_ := Aside0.mk (Kd.R_lower ho0 (below_size (by repeat (first | (with_reducible first | exact HB.out | apply below_alloc | apply pw_below_drewN | apply below_drew1 | refine below_set ?_ (IsS57.ge HI379.out)) | exact HB.out)))); have n1_ := Aside0.mk (hb); have n2_ := Aside0.mk (hi); clear HB; clear HI379; have HO382 := n0_; have HB := n1_; have HI379 := n2_; clear n0_ n1_ n2_; (try clear hb); (try clear hb2); (try clear hk); (try clear hi); (try clear ho0)) | ((with_reducible refine gate_callee (f := 18) rfl ?_); refine goesL_ (some 23) rfl rfl Try.func18 (by kernel_rfl) rfl #[.pointer (some ⟨g379, 0, none⟩)] rfl (by (try simp only [List.map_toArray, List.map_cons, List.map_nil]); first | done | rfl | (simp only [List.length_drop, List.length_take]; rfl)) ?_; (with_reducible refine (awardingbodymake_Tape_Evidence.calls k g379 t377 t383 t384 t387 w _ ?side1 ?side2 A5.out).mono ?_); (case side1 => repeat (first | (with_reducible first | exact HI379.out | apply IsS57.alloc | apply IsS57.drewN | apply IsS57.drew | apply IsS57.set_1) | exact HI379.out)); (case side2 => repeat (first | (with_reducible first | exact HB.out | apply below_alloc | apply pw_below_drewN | apply below_drew1 | refine below_set ?_ (IsS57.ge HI379.out)) | exact HB.out)); rintro e w11 ⟨v385, rfl, ho0, hi, hb, hk⟩; refine ⟨_, rfl, ?_⟩; have n0_ := Aside0.mk (Kd.R_mono (Kd.R_keep (IsS57.apart (show IsS57 w _ g379 t377 t383 from by repeat (first | (with_reducible first | exact HI379.out | apply IsS57.alloc | apply IsS57.drewN | apply IsS57.drew | apply IsS57.set_1) | exact HI379.out)) (by (with_reducible repeat (first | apply Kd.R_alloc | apply Kd.R_drewN | apply Kd.R_drew)); exact HO382.out) (by decide)) hk (fun _ h => h.2)) (fun _ h => h.1)); have n1_ := Aside0.mk (Kd.R_lower ho0 (below_size (by repeat (first | (with_reducible first | exact HB.out | apply below_alloc | apply pw_below_drewN | apply below_drew1 | refine below_set ?_ (IsS57.ge HI379.out)) | exact HB.out)))); have n2_ := Aside0.mk (hb); have n3_ := Aside0.mk (hi); clear HO382; clear HB; clear HI379; have HO382 := n0_; have HO386 := n1_; have HB := n2_; have HI379 := n3_; clear n0_ n1_ n2_ n3_; (try clear hb); (try clear hb2); (try clear hk); (try clear hi); (try clear ho0); obtain ⟨Ao12, co12, eo12⟩ := Kd.R_slice HO382.out; subst eo12) | ((with_reducible refine gate_callee (f := 27) rfl ?_); refine goesL_ (some 27) rfl rfl Try.func27 (by kernel_rfl) rfl #[.pointer (some ⟨g379, 0, none⟩), .int .i64 (t380.length : Int)] rfl (by (try simp only [List.map_toArray, List.map_cons, List.map_nil]); first | done | rfl | (simp only [List.length_drop, List.length_take]; rfl)) ?_; (with_reducible refine (awardingbodymake_Tape_Order.calls k g379 t377 t387 (t380.length : Int) t388 t391 w _ ?side1 ?side2 A6.out).mono ?_); (case side1 => repeat (first | (with_reducible first | exact HI379.out | apply IsS57.alloc | apply IsS57.drewN | apply IsS57.drew | apply IsS57.set_1) | exact HI379.out)); (case side2 => repeat (first | (with_reducible first | exact HB.out | apply below_alloc | apply pw_below_drewN | apply below_drew1 | refine below_set ?_ (IsS57.ge HI379.out)) | exact HB.out)); rintro e w13 ⟨v389, rfl, ho0, hi, hb, hk⟩; refine ⟨_, rfl, ?_⟩; have n0_ := Aside0.mk (Kd.R_mono (Kd.R_keep (IsS57.apart (show IsS57 w _ g379 t377 t387 from by repeat (first | (with_reducible first | exact HI379.out | apply IsS57.alloc | apply IsS57.drewN | apply IsS57.drew | apply IsS57.set_1) | exact HI379.out)) (by (with_reducible repeat (first | apply Kd.R_alloc | apply Kd.R_drewN | apply Kd.R_drew)); exact HO382.out) (by decide)) hk (fun _ h => h.2)) (fun _ h => h.1)); have n1_ := Aside0.mk (Kd.R_mono (Kd.R_keep (IsS57.apart (show IsS57 w _ g379 t377 t387 from by repeat (first | (with_reducible first | exact HI379.out | apply IsS57.alloc | apply IsS57.drewN | apply IsS57.drew | apply IsS57.set_1) | exact HI379.out)) (by (with_reducible repeat (first | apply Kd.R_alloc | apply Kd.R_drewN | apply Kd.R_drew)); exact HO386.out) (by decide)) hk (fun _ h => h.2)) (fun _ h => h.1)); have n2_ := Aside0.mk (Kd.R_lower ho0 (below_size (by repeat (first | (with_reducible first | exact HB.out | apply below_alloc | apply pw_below_drewN | apply below_drew1 | refine below_set ?_ (IsS57.ge HI379.out)) | exact HB.out)))); have n3_ := Aside0.mk (hb); have n4_ := Aside0.mk (hi); clear HO382; clear HO386; clear HB; clear HI379; have HO382 := n0_; have HO386 := n1_; have HO390 := n2_; have HB := n3_; have HI379 := n4_; clear n0_ n1_ n2_ n3_ n4_; (try clear hb); (try clear hb2); (try clear hk); (try clear hi); (try clear ho0); obtain ⟨Ao14, co14, eo14⟩ := Kd.R_slice HO386.out; subst eo14) | ((with_reducible refine gate_callee (f := 28) rfl ?_); refine goesL_ (some 31) rfl rfl Try.func28 (by kernel_rfl) rfl #[.pointer (some ⟨g379, 0, none⟩), .int .i64 (t384.length : Int)] rfl (by (try simp only [List.map_toArray, List.map_cons, List.map_nil]); first | done | rfl | (simp only [List.length_drop, List.length_take]; rfl)) ?_; (with_reducible refine (awardingbodymake_Tape_Mixed.calls k g379 t377 t391 (t384.length : Int) t392 t395 w _ ?side1 ?side2 A7.out).mono ?_); (case side1 => repeat (first | (with_reducible first | exact HI379.out | apply IsS57.alloc | apply IsS57.drewN | apply IsS57.drew | apply IsS57.set_1) | exact HI379.out)); (case side2 => repeat (first | (with_reducible first | exact HB.out | apply below_alloc | apply pw_below_drewN | apply below_drew1 | refine below_set ?_ (IsS57.ge HI379.out)) | exact HB.out)); rintro e w15 ⟨v393, rfl, ho0, hi, hb, hk⟩; refine ⟨_, rfl, ?_⟩; have n0_ := Aside0.mk (Kd.R_mono (Kd.R_keep (IsS57.apart (show IsS57 w _ g379 t377 t391 from by repeat (first | (with_reducible first | exact HI379.out | apply IsS57.alloc | apply IsS57.drewN | apply IsS57.drew | apply IsS57.set_1) | exact HI379.out)) (by (with_reducible repeat (first | apply Kd.R_alloc | apply Kd.R_drewN | apply Kd.R_drew)); exact HO382.out) (by decide)) hk (fun _ h => h.2)) (fun _ h => h.1)); have n1_ := Aside0.mk (Kd.R_mono (Kd.R_keep (IsS57.apart (show IsS57 w _ g379 t377 t391 from by repeat (first | (with_reducible first | exact HI379.out | apply IsS57.alloc | apply IsS57.drewN | apply IsS57.drew | apply IsS57.set_1) | exact HI379.out)) (by (with_reducible repeat (first | apply Kd.R_alloc | apply Kd.R_drewN | apply Kd.R_drew)); exact HO386.out) (by decide)) hk (fun _ h => h.2)) (fun _ h => h.1)); have n2_ := Aside0.mk (Kd.R_mono (Kd.R_told (Kd.R_oldK (IsS57.apart (show IsS57 w _ g379 t377 t391 from by repeat (first | (with_reducible first | exact HI379.out | apply IsS57.alloc | apply IsS57.drewN | apply IsS57.drew | apply IsS57.set_1) | exact HI379.out)) (by (with_reducible repeat (first | apply Kd.R_alloc | apply Kd.R_drewN | apply Kd.R_drew)); exact HO390.out) (by decide)) hk) (Kd.R_base ho0)) (fun _ h_ => h_.1)); have n3_ := Aside0.mk (Kd.R_lower (Kd.R_new' ho0 (Kd.R_lt (by (with_reducible repeat (first | apply Kd.R_alloc | apply Kd.R_drewN | apply Kd.R_drew)); exact HO390.out))) (below_size (by repeat (first | (with_reducible first | exact HB.out | apply below_alloc | apply pw_below_drewN | apply below_drew1 | refine below_set ?_ (IsS57.ge HI379.out)) | exact HB.out)))); have n4_ := Aside0.mk (hb); have n5_ := Aside0.mk (hi); clear HO382; clear HO386; clear HO390; clear HB; clear HI379; have HO382 := n0_; have HO386 := n1_; have HO390 := n2_; have HO394 := n3_; have HB := n4_; have HI379 := n5_; clear n0_ n1_ n2_ n3_ n4_ n5_; (try clear hb); (try clear hb2); (try clear hk); (try clear hi); (try clear ho0)) | ((with_reducible refine gate_callee (f := 17) rfl ?_); refine goesL_ (some 33) rfl rfl Try.func17 (by kernel_rfl) rfl #[.int .i64 a1, .int .i64 30] rfl (by (try simp only [List.map_toArray, List.map_cons, List.map_nil]); first | done | rfl | (simp only [List.length_drop, List.length_take]; rfl)) ?_; (with_reducible refine (awardingbodymake_Cut.calls a1 30 t396 _ A8.out).mono ?_); rintro e w' ⟨rfl, ⟨nd, rfl⟩⟩; refine ⟨_, rfl, ?_⟩))
 go_loopg [10, 12] k (fun kq v10 v12 w' => ∃ (x10_1 : List (S28)) (x12_1 : Int), v12 = .int .i64 x12_1 ∧ Aside0 (awardingbodylaw14_AccessAnyOrder.l0 kq t396 t380 t384 t388 t392 x10_1 x12_1 = some r) ∧ Aside0 (kq ≤ k) ∧ Aside0 (Kd.R k28 28 w' w.heap.size (fun k_ => some k_ ≠ (v10 : Value).ownBlock) (.slice Ao12 t380.length co12) t380) ∧ Aside0 (Kd.R k49 49 w' w.heap.size (fun _ => True) (.slice Ao14 t384.length co14) t384) ∧ Aside0 (Kd.R (Kd.int .i64) 3 w' w.heap.size (fun k_ => some k_ ≠ (v393 : Value).ownBlock) v389 t388) ∧ Aside0 (Kd.R (Kd.int .i64) 3 w' w.heap.size (fun k_ => some k_ ≠ (v389 : Value).ownBlock) v393 t392) ∧ Aside0 (Kd.R k28 28 w' w.heap.size (fun k_ => some k_ ≠ ((.slice Ao12 t380.length co12) : Value).ownBlock) v10 x10_1) ∧ Aside0 (Below w.heap.size w w'))
 case atStart => exact ⟨(([] : List (S28))), (0), (by first | rfl | (simp; done) | (simp [*]; done)), H', ⟨Nat.le_refl _⟩, ⟨by (with_reducible repeat (first | apply Kd.R_alloc | apply Kd.R_drewN | apply Kd.R_drew)); exact Kd.R_mono HO382.out (fun _ hk => (by simp [Value.ownBlock]))⟩, ⟨by (with_reducible repeat (first | apply Kd.R_alloc | apply Kd.R_drewN | apply Kd.R_drew)); exact HO386.out⟩, ⟨by (with_reducible repeat (first | apply Kd.R_alloc | apply Kd.R_drewN | apply Kd.R_drew)); exact Kd.R_mono HO390.out (fun _ hk => hk.2)⟩, ⟨by (with_reducible repeat (first | apply Kd.R_alloc | apply Kd.R_drewN | apply Kd.R_drew)); exact Kd.R_mono HO394.out (fun _ hk => hk.2)⟩, ⟨by first | exact Kd.R_nil _ _ _ _ _ | exact Kd.N_nil _ _ _ _ _ | exact Kd.V_nil _ _ _ _ _ | exact Kd.Q_nil _ _ _ _ _ | exact Kd.S_nil _ _ _ _ _⟩, ⟨by repeat (first | (with_reducible first | exact HB.out | apply below_alloc | apply pw_below_drewN | apply below_drew1 | refine below_set ?_ (IsS57.ge HI379.out)) | exact HB.out)⟩⟩
 case round =>
  clear H'
  try clear c1
  try clear c2
  try clear p2
  try clear c7
  try clear c12
  try clear c13
  obtain ⟨x10_1, x12_1, rfl, HA, HK1, HO_6, HO_7, HO_8, HO_9, HO_10, HB⟩ := hrel
  cases gk with
  | zero => exact absurd HA.out (by simp [awardingbodylaw14_AccessAnyOrder.l0])
  | succ k1 =>
   have H := HA.out
   clear HA
   simp only [awardingbodylaw14_AccessAnyOrder.l0] at H
   by_cases c16 : x12_1 < (t388.length : Int)
   ·rw [if_pos c16] at H
    have c16b0 : decide (x12_1 < (t388.length : Int)) = true := decide_eq_true c16
    clear c16
    by_cases c17 : 0 ≤ x12_1
    ·rw [if_pos c17] at H
     have c17b0 : decide (0 ≤ x12_1) = true := decide_eq_true c17
     clear c17
     by_cases c18 : 0 ≤ (rd t388 x12_1)
     ·rw [if_pos c18] at H
      have c18b0 : decide (0 ≤ (rd t388 x12_1)) = true := decide_eq_true c18
      clear c18
      by_cases c19 : (rd t388 x12_1) < (t380.length : Int)
      ·rw [if_pos c19] at H
       have c19b0 : decide ((rd t388 x12_1) < (t380.length : Int)) = true := decide_eq_true c19
       clear c19
       by_cases c20 : x10_1.length < 4398046511104
       ·rw [if_pos c20] at H
        have LMc20 := Aside0.mk c20
        clear c20
        obtain ⟨y399, hy399⟩ : ∃ y_ : List (S28), y_ = (x10_1 ++ [(⟨(rd_T28 t380 (rd t388 x12_1)).f0, (rd_T28 t380 (rd t388 x12_1)).f1, (rd_T28 t380 (rd t388 x12_1)).f2, (rd_T28 t380 (rd t388 x12_1)).f3⟩ : S28)]) := ⟨_, rfl⟩
        replace H : (awardingbodylaw14_AccessAnyOrder.l0 k1 t396 t380 t384 t388 t392 y399 (wrap64 (x12_1 + 1))) = some r := by first | (rw [hy399]; with_reducible exact H) | (have H2_ := (Option.bind_some _ _).symm.trans H; rw [hy399]; with_reducible exact H2_) | (have H2_ := (Option.bind_some _ _).symm.trans H; with_reducible exact H2_) | with_reducible exact H | (rw [hy399]; exact H) | exact H
        have Ny399 := Aside0.mk hy399
        clear hy399
        have H' := Aside0.mk H
        clear H
        obtain ⟨Ao21, co21, eo21⟩ := Kd.R_slice HO_8.out
        subst eo21
        have p397 : 0 ≤ (x12_1 : Int) := of_decide_eq_true (by first | (with_reducible assumption) | assumption)
        have q397 : x12_1 < (t388.length : Int) := of_decide_eq_true (by first | (with_reducible assumption) | assumption)
        obtain ⟨ad397, e397, hx397_0⟩ := Kd.at_int (Kd.R_reads' HO_8.out).2.2 x12_1 p397 q397
        cases e397
        replace p397 := eq_true p397
        replace q397 := eq_true q397
        have p398 : 0 ≤ ((rd t388 x12_1) : Int) := of_decide_eq_true (by first | (with_reducible assumption) | assumption)
        have q398 : (rd t388 x12_1) < (t380.length : Int) := of_decide_eq_true (by first | (with_reducible assumption) | assumption)
        obtain ⟨ad398, e398, hx398_0, hx398_1, hx398_2, hx398_3⟩ := at_T28 (Kd.R_reads' HO_6.out).2.2 (rd t388 x12_1) p398 q398
        cases e398
        replace p398 := eq_true p398
        replace q398 := eq_true q398
        go_wp2_with (first | ((with_reducible refine gate_builtin (b := .append) (xs := #[.tmp 40, .tmp 48]) rfl ?_); at_builtin; refine Kd.R_append k28 (w0 := w) w.heap.size rfl (.tmp 40) (.tmp 48) 23 28 (.agg #[(.int .i64 0), (.int .i64 0), (.int .i64 0), (.int .i64 0)]) 32 rfl Try.underlying23 info28 rfl (by decide) (by omega) u10 x10_1 (⟨(rd_T28 t380 (rd t388 x12_1)).f0, (rd_T28 t380 (rd t388 x12_1)).f1, (rd_T28 t380 (rd t388 x12_1)).f2, (rd_T28 t380 (rd t388 x12_1)).f3⟩ : S28) [.int .i64 ((rd_T28 t380 (rd t388 x12_1)).f0), .int .i64 ((rd_T28 t380 (rd t388 x12_1)).f1), .int .i64 ((rd_T28 t380 (rd t388 x12_1)).f2), .int .i64 ((rd_T28 t380 (rd t388 x12_1)).f3)] (fun k_ => some k_ ≠ (.slice (some ad398) t380.length co12 : Value).ownBlock) (fun _ => False) rfl rfl ?aP (fun _ hk => hk.elim) ?aF ?aO ?aB ?aS ?aL ?_; (case aP => exact k28_mkM _ _ _ (⟨(rd_T28 t380 (rd t388 x12_1)).f0, (rd_T28 t380 (rd t388 x12_1)).f1, (rd_T28 t380 (rd t388 x12_1)).f2, (rd_T28 t380 (rd t388 x12_1)).f3⟩ : S28)); (case aB => exact (by repeat (first | (with_reducible first | exact HB.out | apply below_alloc | apply pw_below_drewN | apply below_drew1) | exact HB.out))); (case aF => exact (fun k_ hk => Kd.fresh' (Kd.R_lt (by (with_reducible repeat (first | apply Kd.R_alloc | apply Kd.R_drewN | apply Kd.R_drew)); exact HO_6.out)) k_ hk)); (case aO => exact (by (with_reducible repeat (first | apply Kd.R_alloc | apply Kd.R_drewN | apply Kd.R_drew)); exact HO_10.out)); (case aS => exact (below_size (by repeat (first | (with_reducible first | exact HB.out | apply below_alloc | apply pw_below_drewN | apply below_drew1) | exact HB.out)))); (case aL => have := LMc20.out; omega); intro v400 w22 ho hb hg hat; rw [← Ny399.out] at ho; have n0_ := Aside0.mk (Kd.R_after (ok := (fun _ => True)) (by (with_reducible repeat (first | apply Kd.R_alloc | apply Kd.R_drewN | apply Kd.R_drew)); exact Kd.R_mono HO_6.out (fun _ hk => ⟨trivial, hk⟩)) hg hat); have n1_ := Aside0.mk (Kd.R_over' (by (with_reducible repeat (first | apply Kd.R_alloc | apply Kd.R_drewN | apply Kd.R_drew)); exact HO_7.out) (Kd.R_typed (by (with_reducible repeat (first | apply Kd.R_alloc | apply Kd.R_drewN | apply Kd.R_drew)); exact HO_10.out)) (by decide) hg); have n2_ := Aside0.mk (Kd.R_over' (by (with_reducible repeat (first | apply Kd.R_alloc | apply Kd.R_drewN | apply Kd.R_drew)); exact HO_8.out) (Kd.R_typed (by (with_reducible repeat (first | apply Kd.R_alloc | apply Kd.R_drewN | apply Kd.R_drew)); exact HO_10.out)) (by decide) hg); have n3_ := Aside0.mk (Kd.R_over' (by (with_reducible repeat (first | apply Kd.R_alloc | apply Kd.R_drewN | apply Kd.R_drew)); exact HO_9.out) (Kd.R_typed (by (with_reducible repeat (first | apply Kd.R_alloc | apply Kd.R_drewN | apply Kd.R_drew)); exact HO_10.out)) (by decide) hg); have n4_ := Aside0.mk (hb); have n5_ := Aside0.mk (ho); clear HO_6; clear HO_7; clear HO_8; clear HO_9; clear HB; clear HO_10; have HO_6 := n0_; have HO_7 := n1_; have HO_8 := n2_; have HO_9 := n3_; have HB := n4_; have HO401 := n5_; clear n0_ n1_ n2_ n3_ n4_ n5_; clear ho hb hg hat))
        go_roundg k1
        case measure => have := HK1.out; omega
        case rel => exact ⟨(y399), (wrap64 (x12_1 + 1)), (by first | rfl | (simp; done) | (simp [*]; done)), H', ⟨by have := HK1.out; omega⟩, ⟨by (with_reducible repeat (first | apply Kd.R_alloc | apply Kd.R_drewN | apply Kd.R_drew)); exact Kd.R_mono HO_6.out (fun _ hk => hk.2)⟩, ⟨by (with_reducible repeat (first | apply Kd.R_alloc | apply Kd.R_drewN | apply Kd.R_drew)); exact HO_7.out⟩, ⟨by (with_reducible repeat (first | apply Kd.R_alloc | apply Kd.R_drewN | apply Kd.R_drew)); exact HO_8.out⟩, ⟨by (with_reducible repeat (first | apply Kd.R_alloc | apply Kd.R_drewN | apply Kd.R_drew)); exact HO_9.out⟩, ⟨by (with_reducible repeat (first | apply Kd.R_alloc | apply Kd.R_drewN | apply Kd.R_drew)); exact HO401.out⟩, ⟨by repeat (first | (with_reducible first | exact HB.out | apply below_alloc | apply pw_below_drewN | apply below_drew1) | exact HB.out)⟩⟩
       ·rw [if_neg c20] at H
        exact absurd H (by simp)
      ·rw [if_neg c19] at H
       exact absurd H (by simp)
     ·rw [if_neg c18] at H
      exact absurd H (by simp)
    ·rw [if_neg c17] at H
     exact absurd H (by simp)
   ·rw [if_neg c16] at H
    have c16b0 : decide (x12_1 < (t388.length : Int)) = false := decide_eq_false c16
    clear c16
    have H' := Aside0.mk H
    clear H
    obtain ⟨Ao23, co23, eo23⟩ := Kd.R_slice HO_8.out
    subst eo23
    go_wp2
    go_loopg [11, 13] k1 (fun kq v11 v13 w' => ∃ (x11_2 : List (S49)) (x13_2 : Int), v13 = .int .i64 x13_2 ∧ Aside0 (awardingbodylaw14_AccessAnyOrder.l1 kq t396 t380 t384 t392 x10_1 x11_2 x13_2 = some r) ∧ Aside0 (kq ≤ k1) ∧ Aside0 (Kd.R k28 28 w' w.heap.size (fun k_ => some k_ ≠ (u10 : Value).ownBlock) (.slice Ao12 t380.length co12) t380) ∧ Aside0 (Kd.R k49 49 w' w.heap.size (fun k_ => some k_ ≠ (v11 : Value).ownBlock) (.slice Ao14 t384.length co14) t384) ∧ Aside0 (Kd.R (Kd.int .i64) 3 w' w.heap.size (fun _ => True) v393 t392) ∧ Aside0 (Kd.R k28 28 w' w.heap.size (fun k_ => some k_ ≠ ((.slice Ao12 t380.length co12) : Value).ownBlock) u10 x10_1) ∧ Aside0 (Kd.R k49 49 w' w.heap.size (fun k_ => some k_ ≠ ((.slice Ao14 t384.length co14) : Value).ownBlock) v11 x11_2) ∧ Aside0 (Below w.heap.size w w'))
    case atStart => exact ⟨(([] : List (S49))), (0), (by first | rfl | (simp; done) | (simp [*]; done)), H', ⟨Nat.le_refl _⟩, ⟨by (with_reducible repeat (first | apply Kd.R_alloc | apply Kd.R_drewN | apply Kd.R_drew)); exact HO_6.out⟩, ⟨by (with_reducible repeat (first | apply Kd.R_alloc | apply Kd.R_drewN | apply Kd.R_drew)); exact Kd.R_mono HO_7.out (fun _ hk => (by simp [Value.ownBlock]))⟩, ⟨by (with_reducible repeat (first | apply Kd.R_alloc | apply Kd.R_drewN | apply Kd.R_drew)); exact Kd.R_mono HO_9.out (fun _ hk => trivial)⟩, ⟨by (with_reducible repeat (first | apply Kd.R_alloc | apply Kd.R_drewN | apply Kd.R_drew)); exact HO_10.out⟩, ⟨by first | exact Kd.R_nil _ _ _ _ _ | exact Kd.N_nil _ _ _ _ _ | exact Kd.V_nil _ _ _ _ _ | exact Kd.Q_nil _ _ _ _ _ | exact Kd.S_nil _ _ _ _ _⟩, ⟨by repeat (first | (with_reducible first | exact HB.out | apply below_alloc | apply pw_below_drewN | apply below_drew1) | exact HB.out)⟩⟩
    case round =>
     clear H'
     try clear c1
     try clear c2
     try clear p2
     try clear p3
     try clear q3
     try clear hx3
     try clear p6
     try clear c7
     try clear c12
     try clear c13
     try clear c16
     try clear c16b0
     try clear c17
     try clear c17b0
     try clear c18
     try clear c18b0
     try clear c19
     try clear c19b0
     try clear c20
     try clear hx397_0
     try clear hx398_0
     try clear hx398_1
     try clear hx398_2
     try clear hx398_3
     try clear p2
     try clear p397
     try clear p398
     try clear q397
     try clear q398
     obtain ⟨x11_2, x13_2, rfl, HA, HK2, HO_6, HO_7, HO_9, HO_10, HO_11, HB⟩ := hrel
     cases gk with
     | zero => exact absurd HA.out (by simp [awardingbodylaw14_AccessAnyOrder.l1])
     | succ k2 =>
      have H := HA.out
      clear HA
      simp only [awardingbodylaw14_AccessAnyOrder.l1] at H
      by_cases c24 : x13_2 < (t392.length : Int)
      ·rw [if_pos c24] at H
       have c24b0 : decide (x13_2 < (t392.length : Int)) = true := decide_eq_true c24
       clear c24
       by_cases c25 : 0 ≤ x13_2
       ·rw [if_pos c25] at H
        have c25b0 : decide (0 ≤ x13_2) = true := decide_eq_true c25
        clear c25
        by_cases c26 : 0 ≤ (rd t392 x13_2)
        ·rw [if_pos c26] at H
         have c26b0 : decide (0 ≤ (rd t392 x13_2)) = true := decide_eq_true c26
         clear c26
         by_cases c27 : (rd t392 x13_2) < (t384.length : Int)
         ·rw [if_pos c27] at H
          have c27b0 : decide ((rd t392 x13_2) < (t384.length : Int)) = true := decide_eq_true c27
          clear c27
          by_cases c28 : x11_2.length < 3518437208883
          ·rw [if_pos c28] at H
           have LMc28 := Aside0.mk c28
           clear c28
           obtain ⟨y404, hy404⟩ : ∃ y_ : List (S49), y_ = (x11_2 ++ [(⟨(rd_T49 t384 (rd t392 x13_2)).f0, (rd_T49 t384 (rd t392 x13_2)).f1, (rd_T49 t384 (rd t392 x13_2)).f2, (rd_T49 t384 (rd t392 x13_2)).f3, (rd_T49 t384 (rd t392 x13_2)).f4⟩ : S49)]) := ⟨_, rfl⟩
           replace H : (awardingbodylaw14_AccessAnyOrder.l1 k2 t396 t380 t384 t392 x10_1 y404 (wrap64 (x13_2 + 1))) = some r := by first | (rw [hy404]; with_reducible exact H) | (have H2_ := (Option.bind_some _ _).symm.trans H; rw [hy404]; with_reducible exact H2_) | (have H2_ := (Option.bind_some _ _).symm.trans H; with_reducible exact H2_) | with_reducible exact H | (rw [hy404]; exact H) | exact H
           have Ny404 := Aside0.mk hy404
           clear hy404
           have H' := Aside0.mk H
           clear H
           obtain ⟨Ao29, co29, eo29⟩ := Kd.R_slice HO_9.out
           subst eo29
           have p402 : 0 ≤ (x13_2 : Int) := of_decide_eq_true (by first | (with_reducible assumption) | assumption)
           have q402 : x13_2 < (t392.length : Int) := of_decide_eq_true (by first | (with_reducible assumption) | assumption)
           obtain ⟨ad402, e402, hx402_0⟩ := Kd.at_int (Kd.R_reads' HO_9.out).2.2 x13_2 p402 q402
           cases e402
           replace p402 := eq_true p402
           replace q402 := eq_true q402
           have p403 : 0 ≤ ((rd t392 x13_2) : Int) := of_decide_eq_true (by first | (with_reducible assumption) | assumption)
           have q403 : (rd t392 x13_2) < (t384.length : Int) := of_decide_eq_true (by first | (with_reducible assumption) | assumption)
           obtain ⟨ad403, e403, hx403_0, hx403_1, hx403_2, hx403_3, hx403_4⟩ := at_T49 (Kd.R_reads' HO_7.out).2.2 (rd t392 x13_2) p403 q403
           cases e403
           replace p403 := eq_true p403
           replace q403 := eq_true q403
           go_wp2_with (first | ((with_reducible refine gate_builtin (b := .append) (xs := #[.tmp 56, .tmp 64]) rfl ?_); at_builtin; refine Kd.R_append k49 (w0 := w) w.heap.size rfl (.tmp 56) (.tmp 64) 35 49 (.agg #[(.int .i64 0), (.int .i64 0), (.int .i64 0), (.int .i64 0), (.int .i64 0)]) 40 rfl Try.underlying35 info49 rfl (by decide) (by omega) u11 x11_2 (⟨(rd_T49 t384 (rd t392 x13_2)).f0, (rd_T49 t384 (rd t392 x13_2)).f1, (rd_T49 t384 (rd t392 x13_2)).f2, (rd_T49 t384 (rd t392 x13_2)).f3, (rd_T49 t384 (rd t392 x13_2)).f4⟩ : S49) [.int .i64 ((rd_T49 t384 (rd t392 x13_2)).f0), .int .i64 ((rd_T49 t384 (rd t392 x13_2)).f1), .int .i64 ((rd_T49 t384 (rd t392 x13_2)).f2), .int .i64 ((rd_T49 t384 (rd t392 x13_2)).f3), .int .i64 ((rd_T49 t384 (rd t392 x13_2)).f4)] (fun k_ => some k_ ≠ (.slice (some ad403) t384.length co14 : Value).ownBlock) (fun _ => False) rfl rfl ?aP (fun _ hk => hk.elim) ?aF ?aO ?aB ?aS ?aL ?_; (case aP => exact k49_mkM _ _ _ (⟨(rd_T49 t384 (rd t392 x13_2)).f0, (rd_T49 t384 (rd t392 x13_2)).f1, (rd_T49 t384 (rd t392 x13_2)).f2, (rd_T49 t384 (rd t392 x13_2)).f3, (rd_T49 t384 (rd t392 x13_2)).f4⟩ : S49)); (case aB => exact (by repeat (first | (with_reducible first | exact HB.out | apply below_alloc | apply pw_below_drewN | apply below_drew1) | exact HB.out))); (case aF => exact (fun k_ hk => Kd.fresh' (Kd.R_lt (by (with_reducible repeat (first | apply Kd.R_alloc | apply Kd.R_drewN | apply Kd.R_drew)); exact HO_7.out)) k_ hk)); (case aO => exact (by (with_reducible repeat (first | apply Kd.R_alloc | apply Kd.R_drewN | apply Kd.R_drew)); exact HO_11.out)); (case aS => exact (below_size (by repeat (first | (with_reducible first | exact HB.out | apply below_alloc | apply pw_below_drewN | apply below_drew1) | exact HB.out)))); (case aL => have := LMc28.out; omega); intro v405 w30 ho hb hg hat; rw [← Ny404.out] at ho; have n0_ := Aside0.mk (Kd.R_over' (by (with_reducible repeat (first | apply Kd.R_alloc | apply Kd.R_drewN | apply Kd.R_drew)); exact HO_6.out) (Kd.R_typed (by (with_reducible repeat (first | apply Kd.R_alloc | apply Kd.R_drewN | apply Kd.R_drew)); exact HO_11.out)) (by decide) hg); have n1_ := Aside0.mk (Kd.R_after (ok := (fun _ => True)) (by (with_reducible repeat (first | apply Kd.R_alloc | apply Kd.R_drewN | apply Kd.R_drew)); exact Kd.R_mono HO_7.out (fun _ hk => ⟨trivial, hk⟩)) hg hat); have n2_ := Aside0.mk (Kd.R_over' (by (with_reducible repeat (first | apply Kd.R_alloc | apply Kd.R_drewN | apply Kd.R_drew)); exact HO_9.out) (Kd.R_typed (by (with_reducible repeat (first | apply Kd.R_alloc | apply Kd.R_drewN | apply Kd.R_drew)); exact HO_11.out)) (by decide) hg); have n3_ := Aside0.mk (Kd.R_over' (by (with_reducible repeat (first | apply Kd.R_alloc | apply Kd.R_drewN | apply Kd.R_drew)); exact HO_10.out) (Kd.R_typed (by (with_reducible repeat (first | apply Kd.R_alloc | apply Kd.R_drewN | apply Kd.R_drew)); exact HO_11.out)) (by decide) hg); have n4_ := Aside0.mk (hb); have n5_ := Aside0.mk (ho); clear HO_6; clear HO_7; clear HO_9; clear HO_10; clear HB; clear HO_11; have HO_6 := n0_; have HO_7 := n1_; have HO_9 := n2_; have HO_10 := n3_; have HB := n4_; have HO406 := n5_; clear n0_ n1_ n2_ n3_ n4_ n5_; clear ho hb hg hat))
           go_roundg k2
           case measure => have := HK1.out; have := HK2.out; omega
           case rel => exact ⟨(y404), (wrap64 (x13_2 + 1)), (by first | rfl | (simp; done) | (simp [*]; done)), H', ⟨by have := HK1.out; have := HK2.out; omega⟩, ⟨by (with_reducible repeat (first | apply Kd.R_alloc | apply Kd.R_drewN | apply Kd.R_drew)); exact HO_6.out⟩, ⟨by (with_reducible repeat (first | apply Kd.R_alloc | apply Kd.R_drewN | apply Kd.R_drew)); exact Kd.R_mono HO_7.out (fun _ hk => hk.2)⟩, ⟨by (with_reducible repeat (first | apply Kd.R_alloc | apply Kd.R_drewN | apply Kd.R_drew)); exact HO_9.out⟩, ⟨by (with_reducible repeat (first | apply Kd.R_alloc | apply Kd.R_drewN | apply Kd.R_drew)); exact HO_10.out⟩, ⟨by (with_reducible repeat (first | apply Kd.R_alloc | apply Kd.R_drewN | apply Kd.R_drew)); exact HO406.out⟩, ⟨by repeat (first | (with_reducible first | exact HB.out | apply below_alloc | apply pw_below_drewN | apply below_drew1) | exact HB.out)⟩⟩
          ·rw [if_neg c28] at H
           exact absurd H (by simp)
         ·rw [if_neg c27] at H
          exact absurd H (by simp)
        ·rw [if_neg c26] at H
         exact absurd H (by simp)
       ·rw [if_neg c25] at H
        exact absurd H (by simp)
      ·rw [if_neg c24] at H
       have c24b0 : decide (x13_2 < (t392.length : Int)) = false := decide_eq_false c24
       clear c24
       replace H := Option.bind_eq_some_iff.mp H
       obtain ⟨⟨t407, t408, t409⟩, A310, H⟩ := H
       replace H : ((access_Grant.f k2 x10_1 x11_2 0 t396).bind fun bt411 => (if t409 = 0 then (if bt411.2.2 = 0 then (if (t407 == bt411.1 && (t408 == bt411.2.1)) = true then ((awardingbodylaw14_awake.f k2).bind fun t415 => (some t415)) else (none)) else (none)) else (none))) = some r := H
       have A31 := Aside0.mk A310
       clear A310
       replace H := Option.bind_eq_some_iff.mp H
       obtain ⟨⟨t411, t412, t413⟩, A320, H⟩ := H
       replace H : (if t409 = 0 then (if t413 = 0 then (if (t407 == t411 && (t408 == t412)) = true then ((awardingbodylaw14_awake.f k2).bind fun t415 => (some t415)) else (none)) else (none)) else (none)) = some r := H
       have A32 := Aside0.mk A320
       clear A320
       by_cases c33 : t409 = 0
       ·rw [if_pos c33] at H
        have c33b0 : (t409 == 0) = true := beq_iff_eq.mpr c33
        have c33b1 : (t409 != 0) = false := bne_eq_false_iff_eq.mpr c33
        clear c33
        by_cases c34 : t413 = 0
        ·rw [if_pos c34] at H
         have c34b0 : (t413 == 0) = true := beq_iff_eq.mpr c34
         have c34b1 : (t413 != 0) = false := bne_eq_false_iff_eq.mpr c34
         clear c34
         by_cases c35 : (t407 == t411 && (t408 == t412)) = true
         ·rw [if_pos c35] at H
          have c35b0 : (t407 == t411 && (t408 == t412)) = true := c35
          (try (have c35b1 : decide (t407 = t411 && (t408 == t412)) = true := by simpa using c35))
          (try (have c35b2 : (t407 == t411 && (t408 == t412)) = true := by simpa using c35))
          clear c35
          replace H := Option.bind_eq_some_iff.mp H
          obtain ⟨t415, A360, H⟩ := H
          replace H : (some t415) = some r := H
          have A36 := Aside0.mk A360
          clear A360
          obtain rfl := Option.some.inj H
          obtain ⟨Ao37, co37, eo37⟩ := Kd.R_slice HO_9.out
          subst eo37
          go_wp2_with (first | ((with_reducible refine gate_callee (f := 19) rfl ?_); refine goesL_ (some 70) rfl rfl Try.func19 (by kernel_rfl) rfl #[.slice Ao12 t380.length co12, .slice Ao14 t384.length co14, .int .i64 0, .int .i64 t396] rfl (by (try simp only [List.map_toArray, List.map_cons, List.map_nil]); first | done | rfl | (simp only [List.length_drop, List.length_take]; rfl)) ?_; (with_reducible refine (access_Grant.calls k2 _ _ t380 _ _ t384 0 t396 t407 t408 t409 _ ?side1 ?side2 ?side3 ?side4 A31.out).mono ?_); (case side1 => repeat (first | exact (Kd.R_reads' HO_6.out).2.2 | (with_reducible refine Kd.C_alloc ?_ _) | (with_reducible refine Kd.C_drewN ?_ _) | (with_reducible refine Kd.C_drew ?_))); (case side2 => exact (Kd.R_reads' HO_6.out).2.1); (case side3 => repeat (first | exact (Kd.R_reads' HO_7.out).2.2 | (with_reducible refine Kd.C_alloc ?_ _) | (with_reducible refine Kd.C_drewN ?_ _) | (with_reducible refine Kd.C_drew ?_))); (case side4 => exact (Kd.R_reads' HO_7.out).2.1); rintro e w38 ⟨rfl, hb⟩; refine ⟨_, rfl, ?_⟩; have n0_ := Aside0.mk (Kd.R_below (by (with_reducible repeat (first | apply Kd.R_alloc | apply Kd.R_drewN | apply Kd.R_drew)); exact HO_6.out) hb); have n1_ := Aside0.mk (Kd.R_below (by (with_reducible repeat (first | apply Kd.R_alloc | apply Kd.R_drewN | apply Kd.R_drew)); exact HO_7.out) hb); have n2_ := Aside0.mk (Kd.R_below (by (with_reducible repeat (first | apply Kd.R_alloc | apply Kd.R_drewN | apply Kd.R_drew)); exact HO_9.out) hb); have n3_ := Aside0.mk (Kd.R_below (by (with_reducible repeat (first | apply Kd.R_alloc | apply Kd.R_drewN | apply Kd.R_drew)); exact HO_10.out) hb); have n4_ := Aside0.mk (Kd.R_below (by (with_reducible repeat (first | apply Kd.R_alloc | apply Kd.R_drewN | apply Kd.R_drew)); exact HO_11.out) hb); have n5_ := Aside0.mk (below_step (by repeat (first | (with_reducible first | exact HB.out | apply below_alloc | apply pw_below_drewN | apply below_drew1) | exact HB.out)) hb); clear HO_6; clear HO_7; clear HO_9; clear HO_10; clear HO_11; clear HB; have HO_6 := n0_; have HO_7 := n1_; have HO_9 := n2_; have HO_10 := n3_; have HO_11 := n4_; have HB := n5_; clear n0_ n1_ n2_ n3_ n4_ n5_; (try clear hb); (try clear hb2); (try clear hk); (try clear hi)) | ((with_reducible refine gate_dst (N := 14) rfl ?_); refine box_event ?hg (N := 14) ?hd (cs := #[.int .i64 0, .int .i64 0]) (t := 38) ?hr ?_; (case hd => rfl); (case hg => rfl); (case hr => first | (go_simp; done) | (go_simp; rfl)); intro gb410 hg w39 hbox hb; have n0_ := Aside0.mk (Kd.R_below (by (with_reducible repeat (first | apply Kd.R_alloc | apply Kd.R_drewN | apply Kd.R_drew)); exact HO_6.out) hb); have n1_ := Aside0.mk (Kd.R_below (by (with_reducible repeat (first | apply Kd.R_alloc | apply Kd.R_drewN | apply Kd.R_drew)); exact HO_7.out) hb); have n2_ := Aside0.mk (Kd.R_below (by (with_reducible repeat (first | apply Kd.R_alloc | apply Kd.R_drewN | apply Kd.R_drew)); exact HO_9.out) hb); have n3_ := Aside0.mk (Kd.R_below (by (with_reducible repeat (first | apply Kd.R_alloc | apply Kd.R_drewN | apply Kd.R_drew)); exact HO_10.out) hb); have n4_ := Aside0.mk (Kd.R_below (by (with_reducible repeat (first | apply Kd.R_alloc | apply Kd.R_drewN | apply Kd.R_drew)); exact HO_11.out) hb); have n5_ := Aside0.mk (below_step (by repeat (first | (with_reducible first | exact HB.out | apply below_alloc | apply pw_below_drewN | apply below_drew1) | exact HB.out)) hb); have n6_ := Aside0.mk (hbox); have n7_ := Aside0.mk ((by rw [hg]; exact (below_size (by repeat (first | (with_reducible first | exact HB.out | apply below_alloc | apply pw_below_drewN | apply below_drew1) | exact HB.out))) : w.heap.size ≤ gb410)); have n8_ := Aside0.mk ((by rw [hg]; exact (below_size (by repeat (first | (with_reducible first | exact HB.out | apply below_alloc | apply pw_below_drewN | apply below_drew1) | exact HB.out))) : w.heap.size ≤ gb410)); clear HO_6; clear HO_7; clear HO_9; clear HO_10; clear HO_11; clear HB; have HO_6 := n0_; have HO_7 := n1_; have HO_9 := n2_; have HO_10 := n3_; have HO_11 := n4_; have HB := n5_; have BK410 := n6_; have GW410 := n7_; have GE410 := n8_; clear n0_ n1_ n2_ n3_ n4_ n5_ n6_ n7_ n8_; clear hb hbox hg; have hcz40_0 : w39.cell? ⟨gb410, 0, none⟩ = some (.int .i64 0) := (blk_cell BK410.out 0).trans rfl; have hcz40_1 : w39.cell? ⟨gb410, 1, none⟩ = some (.int .i64 0) := (blk_cell BK410.out 1).trans rfl; have hfz40_0 := blk_frozen BK410.out 0; have hfz40_1 := blk_frozen BK410.out 1; obtain ⟨Ao41, co41, eo41⟩ := Kd.R_slice HO_10.out; subst eo41; obtain ⟨Ao42, co42, eo42⟩ := Kd.R_slice HO_11.out; subst eo42) | ((with_reducible refine gate_callee (f := 19) rfl ?_); refine goesL_ (some 77) rfl rfl Try.func19 (by kernel_rfl) rfl #[.slice Ao41 x10_1.length co41, .slice Ao42 x11_2.length co42, .int .i64 0, .int .i64 t396] rfl (by (try simp only [List.map_toArray, List.map_cons, List.map_nil]); first | done | rfl | (simp only [List.length_drop, List.length_take]; rfl)) ?_; (with_reducible refine (access_Grant.calls k2 _ _ x10_1 _ _ x11_2 0 t396 t411 t412 t413 _ ?side1 ?side2 ?side3 ?side4 A32.out).mono ?_); (case side1 => refine (Kd.R_reads' (e := 28) (base := w.heap.size) (ok := fun k_ => some k_ ≠ (.slice Ao12 t380.length co12 : Value).ownBlock) (n := x10_1.length) (c := co41) ?_).2.2; exact (by (with_reducible repeat (first | apply Kd.R_alloc | apply Kd.R_drewN | apply Kd.R_drew)); exact (Kd.R_mono (Kd.R_far (p := ⟨gb410, 1, none⟩) (Kd.R_far (p := ⟨gb410, 0, none⟩) (Kd.R_types HO_10.out BK410.out (by decide)) (fun _ hk => hk.2) (.int .i64 t407)) (fun _ hk => hk.2) (.int .i64 t408)) (fun _ h_ => h_.1)))); (case side2 => exact (Kd.R_reads' HO_10.out).2.1); (case side3 => refine (Kd.R_reads' (e := 49) (base := w.heap.size) (ok := fun k_ => some k_ ≠ (.slice Ao14 t384.length co14 : Value).ownBlock) (n := x11_2.length) (c := co42) ?_).2.2; exact (by (with_reducible repeat (first | apply Kd.R_alloc | apply Kd.R_drewN | apply Kd.R_drew)); exact (Kd.R_mono (Kd.R_far (p := ⟨gb410, 1, none⟩) (Kd.R_far (p := ⟨gb410, 0, none⟩) (Kd.R_types HO_11.out BK410.out (by decide)) (fun _ hk => hk.2) (.int .i64 t407)) (fun _ hk => hk.2) (.int .i64 t408)) (fun _ h_ => h_.1)))); (case side4 => exact (Kd.R_reads' HO_11.out).2.1); rintro e w43 ⟨rfl, hb⟩; refine ⟨_, rfl, ?_⟩; have n0_ := Aside0.mk (Kd.R_below (by (with_reducible repeat (first | apply Kd.R_alloc | apply Kd.R_drewN | apply Kd.R_drew)); exact (Kd.R_mono (Kd.R_far (p := ⟨gb410, 1, none⟩) (Kd.R_far (p := ⟨gb410, 0, none⟩) (Kd.R_types HO_6.out BK410.out (by decide)) (fun _ hk => hk.2) (.int .i64 t407)) (fun _ hk => hk.2) (.int .i64 t408)) (fun _ h_ => h_.1))) hb); have n1_ := Aside0.mk (Kd.R_below (by (with_reducible repeat (first | apply Kd.R_alloc | apply Kd.R_drewN | apply Kd.R_drew)); exact (Kd.R_mono (Kd.R_far (p := ⟨gb410, 1, none⟩) (Kd.R_far (p := ⟨gb410, 0, none⟩) (Kd.R_types HO_7.out BK410.out (by decide)) (fun _ hk => hk.2) (.int .i64 t407)) (fun _ hk => hk.2) (.int .i64 t408)) (fun _ h_ => h_.1))) hb); have n2_ := Aside0.mk (Kd.R_below (by (with_reducible repeat (first | apply Kd.R_alloc | apply Kd.R_drewN | apply Kd.R_drew)); exact (Kd.R_mono (Kd.R_far (p := ⟨gb410, 1, none⟩) (Kd.R_far (p := ⟨gb410, 0, none⟩) (Kd.R_types HO_9.out BK410.out (by decide)) (fun _ hk => hk.2) (.int .i64 t407)) (fun _ hk => hk.2) (.int .i64 t408)) (fun _ h_ => h_.1))) hb); have n3_ := Aside0.mk (Kd.R_below (by (with_reducible repeat (first | apply Kd.R_alloc | apply Kd.R_drewN | apply Kd.R_drew)); exact (Kd.R_mono (Kd.R_far (p := ⟨gb410, 1, none⟩) (Kd.R_far (p := ⟨gb410, 0, none⟩) (Kd.R_types HO_10.out BK410.out (by decide)) (fun _ hk => hk.2) (.int .i64 t407)) (fun _ hk => hk.2) (.int .i64 t408)) (fun _ h_ => h_.1))) hb); have n4_ := Aside0.mk (Kd.R_below (by (with_reducible repeat (first | apply Kd.R_alloc | apply Kd.R_drewN | apply Kd.R_drew)); exact (Kd.R_mono (Kd.R_far (p := ⟨gb410, 1, none⟩) (Kd.R_far (p := ⟨gb410, 0, none⟩) (Kd.R_types HO_11.out BK410.out (by decide)) (fun _ hk => hk.2) (.int .i64 t407)) (fun _ hk => hk.2) (.int .i64 t408)) (fun _ h_ => h_.1))) hb); have n5_ := Aside0.mk (blk_below (g := gb410) (o := .cells #[.int .i64 t407, .int .i64 t408] 38 (0, 0)) (by (with_reducible repeat (first | refine blk_drewN ?_ _ | refine blk_drew ?_ | refine blk_alloc ?_ _)); refine blk_put (cs := #[.int .i64 t407, .int .i64 0]) ?_ 1 _ rfl; (with_reducible repeat (first | refine blk_drewN ?_ _ | refine blk_drew ?_ | refine blk_alloc ?_ _)); refine blk_put (cs := #[.int .i64 0, .int .i64 0]) ?_ 0 _ rfl; (with_reducible repeat (first | refine blk_drewN ?_ _ | refine blk_drew ?_ | refine blk_alloc ?_ _)); exact BK410.out) hb); have n6_ := Aside0.mk (below_step (by repeat (first | (with_reducible first | exact HB.out | apply below_alloc | apply pw_below_drewN | apply below_drew1 | refine below_set ?_ GE410.out) | exact HB.out)) hb); clear HO_6; clear HO_7; clear HO_9; clear HO_10; clear HO_11; clear BK410; clear HB; have HO_6 := n0_; have HO_7 := n1_; have HO_9 := n2_; have HO_10 := n3_; have HO_11 := n4_; have BK410 := n5_; have HB := n6_; clear n0_ n1_ n2_ n3_ n4_ n5_ n6_; (try clear hb); (try clear hb2); (try clear hk); (try clear hi)) | ((with_reducible refine gate_dst (N := 16) rfl ?_); refine box_event ?hg (N := 16) ?hd (cs := #[.int .i64 0, .int .i64 0]) (t := 38) ?hr ?_; (case hd => rfl); (case hg => rfl); (case hr => first | (go_simp; done) | (go_simp; rfl)); intro gb414 hg w44 hbox hb; have n0_ := Aside0.mk (Kd.R_below (by (with_reducible repeat (first | apply Kd.R_alloc | apply Kd.R_drewN | apply Kd.R_drew)); exact HO_6.out) hb); have n1_ := Aside0.mk (Kd.R_below (by (with_reducible repeat (first | apply Kd.R_alloc | apply Kd.R_drewN | apply Kd.R_drew)); exact HO_7.out) hb); have n2_ := Aside0.mk (Kd.R_below (by (with_reducible repeat (first | apply Kd.R_alloc | apply Kd.R_drewN | apply Kd.R_drew)); exact HO_9.out) hb); have n3_ := Aside0.mk (Kd.R_below (by (with_reducible repeat (first | apply Kd.R_alloc | apply Kd.R_drewN | apply Kd.R_drew)); exact HO_10.out) hb); have n4_ := Aside0.mk (Kd.R_below (by (with_reducible repeat (first | apply Kd.R_alloc | apply Kd.R_drewN | apply Kd.R_drew)); exact HO_11.out) hb); have n5_ := Aside0.mk (blk_below (g := gb410) (o := .cells #[.int .i64 t407, .int .i64 t408] 38 (0, 0)) (by (with_reducible repeat (first | refine blk_drewN ?_ _ | refine blk_drew ?_ | refine blk_alloc ?_ _)); exact BK410.out) hb); have n6_ := Aside0.mk (below_step (by repeat (first | (with_reducible first | exact HB.out | apply below_alloc | apply pw_below_drewN | apply below_drew1 | refine below_set ?_ GE410.out) | exact HB.out)) hb); have n7_ := Aside0.mk (hbox); have n8_ := Aside0.mk ((by rw [hg]; exact (below_size (by repeat (first | (with_reducible first | exact HB.out | apply below_alloc | apply pw_below_drewN | apply below_drew1 | refine below_set ?_ GE410.out) | exact HB.out))) : w.heap.size ≤ gb414)); have n9_ := Aside0.mk ((by rw [hg]; exact (below_size (by repeat (first | (with_reducible first | exact HB.out | apply below_alloc | apply pw_below_drewN | apply below_drew1 | refine below_set ?_ GE410.out) | exact HB.out))) : w.heap.size ≤ gb414)); have n10_ := Aside0.mk ((by rw [hg]; exact Nat.ne_of_lt (blk_lt (g := gb410) (o := .cells #[.int .i64 t407, .int .i64 t408] 38 (0, 0)) (by (with_reducible repeat (first | refine blk_drewN ?_ _ | refine blk_drew ?_ | refine blk_alloc ?_ _)); exact BK410.out)) : gb410 ≠ gb414)); have n11_ := Aside0.mk ((by rw [hg]; exact Nat.ne_of_gt (blk_lt (g := gb410) (o := .cells #[.int .i64 t407, .int .i64 t408] 38 (0, 0)) (by (with_reducible repeat (first | refine blk_drewN ?_ _ | refine blk_drew ?_ | refine blk_alloc ?_ _)); exact BK410.out)) : gb414 ≠ gb410)); clear HO_6; clear HO_7; clear HO_9; clear HO_10; clear HO_11; clear BK410; clear HB; have HO_6 := n0_; have HO_7 := n1_; have HO_9 := n2_; have HO_10 := n3_; have HO_11 := n4_; have BK410 := n5_; have HB := n6_; have BK414 := n7_; have GW414 := n8_; have GE414 := n9_; have NB410_414 := n10_; have NB414_410 := n11_; clear n0_ n1_ n2_ n3_ n4_ n5_ n6_ n7_ n8_ n9_ n10_ n11_; clear hb hbox hg; have hnb45 := NB414_410.out; have hnc45 := NB410_414.out; have hcz46_0 : w44.cell? ⟨gb414, 0, none⟩ = some (.int .i64 0) := (blk_cell BK414.out 0).trans rfl; have hcz46_1 : w44.cell? ⟨gb414, 1, none⟩ = some (.int .i64 0) := (blk_cell BK414.out 1).trans rfl; have hfz46_0 := blk_frozen BK414.out 0; have hfz46_1 := blk_frozen BK414.out 1; have hcz47_0 : w44.cell? ⟨gb410, 0, none⟩ = some (.int .i64 t407) := (blk_cell BK410.out 0).trans rfl; have hcz47_1 : w44.cell? ⟨gb410, 1, none⟩ = some (.int .i64 t408) := (blk_cell BK410.out 1).trans rfl; have hfz47_0 := blk_frozen BK410.out 0; have hfz47_1 := blk_frozen BK410.out 1) | (go_at_call 16; (with_reducible refine (awardingbodylaw14_awake.calls k2  t415 _ A36.out).mono ?_); rintro e w48 ⟨rfl, hb⟩; have n0_ := Aside0.mk (Kd.R_below (by (with_reducible repeat (first | apply Kd.R_alloc | apply Kd.R_drewN | apply Kd.R_drew)); exact (Kd.R_mono (Kd.R_far (p := ⟨gb414, 1, none⟩) (Kd.R_far (p := ⟨gb414, 0, none⟩) (Kd.R_types HO_6.out BK414.out (by decide)) (fun _ hk => hk.2) (.int .i64 t411)) (fun _ hk => hk.2) (.int .i64 t412)) (fun _ h_ => h_.1))) hb); have n1_ := Aside0.mk (Kd.R_below (by (with_reducible repeat (first | apply Kd.R_alloc | apply Kd.R_drewN | apply Kd.R_drew)); exact (Kd.R_mono (Kd.R_far (p := ⟨gb414, 1, none⟩) (Kd.R_far (p := ⟨gb414, 0, none⟩) (Kd.R_types HO_7.out BK414.out (by decide)) (fun _ hk => hk.2) (.int .i64 t411)) (fun _ hk => hk.2) (.int .i64 t412)) (fun _ h_ => h_.1))) hb); have n2_ := Aside0.mk (Kd.R_below (by (with_reducible repeat (first | apply Kd.R_alloc | apply Kd.R_drewN | apply Kd.R_drew)); exact (Kd.R_mono (Kd.R_far (p := ⟨gb414, 1, none⟩) (Kd.R_far (p := ⟨gb414, 0, none⟩) (Kd.R_types HO_9.out BK414.out (by decide)) (fun _ hk => hk.2) (.int .i64 t411)) (fun _ hk => hk.2) (.int .i64 t412)) (fun _ h_ => h_.1))) hb); have n3_ := Aside0.mk (Kd.R_below (by (with_reducible repeat (first | apply Kd.R_alloc | apply Kd.R_drewN | apply Kd.R_drew)); exact (Kd.R_mono (Kd.R_far (p := ⟨gb414, 1, none⟩) (Kd.R_far (p := ⟨gb414, 0, none⟩) (Kd.R_types HO_10.out BK414.out (by decide)) (fun _ hk => hk.2) (.int .i64 t411)) (fun _ hk => hk.2) (.int .i64 t412)) (fun _ h_ => h_.1))) hb); have n4_ := Aside0.mk (Kd.R_below (by (with_reducible repeat (first | apply Kd.R_alloc | apply Kd.R_drewN | apply Kd.R_drew)); exact (Kd.R_mono (Kd.R_far (p := ⟨gb414, 1, none⟩) (Kd.R_far (p := ⟨gb414, 0, none⟩) (Kd.R_types HO_11.out BK414.out (by decide)) (fun _ hk => hk.2) (.int .i64 t411)) (fun _ hk => hk.2) (.int .i64 t412)) (fun _ h_ => h_.1))) hb); have n5_ := Aside0.mk (blk_below (g := gb410) (o := .cells #[.int .i64 t407, .int .i64 t408] 38 (0, 0)) (by (with_reducible repeat (first | refine blk_drewN ?_ _ | refine blk_drew ?_ | refine blk_alloc ?_ _)); refine blk_far ?_ NB410_414.out _; (with_reducible repeat (first | refine blk_drewN ?_ _ | refine blk_drew ?_ | refine blk_alloc ?_ _)); refine blk_far ?_ NB410_414.out _; (with_reducible repeat (first | refine blk_drewN ?_ _ | refine blk_drew ?_ | refine blk_alloc ?_ _)); exact BK410.out) hb); have n6_ := Aside0.mk (blk_below (g := gb414) (o := .cells #[.int .i64 t411, .int .i64 t412] 38 (0, 0)) (by (with_reducible repeat (first | refine blk_drewN ?_ _ | refine blk_drew ?_ | refine blk_alloc ?_ _)); refine blk_put (cs := #[.int .i64 t411, .int .i64 0]) ?_ 1 _ rfl; (with_reducible repeat (first | refine blk_drewN ?_ _ | refine blk_drew ?_ | refine blk_alloc ?_ _)); refine blk_put (cs := #[.int .i64 0, .int .i64 0]) ?_ 0 _ rfl; (with_reducible repeat (first | refine blk_drewN ?_ _ | refine blk_drew ?_ | refine blk_alloc ?_ _)); exact BK414.out) hb); have n7_ := Aside0.mk (below_step (by repeat (first | (with_reducible first | exact HB.out | apply below_alloc | apply pw_below_drewN | apply below_drew1 | refine below_set ?_ GE410.out | refine below_set ?_ GE414.out) | exact HB.out)) hb); clear HO_6; clear HO_7; clear HO_9; clear HO_10; clear HO_11; clear BK410; clear BK414; clear HB; have HO_6 := n0_; have HO_7 := n1_; have HO_9 := n2_; have HO_10 := n3_; have HO_11 := n4_; have BK410 := n5_; have BK414 := n6_; have HB := n7_; clear n0_ n1_ n2_ n3_ n4_ n5_ n6_ n7_; (try clear hb); (try clear hb2); (try clear hk); (try clear hi)))
          go_ret
          exact ⟨by first | rfl | (simp [errW_none, errW_some] <;> rfl) | (simp [*, errW_none, errW_some] <;> rfl), by repeat (first | (with_reducible first | exact HB.out | apply below_alloc | apply pw_below_drewN | apply below_drew1 | refine below_set ?_ GE410.out | refine below_set ?_ GE414.out) | exact HB.out)⟩
         ·rw [if_neg c35] at H
          exact absurd H (by simp)
        ·rw [if_neg c34] at H
         exact absurd H (by simp)
       ·rw [if_neg c33] at H
        exact absurd H (by simp)

/-- THE ONE PURE STATEMENT of awardingbodylaw14_AccessAnyOrder: yours. -/
def awardingbodylaw14_AccessAnyOrder.Pure : Prop := ∀ (l0 : List Int) (a1 : Int), l0.length ≤ maxLen → l0.length * 8 ≤ 140737488351232 → (∀ x ∈ l0, (Lit.int .i64 x).wf = true) → (Lit.int .i64 a1).wf = true → ∃ k, awardingbodylaw14_AccessAnyOrder.f k l0 a1 = some true
theorem awardingbodylaw14_AccessAnyOrder.walk (P : awardingbodylaw14_AccessAnyOrder.Pure) (a0 : Option Addr) (len0 cap0 : Nat) (z0 : List Int) (a1 : Int) (w : World) (w0 : (a0 = none ∧ len0 = 0 ∧ cap0 = 0 ∧ z0 = []) ∨ ∃ x, a0 = some x ∧ len0 ≤ cap0 ∧ cap0 ≤ maxLen ∧ z0.length = cap0 ∧ (∀ i, i < z0.length → w.cell? (x.add i) = some (.int .i64 (z0.getD i 0))) ∧ ∀ n ∈ z0, (Lit.int .i64 n).wf = true) (y0 : len0 * 8 ≤ 140737488351232) (w1 : (Lit.int .i64 a1).wf = true) :
  Calls Try.prog 7 #[.slice a0 len0 cap0, .int .i64 a1] w fun e w' => e = .returned (.bool true) ∧ Below w.heap.size w w' := by
 obtain ⟨l0, rfl, hr0, hm0, hw0, hc0⟩ := ReadsInt.ofRowC w0
 obtain ⟨k, h⟩ := P l0 a1 hm0 y0 hw0 w1
 refine (awardingbodylaw14_AccessAnyOrder.calls k _ _ l0 a1 true w (Kd.C_of_reads (d := (0 : Int)) (h1 := fun _ => rfl) hr0) hc0 h).mono ?_
 rintro e w' ⟨rfl, hd⟩
 exact ⟨rfl, hd⟩

end Go.Proofs.Ytbgeoadaeihgkaa.Print
