-- Printed by a program of this session (wip/own_print.py) out of the translation; Lean checks it.
import Derived.Test.YtdcfjmkeakkfjaaPrint0
import Derived.Test.YtdcfjmkeakkfjaaPrint1
import Derived.Test.YtdcfjmkeakkfjaaPrint4
import Derived.Test.YtdcfjmkeakkfjaaPrint6
import Derived.Test.YtdcfjmkeakkfjaaPrint7
import Derived.Test.YtdcfjmkeakkfjaaPrint8
import Derived.Test.YtdcfjmkeakkfjaaPrint9
namespace Go.Proofs.Ytdcfjmkeakkfjaa.Print
open Go.RowKit Go.Proofs.YtdcfjmkeakkfjaaW.PrintWords Go.Proofs.YtdcfjmkeakkfjaaW.PrintLast Go.Proofs.YtdcfjmkeakkfjaaW.PrintMore
attribute [local go_sem] max2_int min2_int max_two min_two max_three min_three max_four min_four   -- for this text's walks alone
set_option linter.unusedVariables false
set_option linter.unusedSimpArgs false

/-! ### awardingbodylaw27_MonitorSteps: function 7 -/
mutual
def awardingbodylaw27_MonitorSteps.j0 : Nat → List Int → List Bool → Bool → Option (Bool)
  | 0, _, _, _ => none
  | k + 1, x0, x1, x21 => if x21 = true then ((awardingbodylaw27_sane.f k).bind fun t383 => (some t383)) else ((awardingbodymark_Roll.f x0).bind fun bt384 => ((awardingbodymark_Dice_Monitor.f k bt384.1 bt384.2).bind fun bt387 => ((monitor_Run.f k bt387.1 bt387.2.1 bt387.2.2.1 bt387.2.2.2.1 x1).bind fun bt393 => (awardingbodylaw27_MonitorSteps.l0 k x1 bt393.1 bt393.2.2 x1 (x1.length : Int) 0 bt387.1 bt387.2.1 bt387.2.2.1 bt387.2.2.2.1 ([] : List Bool) false))))
def awardingbodylaw27_MonitorSteps.l0 : Nat → List Bool → Int → Int → List Bool → Int → Int → Int → Int → Int → Int → List Bool → Bool → Option (Bool)
  | 0, _, _, _, _, _, _, _, _, _, _, _, _ => none
  | k + 1, x1, x6, x8, x33, x34, x35, x393000, x393001, x393002, x393003, x397000, x397001 => if x35 < x34 then (if 0 ≤ x35 then (if x35 < (x33.length : Int) then ((monitor_Step.f k x393000 x393001 x393002 x393003 x397000 x397001 (rdOf false x33 x35)).bind fun bt401 => (if x397001 = true then (if x8 = 0 then (if bt401.2.2 = 8 then (if x6 = (wrap64 (x35 - 1)) then ((awardingbodylaw27_sane.f k).bind fun t407 => (some t407)) else (none)) else (none)) else (none)) else (if bt401.2.2 = 0 then ((monitor_Valid.f k x393000 x393001 x393002 x393003 bt401.1 bt401.2.1).bind fun t408 => (if t408 = true then (if (bt401.1.length : Int) = (mn x393002 (wrap64 (x35 + 1))) then (if 0 ≤ (wrap64 ((bt401.1.length : Int) - 1)) then (if (wrap64 ((bt401.1.length : Int) - 1)) < (bt401.1.length : Int) then (if ((rdOf false bt401.1 (wrap64 ((bt401.1.length : Int) - 1))) != (rdOf false x33 x35)) = true then (none) else (awardingbodylaw27_MonitorSteps.l0 k x1 x6 x8 x33 x34 (wrap64 (x35 + 1)) x393000 x393001 x393002 x393003 bt401.1 bt401.2.1)) else (none)) else (none)) else (none)) else (none))) else (none)))) else (none)) else (none)) else (if x8 = 0 then (if x6 = (wrap64 ((x1.length : Int) - 1)) then (if x397001 = true then ((awardingbodylaw27_sane.f k).bind fun t397 => (some t397)) else (if x6 = (-1) then ((awardingbodylaw27_sane.f k).bind fun t398 => (some t398)) else (none))) else (if x6 = (-1) then (if x397001 = true then (none) else ((awardingbodylaw27_sane.f k).bind fun t399 => (some t399))) else (none))) else (none))
end
def awardingbodylaw27_MonitorSteps.f (k : Nat) (l0 : List Int) (l1 : List Bool) : Option (Bool) := (awardingbodymark_Light.f l0).bind fun t382 => (if t382 = true then (awardingbodylaw27_MonitorSteps.j0 k l0 l1 (decide ((l1.length : Int) > 60))) else (awardingbodylaw27_MonitorSteps.j0 k l0 l1 true))
theorem awardingbodylaw27_MonitorSteps.mono_l : ∀ k, (∀ y0 y1 y2, LeO (awardingbodylaw27_MonitorSteps.j0 k y0 y1 y2) (awardingbodylaw27_MonitorSteps.j0 (k + 1) y0 y1 y2)) ∧ (∀ y0 y1 y2 y3 y4 y5 y6 y7 y8 y9 y10 y11, LeO (awardingbodylaw27_MonitorSteps.l0 k y0 y1 y2 y3 y4 y5 y6 y7 y8 y9 y10 y11) (awardingbodylaw27_MonitorSteps.l0 (k + 1) y0 y1 y2 y3 y4 y5 y6 y7 y8 y9 y10 y11))
  | 0 => ⟨fun _ _ _ r h => by simp [awardingbodylaw27_MonitorSteps.j0] at h, fun _ _ _ _ _ _ _ _ _ _ _ _ r h => by simp [awardingbodylaw27_MonitorSteps.l0] at h⟩
  | k + 1 => by
    obtain ⟨ih0, ih1⟩ := awardingbodylaw27_MonitorSteps.mono_l k
    refine ⟨?_, ?_⟩
    · intro y0 y1 y2
      unfold awardingbodylaw27_MonitorSteps.j0
      repeat' first
      | (with_reducible exact ih0 _ _ _)
      | (with_reducible exact ih1 _ _ _ _ _ _ _ _ _ _ _ _)
      | (with_reducible exact awardingbodylaw27_sane.mono _)
      | (with_reducible exact awardingbodymark_Dice_Monitor.mono _ _ _)
      | (with_reducible exact monitor_Run.mono _ _ _ _ _ _)
      | (with_reducible exact monitor_Step.mono _ _ _ _ _ _ _ _)
      | (with_reducible exact monitor_Valid.mono _ _ _ _ _ _ _)
      | (with_reducible exact LeO.refl _)
      | (with_reducible exact LeO.none _)
      | (with_reducible refine LeO.ite ?_ ?_)
      | (with_reducible refine LeO.bind ?_ (fun _ => ?_))
      | exact ih0 _ _ _
      | exact ih1 _ _ _ _ _ _ _ _ _ _ _ _
      | exact awardingbodylaw27_sane.mono _
      | exact awardingbodymark_Dice_Monitor.mono _ _ _
      | exact monitor_Run.mono _ _ _ _ _ _
      | exact monitor_Step.mono _ _ _ _ _ _ _ _
      | exact monitor_Valid.mono _ _ _ _ _ _ _
      | exact LeO.none _
      | refine LeO.ite ?_ ?_
      | refine LeO.bind ?_ (fun _ => ?_)
    · intro y0 y1 y2 y3 y4 y5 y6 y7 y8 y9 y10 y11
      unfold awardingbodylaw27_MonitorSteps.l0
      repeat' first
      | (with_reducible exact ih0 _ _ _)
      | (with_reducible exact ih1 _ _ _ _ _ _ _ _ _ _ _ _)
      | (with_reducible exact awardingbodylaw27_sane.mono _)
      | (with_reducible exact awardingbodymark_Dice_Monitor.mono _ _ _)
      | (with_reducible exact monitor_Run.mono _ _ _ _ _ _)
      | (with_reducible exact monitor_Step.mono _ _ _ _ _ _ _ _)
      | (with_reducible exact monitor_Valid.mono _ _ _ _ _ _ _)
      | (with_reducible exact LeO.refl _)
      | (with_reducible exact LeO.none _)
      | (with_reducible refine LeO.ite ?_ ?_)
      | (with_reducible refine LeO.bind ?_ (fun _ => ?_))
      | exact ih0 _ _ _
      | exact ih1 _ _ _ _ _ _ _ _ _ _ _ _
      | exact awardingbodylaw27_sane.mono _
      | exact awardingbodymark_Dice_Monitor.mono _ _ _
      | exact monitor_Run.mono _ _ _ _ _ _
      | exact monitor_Step.mono _ _ _ _ _ _ _ _
      | exact monitor_Valid.mono _ _ _ _ _ _ _
      | exact LeO.none _
      | refine LeO.ite ?_ ?_
      | refine LeO.bind ?_ (fun _ => ?_)
theorem awardingbodylaw27_MonitorSteps.mono : ∀ a0 a1 k, LeO (awardingbodylaw27_MonitorSteps.f k a0 a1) (awardingbodylaw27_MonitorSteps.f (k + 1) a0 a1) := by
  intro a0 a1 k
  obtain ⟨ih0, ih1⟩ := awardingbodylaw27_MonitorSteps.mono_l k
  unfold awardingbodylaw27_MonitorSteps.f
  repeat' first
      | (with_reducible exact ih0 _ _ _)
      | (with_reducible exact ih1 _ _ _ _ _ _ _ _ _ _ _ _)
      | (with_reducible exact awardingbodylaw27_sane.mono _)
      | (with_reducible exact awardingbodymark_Dice_Monitor.mono _ _ _)
      | (with_reducible exact monitor_Run.mono _ _ _ _ _ _)
      | (with_reducible exact monitor_Step.mono _ _ _ _ _ _ _ _)
      | (with_reducible exact monitor_Valid.mono _ _ _ _ _ _ _)
      | (with_reducible exact LeO.refl _)
      | (with_reducible exact LeO.none _)
      | (with_reducible refine LeO.ite ?_ ?_)
      | (with_reducible refine LeO.bind ?_ (fun _ => ?_))
      | exact ih0 _ _ _
      | exact ih1 _ _ _ _ _ _ _ _ _ _ _ _
      | exact awardingbodylaw27_sane.mono _
      | exact awardingbodymark_Dice_Monitor.mono _ _ _
      | exact monitor_Run.mono _ _ _ _ _ _
      | exact monitor_Step.mono _ _ _ _ _ _ _ _
      | exact monitor_Valid.mono _ _ _ _ _ _ _
      | exact LeO.none _
      | refine LeO.ite ?_ ?_
      | refine LeO.bind ?_ (fun _ => ?_)
set_option maxHeartbeats 8000000 in
set_option maxRecDepth 100000 in
theorem awardingbodylaw27_MonitorSteps.calls (k : Nat) (A0 : Option Addr) (c0 : Nat) (l0 : List Int) (A1 : Option Addr) (c1 : Nat) (l1 : List Bool) (r : Bool) (w : World) (hr0 : Kd.C (Kd.int .i64) w A0 l0.length l0) (hc0 : l0.length ≤ c0) (hr1 : Kd.C Kd.bool w A1 l1.length l1) (hc1 : l1.length ≤ c1) (h : awardingbodylaw27_MonitorSteps.f k l0 l1 = some r) :
    Calls Try.prog 7 #[.slice A0 l0.length c0, .slice A1 l1.length c1] w fun e w' => e = .returned (.bool r) ∧ Below w.heap.size w w' := by
 have hu24 := Try.underlying24
 have hu27 := Try.underlying27
 have HR0 := Aside0.mk hr0
 have HC0 := Aside0.mk hc0
 clear hr0 hc0
 have HR1 := Aside0.mk hr1
 have HC1 := Aside0.mk hc1
 clear hr1 hc1
 have HB := Aside0.mk (Below.refl w.heap.size w)
 have H : ((awardingbodymark_Light.f l0).bind fun t382 => (if t382 = true then (awardingbodylaw27_MonitorSteps.j0 k l0 l1 (decide ((l1.length : Int) > 60))) else (awardingbodylaw27_MonitorSteps.j0 k l0 l1 true))) = some r := h
 clear h
 have HC3 := Aside0.mk H
 clear H
 go_enter Try.func7, Try.ntmps7
 go_upto_region 1 with (fail)
 go_cut [21] (fun v21 wc => ∃ (kq : Nat) (x21_2 : Bool), v21 = .bool x21_2 ∧ Aside0 (awardingbodylaw27_MonitorSteps.j0 kq l0 l1 x21_2 = some r) ∧ Aside0 (kq ≤ k) ∧ Aside0 (Below w.heap.size w wc))
 case first =>
  have H := HC3.out
  clear HC3
  replace H := Option.bind_eq_some_iff.mp H
  obtain ⟨t382, A40, H⟩ := H
  replace H : (if t382 = true then (awardingbodylaw27_MonitorSteps.j0 k l0 l1 (decide ((l1.length : Int) > 60))) else (awardingbodylaw27_MonitorSteps.j0 k l0 l1 true)) = some r := H
  have A4 := Aside0.mk A40
  clear A40
  by_cases c5 : t382 = true
  ·subst c5
   have H1 : (awardingbodylaw27_MonitorSteps.j0 k l0 l1 (decide ((l1.length : Int) > 60))) = some r := by rw [if_pos rfl] at H; exact H
   clear H
   have H := H1
   clear H1
   have H' := Aside0.mk H
   clear H
   go_wp2_with (first | ((with_reducible refine gate_callee (f := 8) rfl ?_); refine goesL_ (some 15) rfl rfl Try.func8 (by kernel_rfl) rfl #[.slice A0 l0.length c0] rfl (by (try simp only [List.map_toArray, List.map_cons, List.map_nil]); first | done | rfl | (simp only [List.length_drop, List.length_take]; rfl)) ?_; (with_reducible refine (awardingbodymark_Light.calls _ _ l0 true _ ?side1 ?side2 A4.out).mono ?_); (case side1 => repeat (first | exact (Kd.C_below HR0.out HB.out) | (with_reducible refine Kd.C_alloc ?_ _) | (with_reducible refine Kd.C_drewN ?_ _) | (with_reducible refine Kd.C_drew ?_))); (case side2 => exact HC0.out); rintro e w' ⟨rfl, ⟨nd, rfl⟩⟩; refine ⟨_, rfl, ?_⟩))
   go_meet
   case rel => exact ⟨_, (decide ((l1.length : Int) > 60)), (by first | rfl | (simp; done) | (simp [*]; done)), H', ⟨by first | omega | exact Nat.le_refl _⟩, ⟨by repeat (first | (with_reducible first | exact HB.out | apply below_alloc | apply pw_below_drewN | apply below_drew1) | exact HB.out)⟩⟩
  ·replace c5 := Bool.eq_false_iff.mpr c5
   subst c5
   have H1 : (awardingbodylaw27_MonitorSteps.j0 k l0 l1 true) = some r := by rw [if_neg (show ¬ (false = true) by decide)] at H; exact H
   clear H
   have H := H1
   clear H1
   have H' := Aside0.mk H
   clear H
   go_wp2_with (first | ((with_reducible refine gate_callee (f := 8) rfl ?_); refine goesL_ (some 15) rfl rfl Try.func8 (by kernel_rfl) rfl #[.slice A0 l0.length c0] rfl (by (try simp only [List.map_toArray, List.map_cons, List.map_nil]); first | done | rfl | (simp only [List.length_drop, List.length_take]; rfl)) ?_; (with_reducible refine (awardingbodymark_Light.calls _ _ l0 false _ ?side1 ?side2 A4.out).mono ?_); (case side1 => repeat (first | exact (Kd.C_below HR0.out HB.out) | (with_reducible refine Kd.C_alloc ?_ _) | (with_reducible refine Kd.C_drewN ?_ _) | (with_reducible refine Kd.C_drew ?_))); (case side2 => exact HC0.out); rintro e w' ⟨rfl, ⟨nd, rfl⟩⟩; refine ⟨_, rfl, ?_⟩))
   go_meet
   case rel => exact ⟨_, (true), (by first | rfl | (simp; done) | (simp [*]; done)), H', ⟨by first | omega | exact Nat.le_refl _⟩, ⟨by repeat (first | (with_reducible first | exact HB.out | apply below_alloc | apply pw_below_drewN | apply below_drew1) | exact HB.out)⟩⟩
 case rest =>
  clear HC3
  try clear c1
  try clear p2
  try clear c5
  obtain ⟨kq, x21_2, rfl, HA, HJ2, HB⟩ := hcut
  cases kq with
  | zero => exact absurd HA.out (by simp [awardingbodylaw27_MonitorSteps.j0])
  | succ kj2 =>
   have H := HA.out
   clear HA
   simp only [awardingbodylaw27_MonitorSteps.j0] at H
   by_cases c6 : x21_2 = true
   ·subst c6
    have H1 : ((awardingbodylaw27_sane.f kj2).bind fun t383 => (some t383)) = some r := by rw [if_pos rfl] at H; exact H
    clear H
    have H := H1
    clear H1
    replace H := Option.bind_eq_some_iff.mp H
    obtain ⟨t383, A70, H⟩ := H
    replace H : (some t383) = some r := H
    have A7 := Aside0.mk A70
    clear A70
    obtain rfl := Option.some.inj H
    go_wp2_with (first | ((with_reducible refine gate_callee (f := 9) rfl ?_); refine goesL_ (some 22) rfl rfl Try.func9 (by kernel_rfl) rfl #[] rfl (by (try simp only [List.map_toArray, List.map_cons, List.map_nil]); first | done | rfl | (simp only [List.length_drop, List.length_take]; rfl)) ?_; (with_reducible refine (awardingbodylaw27_sane.calls kj2  t383 _ A7.out).mono ?_); rintro e w8 ⟨rfl, hb⟩; refine ⟨_, rfl, ?_⟩; have n0_ := Aside0.mk (below_step (by repeat (first | (with_reducible first | exact HB.out | apply below_alloc | apply pw_below_drewN | apply below_drew1) | exact HB.out)) hb); clear HB; have HB := n0_; clear n0_; (try clear hb); (try clear hb2); (try clear hk); (try clear hi)))
    go_ret
    exact ⟨by first | rfl | (simp [errW_none, errW_some] <;> rfl) | (simp [*, errW_none, errW_some] <;> rfl), by repeat (first | (with_reducible first | exact HB.out | apply below_alloc | apply pw_below_drewN | apply below_drew1) | exact HB.out)⟩
   ·replace c6 := Bool.eq_false_iff.mpr c6
    subst c6
    have H1 : ((awardingbodymark_Roll.f l0).bind fun bt384 => ((awardingbodymark_Dice_Monitor.f kj2 bt384.1 bt384.2).bind fun bt387 => ((monitor_Run.f kj2 bt387.1 bt387.2.1 bt387.2.2.1 bt387.2.2.2.1 l1).bind fun bt393 => (awardingbodylaw27_MonitorSteps.l0 kj2 l1 bt393.1 bt393.2.2 l1 (l1.length : Int) 0 bt387.1 bt387.2.1 bt387.2.2.1 bt387.2.2.2.1 ([] : List Bool) false)))) = some r := by rw [if_neg (show ¬ (false = true) by decide)] at H; exact H
    clear H
    have H := H1
    clear H1
    replace H := Option.bind_eq_some_iff.mp H
    obtain ⟨⟨t384, t385⟩, A90, H⟩ := H
    replace H : ((awardingbodymark_Dice_Monitor.f kj2 t384 t385).bind fun bt387 => ((monitor_Run.f kj2 bt387.1 bt387.2.1 bt387.2.2.1 bt387.2.2.2.1 l1).bind fun bt393 => (awardingbodylaw27_MonitorSteps.l0 kj2 l1 bt393.1 bt393.2.2 l1 (l1.length : Int) 0 bt387.1 bt387.2.1 bt387.2.2.1 bt387.2.2.2.1 ([] : List Bool) false))) = some r := H
    have A9 := Aside0.mk A90
    clear A90
    replace H := Option.bind_eq_some_iff.mp H
    obtain ⟨⟨t387, t388, t389, t390, t391⟩, A100, H⟩ := H
    replace H : ((monitor_Run.f kj2 t387 t388 t389 t390 l1).bind fun bt393 => (awardingbodylaw27_MonitorSteps.l0 kj2 l1 bt393.1 bt393.2.2 l1 (l1.length : Int) 0 t387 t388 t389 t390 ([] : List Bool) false)) = some r := H
    have A10 := Aside0.mk A100
    clear A100
    replace H := Option.bind_eq_some_iff.mp H
    obtain ⟨⟨t393, t394, t395⟩, A110, H⟩ := H
    replace H : (awardingbodylaw27_MonitorSteps.l0 kj2 l1 t393 t395 l1 (l1.length : Int) 0 t387 t388 t389 t390 ([] : List Bool) false) = some r := H
    have A11 := Aside0.mk A110
    clear A110
    have H' := Aside0.mk H
    clear H
    go_wp2_with (first | ((with_reducible refine gate_callee (f := 10) rfl ?_); refine goesL_ (some 24) rfl rfl Try.func10 (by kernel_rfl) rfl #[.slice A0 l0.length c0] rfl (by (try simp only [List.map_toArray, List.map_cons, List.map_nil]); first | done | rfl | (simp only [List.length_drop, List.length_take]; rfl)) ?_; (with_reducible refine (awardingbodymark_Roll.calls _ _ l0 t384 t385 w _ ?side1 ?side2 ?side3 A9.out).mono ?_); (case side1 => repeat (first | (with_reducible first | exact HB.out | apply below_alloc | apply pw_below_drewN | apply below_drew1) | exact HB.out)); (case side2 => exact HR0.out); (case side3 => exact HC0.out); rintro e w12 ⟨g386, rfl, hi, hb, hb2⟩; refine ⟨_, rfl, ?_⟩; have n0_ := Aside0.mk (hb); have n1_ := Aside0.mk (hi); clear HB; have HB := n0_; have HI386 := n1_; clear n0_ n1_; (try clear hb); (try clear hb2); (try clear hk); (try clear hi)) | ((with_reducible refine gate_callee (f := 11) rfl ?_); refine goesL_ (some 25) rfl rfl Try.func11 (by kernel_rfl) rfl #[.pointer (some ⟨g386, 0, none⟩)] rfl (by (try simp only [List.map_toArray, List.map_cons, List.map_nil]); first | done | rfl | (simp only [List.length_drop, List.length_take]; rfl)) ?_; (with_reducible refine (awardingbodymark_Dice_Monitor.calls kj2 g386 t384 t385 t387 t388 t389 t390 t391 w _ ?side1 ?side2 A10.out).mono ?_); (case side1 => repeat (first | (with_reducible first | exact HI386.out | apply IsS53.alloc | apply IsS53.drewN | apply IsS53.drew | apply IsS53.set_1) | exact HI386.out)); (case side2 => repeat (first | (with_reducible first | exact HB.out | apply below_alloc | apply pw_below_drewN | apply below_drew1 | refine below_set ?_ (IsS53.ge HI386.out)) | exact HB.out)); rintro e w13 ⟨rfl, hi, hb, hk⟩; refine ⟨_, rfl, ?_⟩; have n0_ := Aside0.mk (hb); have n1_ := Aside0.mk (hi); clear HB HI386; have HB := n0_; have HI386 := n1_; clear n0_ n1_; (try clear hb); (try clear hb2); (try clear hk); (try clear hi)) | ((with_reducible refine gate_dst (N := 5) rfl ?_); (try (refine gate_guard (by rfl) ?_; dsimp only)); refine box_event ?hg (N := 5) ?hd (cs := #[.int .i64 0, .int .i64 0, .int .i64 0, .int .i64 0]) (t := 24) ?hr ?_; (case hd => rfl); (case hg => rfl); (case hr => first | (go_simp; done) | (go_simp; rfl)); intro gb392 hg w14 hbox hb; have n0_ := Aside0.mk (IsS53.below (by repeat (first | (with_reducible first | exact HI386.out | apply IsS53.alloc | apply IsS53.drewN | apply IsS53.drew | apply IsS53.set_1) | exact HI386.out)) hb); have n1_ := Aside0.mk (below_step (by repeat (first | (with_reducible first | exact HB.out | apply below_alloc | apply pw_below_drewN | apply below_drew1 | refine below_set ?_ (IsS53.ge HI386.out)) | exact HB.out)) hb); have n2_ := Aside0.mk (hbox); have n3_ := Aside0.mk ((by rw [hg]; exact (below_size (by repeat (first | (with_reducible first | exact HB.out | apply below_alloc | apply pw_below_drewN | apply below_drew1 | refine below_set ?_ (IsS53.ge HI386.out)) | exact HB.out))) : w.heap.size ≤ gb392)); have n4_ := Aside0.mk ((by rw [hg]; exact (below_size (by repeat (first | (with_reducible first | exact HB.out | apply below_alloc | apply pw_below_drewN | apply below_drew1 | refine below_set ?_ (IsS53.ge HI386.out)) | exact HB.out))) : w.heap.size ≤ gb392)); have n5_ := Aside0.mk ((by rw [hg]; exact Nat.ne_of_lt (IsS53.lt (show IsS53 w _ g386 t384 t391 from by repeat (first | (with_reducible first | exact HI386.out | apply IsS53.alloc | apply IsS53.drewN | apply IsS53.drew | apply IsS53.set_1) | exact HI386.out))) : g386 ≠ gb392)); have n6_ := Aside0.mk ((by rw [hg]; exact Nat.ne_of_gt (IsS53.lt (show IsS53 w _ g386 t384 t391 from by repeat (first | (with_reducible first | exact HI386.out | apply IsS53.alloc | apply IsS53.drewN | apply IsS53.drew | apply IsS53.set_1) | exact HI386.out))) : gb392 ≠ g386)); clear HI386 HB; have HI386 := n0_; have HB := n1_; have BK392 := n2_; have GW392 := n3_; have GE392 := n4_; have NB386_392 := n5_; have NB392_386 := n6_; clear n0_ n1_ n2_ n3_ n4_ n5_ n6_ hb hbox hg; have hnb15 := NB392_386.out; have hnc15 := NB386_392.out; have hcz16_0 : w14.cell? ⟨gb392, 0, none⟩ = some (.int .i64 0) := (blk_cell BK392.out 0).trans rfl; have hcz16_1 : w14.cell? ⟨gb392, 1, none⟩ = some (.int .i64 0) := (blk_cell BK392.out 1).trans rfl; have hcz16_2 : w14.cell? ⟨gb392, 2, none⟩ = some (.int .i64 0) := (blk_cell BK392.out 2).trans rfl; have hcz16_3 : w14.cell? ⟨gb392, 3, none⟩ = some (.int .i64 0) := (blk_cell BK392.out 3).trans rfl; have hfz16_0 := blk_frozen BK392.out 0; have hfz16_1 := blk_frozen BK392.out 1; have hfz16_2 := blk_frozen BK392.out 2; have hfz16_3 := blk_frozen BK392.out 3) | ((with_reducible refine gate_callee (f := 20) rfl ?_); refine goesL_ (some 29) rfl rfl Try.func20 (by kernel_rfl) rfl #[.agg #[.int .i64 t387, .int .i64 t388, .int .i64 t389, .int .i64 t390], .slice A1 l1.length c1] rfl (by (try simp only [List.map_toArray, List.map_cons, List.map_nil]); first | done | rfl | (simp only [List.length_drop, List.length_take]; rfl)) ?_; (with_reducible refine (monitor_Run.calls kj2 t387 t388 t389 t390 _ _ l1 t393 t394 t395 _ ?side1 ?side2 A11.out).mono ?_); (case side1 => exact Kd.C_below HR1.out (by repeat (first | (with_reducible first | exact HB.out | apply below_alloc | apply pw_below_drewN | apply below_drew1 | refine below_set ?_ (IsS53.ge HI386.out) | refine below_set ?_ GE392.out) | exact HB.out))); (case side2 => exact HC1.out); rintro e w17 ⟨rfl, hb⟩; refine ⟨_, rfl, ?_⟩; have n0_ := Aside0.mk (IsS53.below (show IsS53 w ((((w14.setCell ⟨gb392, 0, none⟩ (.int .i64 t387)).setCell ⟨gb392, 1, none⟩ (.int .i64 t388)).setCell ⟨gb392, 2, none⟩ (.int .i64 t389)).setCell ⟨gb392, 3, none⟩ (.int .i64 t390)) g386 t384 t391 from by repeat (first | (with_reducible first | exact HI386.out | apply IsS53.alloc | apply IsS53.drewN | apply IsS53.drew | apply IsS53.set_1 | refine IsS53.far ?_ NB386_392.out _) | exact HI386.out)) hb); have n1_ := Aside0.mk (blk_below (g := gb392) (o := .cells #[.int .i64 t387, .int .i64 t388, .int .i64 t389, .int .i64 t390] 24 (0, 0)) (by (with_reducible repeat (first | refine blk_drewN ?_ _ | refine blk_drew ?_ | refine blk_alloc ?_ _)); refine blk_put (cs := #[.int .i64 t387, .int .i64 t388, .int .i64 t389, .int .i64 0]) ?_ 3 _ rfl; (with_reducible repeat (first | refine blk_drewN ?_ _ | refine blk_drew ?_ | refine blk_alloc ?_ _)); refine blk_put (cs := #[.int .i64 t387, .int .i64 t388, .int .i64 0, .int .i64 0]) ?_ 2 _ rfl; (with_reducible repeat (first | refine blk_drewN ?_ _ | refine blk_drew ?_ | refine blk_alloc ?_ _)); refine blk_put (cs := #[.int .i64 t387, .int .i64 0, .int .i64 0, .int .i64 0]) ?_ 1 _ rfl; (with_reducible repeat (first | refine blk_drewN ?_ _ | refine blk_drew ?_ | refine blk_alloc ?_ _)); refine blk_put (cs := #[.int .i64 0, .int .i64 0, .int .i64 0, .int .i64 0]) ?_ 0 _ rfl; (with_reducible repeat (first | refine blk_drewN ?_ _ | refine blk_drew ?_ | refine blk_alloc ?_ _)); exact BK392.out) hb); have n2_ := Aside0.mk (below_step (by repeat (first | (with_reducible first | exact HB.out | apply below_alloc | apply pw_below_drewN | apply below_drew1 | refine below_set ?_ (IsS53.ge HI386.out) | refine below_set ?_ GE392.out) | exact HB.out)) hb); clear HI386 BK392 HB; have HI386 := n0_; have BK392 := n1_; have HB := n2_; clear n0_ n1_ n2_; (try clear hb); (try clear hb2); (try clear hk); (try clear hi)) | ((with_reducible refine gate_dst (N := 9) rfl ?_); (try (refine gate_guard (by rfl) ?_; dsimp only)); refine box_event ?hg (N := 9) ?hd (cs := #[.slice none 0 0, .bool false]) (t := 27) ?hr ?_; (case hd => rfl); (case hg => rfl); (case hr => first | (go_simp; done) | (go_simp; rfl)); intro gb396 hg w18 hbox hb; have n0_ := Aside0.mk (IsS53.below (by repeat (first | (with_reducible first | exact HI386.out | apply IsS53.alloc | apply IsS53.drewN | apply IsS53.drew | apply IsS53.set_1 | refine IsS53.far ?_ NB386_392.out _) | exact HI386.out)) hb); have n1_ := Aside0.mk (blk_below (g := gb392) (o := .cells #[.int .i64 t387, .int .i64 t388, .int .i64 t389, .int .i64 t390] 24 (0, 0)) (by (with_reducible repeat (first | refine blk_drewN ?_ _ | refine blk_drew ?_ | refine blk_alloc ?_ _)); exact BK392.out) hb); have n2_ := Aside0.mk (below_step (by repeat (first | (with_reducible first | exact HB.out | apply below_alloc | apply pw_below_drewN | apply below_drew1 | refine below_set ?_ (IsS53.ge HI386.out) | refine below_set ?_ GE392.out) | exact HB.out)) hb); have n3_ := Aside0.mk (hbox); have n4_ := Aside0.mk ((by rw [hg]; exact (below_size (by repeat (first | (with_reducible first | exact HB.out | apply below_alloc | apply pw_below_drewN | apply below_drew1 | refine below_set ?_ (IsS53.ge HI386.out) | refine below_set ?_ GE392.out) | exact HB.out))) : w.heap.size ≤ gb396)); have n5_ := Aside0.mk ((by rw [hg]; exact (below_size (by repeat (first | (with_reducible first | exact HB.out | apply below_alloc | apply pw_below_drewN | apply below_drew1 | refine below_set ?_ (IsS53.ge HI386.out) | refine below_set ?_ GE392.out) | exact HB.out))) : w.heap.size ≤ gb396)); have n6_ := Aside0.mk ((by rw [hg]; exact Nat.ne_of_lt (blk_lt (g := gb392) (o := .cells #[.int .i64 t387, .int .i64 t388, .int .i64 t389, .int .i64 t390] 24 (0, 0)) (by (with_reducible repeat (first | refine blk_drewN ?_ _ | refine blk_drew ?_ | refine blk_alloc ?_ _)); exact BK392.out)) : gb392 ≠ gb396)); have n7_ := Aside0.mk ((by rw [hg]; exact Nat.ne_of_gt (blk_lt (g := gb392) (o := .cells #[.int .i64 t387, .int .i64 t388, .int .i64 t389, .int .i64 t390] 24 (0, 0)) (by (with_reducible repeat (first | refine blk_drewN ?_ _ | refine blk_drew ?_ | refine blk_alloc ?_ _)); exact BK392.out)) : gb396 ≠ gb392)); have n8_ := Aside0.mk ((by rw [hg]; exact Nat.ne_of_lt (IsS53.lt (show IsS53 w _ g386 t384 t391 from by repeat (first | (with_reducible first | exact HI386.out | apply IsS53.alloc | apply IsS53.drewN | apply IsS53.drew | apply IsS53.set_1 | refine IsS53.far ?_ NB386_392.out _) | exact HI386.out))) : g386 ≠ gb396)); have n9_ := Aside0.mk ((by rw [hg]; exact Nat.ne_of_gt (IsS53.lt (show IsS53 w _ g386 t384 t391 from by repeat (first | (with_reducible first | exact HI386.out | apply IsS53.alloc | apply IsS53.drewN | apply IsS53.drew | apply IsS53.set_1 | refine IsS53.far ?_ NB386_392.out _) | exact HI386.out))) : gb396 ≠ g386)); clear HI386 BK392 HB; have HI386 := n0_; have BK392 := n1_; have HB := n2_; have BK396 := n3_; have GW396 := n4_; have GE396 := n5_; have NB392_396 := n6_; have NB396_392 := n7_; have NB386_396 := n8_; have NB396_386 := n9_; clear n0_ n1_ n2_ n3_ n4_ n5_ n6_ n7_ n8_ n9_ hb hbox hg))
    go_loopg [35] kj2 (fun kq v35 w' => ∃ (x35_2 : Int) (x397000_2 : List Bool) (x397001_2 : Bool) (u397000 : Value), v35 = .int .i64 x35_2 ∧ Aside0 (awardingbodylaw27_MonitorSteps.l0 kq l1 t393 t395 l1 (l1.length : Int) x35_2 t387 t388 t389 t390 x397000_2 x397001_2 = some r) ∧ Aside0 (kq ≤ kj2) ∧ Aside0 (Kd.Q Kd.bool 4 w' w.heap.size (fun _ => True) u397000 x397000_2) ∧ Aside0 (w'.heap[gb392]? = some (.cells #[.int .i64 t387, .int .i64 t388, .int .i64 t389, .int .i64 t390] 24 (0, 0))) ∧ Aside0 (w'.heap[gb396]? = some (.cells #[u397000, .bool x397001_2] 27 (0, 0))) ∧ Aside0 (Below w.heap.size w w'))
    case atStart => exact ⟨(0), (([] : List Bool)), (false), (.slice none 0 0), (by first | rfl | (simp; done) | (simp [*]; done)), H', ⟨Nat.le_refl _⟩, ⟨Kd.Q_of_R (by first | exact Kd.R_nil _ _ _ _ _ | exact Kd.N_nil _ _ _ _ _ | exact Kd.V_nil _ _ _ _ _ | exact Kd.Q_nil _ _ _ _ _ | exact Kd.S_nil _ _ _ _ _)⟩, ⟨by (with_reducible repeat (first | refine blk_drewN ?_ _ | refine blk_drew ?_ | refine blk_alloc ?_ _)); exact BK392.out⟩, ⟨by (with_reducible repeat (first | refine blk_drewN ?_ _ | refine blk_drew ?_ | refine blk_alloc ?_ _)); exact BK396.out⟩, ⟨by repeat (first | (with_reducible first | exact HB.out | apply below_alloc | apply pw_below_drewN | apply below_drew1 | refine below_set ?_ (IsS53.ge HI386.out) | refine below_set ?_ GE392.out | refine below_set ?_ GE396.out) | exact HB.out)⟩⟩
    case round =>
     clear H'
     try clear c1
     try clear c2
     try clear p2
     try clear c5
     try clear c6
     try clear c7
     try clear c8
     try clear c9
     try clear c10
     try clear c11
     try clear c15
     try clear hcz16_0
     try clear hcz16_1
     try clear hcz16_2
     try clear hcz16_3
     try clear hfz16_0
     try clear hfz16_1
     try clear hfz16_2
     try clear hfz16_3
     try clear p2
     obtain ⟨x35_2, x397000_2, x397001_2, u397000, rfl, HA, HK2, HO_397000, BK392, BK396, HB⟩ := hrel
     cases gk with
     | zero => exact absurd HA.out (by simp [awardingbodylaw27_MonitorSteps.l0])
     | succ k2 =>
      have H := HA.out
      clear HA
      simp only [awardingbodylaw27_MonitorSteps.l0] at H
      by_cases c19 : x35_2 < (l1.length : Int)
      ·rw [if_pos c19] at H
       have c19b0 : decide (x35_2 < (l1.length : Int)) = true := decide_eq_true c19
       clear c19
       by_cases c20 : 0 ≤ x35_2
       ·rw [if_pos c20] at H
        have c20b0 : decide (0 ≤ x35_2) = true := decide_eq_true c20
        clear c20
        by_cases c21 : x35_2 < (l1.length : Int)
        ·rw [if_pos c21] at H
         have c21b0 : decide (x35_2 < (l1.length : Int)) = true := decide_eq_true c21
         clear c21
         replace H := Option.bind_eq_some_iff.mp H
         obtain ⟨⟨t401, t404, t405⟩, A220, H⟩ := H
         replace H : (if x397001_2 = true then (if t395 = 0 then (if t405 = 8 then (if t393 = (wrap64 (x35_2 - 1)) then ((awardingbodylaw27_sane.f k2).bind fun t407 => (some t407)) else (none)) else (none)) else (none)) else (if t405 = 0 then ((monitor_Valid.f k2 t387 t388 t389 t390 t401 t404).bind fun t408 => (if t408 = true then (if (t401.length : Int) = (mn t389 (wrap64 (x35_2 + 1))) then (if 0 ≤ (wrap64 ((t401.length : Int) - 1)) then (if (wrap64 ((t401.length : Int) - 1)) < (t401.length : Int) then (if ((rdOf false t401 (wrap64 ((t401.length : Int) - 1))) != (rdOf false l1 x35_2)) = true then (none) else (awardingbodylaw27_MonitorSteps.l0 k2 l1 t393 t395 l1 (l1.length : Int) (wrap64 (x35_2 + 1)) t387 t388 t389 t390 t401 t404)) else (none)) else (none)) else (none)) else (none))) else (none))) = some r := H
         have A22 := Aside0.mk A220
         clear A220
         by_cases c23 : x397001_2 = true
         ·subst c23
          have H1 : (if t395 = 0 then (if t405 = 8 then (if t393 = (wrap64 (x35_2 - 1)) then ((awardingbodylaw27_sane.f k2).bind fun t407 => (some t407)) else (none)) else (none)) else (none)) = some r := by rw [if_pos rfl] at H; exact H
          clear H
          have H := H1
          clear H1
          by_cases c24 : t395 = 0
          ·rw [if_pos c24] at H
           have c24b0 : (t395 == 0) = true := beq_iff_eq.mpr c24
           have c24b1 : (t395 != 0) = false := bne_eq_false_iff_eq.mpr c24
           clear c24
           by_cases c25 : t405 = 8
           ·rw [if_pos c25] at H
            have c25b0 : (t405 == 8) = true := beq_iff_eq.mpr c25
            have c25b1 : (t405 != 8) = false := bne_eq_false_iff_eq.mpr c25
            clear c25
            by_cases c26 : t393 = (wrap64 (x35_2 - 1))
            ·rw [if_pos c26] at H
             have c26b0 : (t393 == (wrap64 (x35_2 - 1))) = true := beq_iff_eq.mpr c26
             have c26b1 : (t393 != (wrap64 (x35_2 - 1))) = false := bne_eq_false_iff_eq.mpr c26
             clear c26
             replace H := Option.bind_eq_some_iff.mp H
             obtain ⟨t407, A270, H⟩ := H
             replace H : (some t407) = some r := H
             have A27 := Aside0.mk A270
             clear A270
             obtain rfl := Option.some.inj H
             have p400 : 0 ≤ (x35_2 : Int) := of_decide_eq_true (by first | (with_reducible assumption) | assumption)
             have q400 : x35_2 < (l1.length : Int) := of_decide_eq_true (by first | (with_reducible assumption) | assumption)
             obtain ⟨ad400, e400, hx400_0⟩ := Kd.at_bool HR1.out x35_2 p400 q400
             cases e400
             replace hx400_0 := (HB.out.cell (World.block_lt_of_cell? w _ hx400_0)).trans hx400_0
             replace p400 := eq_true p400
             replace q400 := eq_true q400
             have hnb28 := NB392_396.out
             have hnc28 := NB396_392.out
             have hcz29_0 : wr.cell? ⟨gb392, 0, none⟩ = some (.int .i64 t387) := (blk_cell BK392.out 0).trans rfl
             have hcz29_1 : wr.cell? ⟨gb392, 1, none⟩ = some (.int .i64 t388) := (blk_cell BK392.out 1).trans rfl
             have hcz29_2 : wr.cell? ⟨gb392, 2, none⟩ = some (.int .i64 t389) := (blk_cell BK392.out 2).trans rfl
             have hcz29_3 : wr.cell? ⟨gb392, 3, none⟩ = some (.int .i64 t390) := (blk_cell BK392.out 3).trans rfl
             have hfz29_0 := blk_frozen BK392.out 0
             have hfz29_1 := blk_frozen BK392.out 1
             have hfz29_2 := blk_frozen BK392.out 2
             have hfz29_3 := blk_frozen BK392.out 3
             have hcz30_0 : wr.cell? ⟨gb396, 0, none⟩ = some (u397000) := (blk_cell BK396.out 0).trans rfl
             have hcz30_1 : wr.cell? ⟨gb396, 1, none⟩ = some (.bool true) := (blk_cell BK396.out 1).trans rfl
             have hfz30_0 := blk_frozen BK396.out 0
             have hfz30_1 := blk_frozen BK396.out 1
             obtain ⟨Ao31, co31, eo31, _⟩ := Kd.Q_slice HO_397000.out
             subst eo31
             go_wp2_with (first | ((with_reducible refine gate_callee (f := 23) rfl ?_); refine goesL_ (some 44) rfl rfl Try.func23 (by kernel_rfl) rfl #[.agg #[.int .i64 t387, .int .i64 t388, .int .i64 t389, .int .i64 t390], .agg #[.slice Ao31 x397000_2.length co31, .bool true], .bool (rdOf false l1 x35_2)] rfl (by (try simp only [List.map_toArray, List.map_cons, List.map_nil]); first | done | rfl | (simp only [List.length_drop, List.length_take]; rfl)) ?_; (with_reducible refine (monitor_Step.calls k2 t387 t388 t389 t390 _ _ x397000_2 true (rdOf false l1 x35_2) t401 t404 t405 _ ?side1 ?side2 A22.out).mono ?_); (case side1 => repeat (first | exact (Kd.Q_reads' HO_397000.out).2.2 | (with_reducible refine Kd.C_alloc ?_ _) | (with_reducible refine Kd.C_drewN ?_ _) | (with_reducible refine Kd.C_drew ?_))); (case side2 => exact (Kd.Q_reads' HO_397000.out).2.1); rintro e w32 ⟨v402, rfl, ho0, hb⟩; refine ⟨_, rfl, ?_⟩; have n0_ := Aside0.mk (Kd.Q_elder' (by (with_reducible repeat (first | apply Kd.Q_alloc | apply Kd.Q_drewN | apply Kd.Q_drew)); exact HO_397000.out) (Kd.Q_base ho0) hb); have n1_ := Aside0.mk (Kd.Q_lower (Kd.Q_new' ho0 (Kd.Q_lt (by (with_reducible repeat (first | apply Kd.Q_alloc | apply Kd.Q_drewN | apply Kd.Q_drew)); exact HO_397000.out))) (below_size (by repeat (first | (with_reducible first | exact HB.out | apply below_alloc | apply pw_below_drewN | apply below_drew1 | refine below_set ?_ GE392.out | refine below_set ?_ GE396.out) | exact HB.out)))); have n2_ := Aside0.mk (blk_below (g := gb392) (o := .cells #[.int .i64 t387, .int .i64 t388, .int .i64 t389, .int .i64 t390] 24 (0, 0)) (by (with_reducible repeat (first | refine blk_drewN ?_ _ | refine blk_drew ?_ | refine blk_alloc ?_ _)); exact BK392.out) hb); have n3_ := Aside0.mk (blk_below (g := gb396) (o := .cells #[.slice Ao31 x397000_2.length co31, .bool true] 27 (0, 0)) (by (with_reducible repeat (first | refine blk_drewN ?_ _ | refine blk_drew ?_ | refine blk_alloc ?_ _)); exact BK396.out) hb); have n4_ := Aside0.mk (below_step (by repeat (first | (with_reducible first | exact HB.out | apply below_alloc | apply pw_below_drewN | apply below_drew1 | refine below_set ?_ GE392.out | refine below_set ?_ GE396.out) | exact HB.out)) hb); clear HO_397000 BK392 BK396 HB; have HO_397000 := n0_; have HO403 := n1_; have BK392 := n2_; have BK396 := n3_; have HB := n4_; clear n0_ n1_ n2_ n3_ n4_; (try clear hb); (try clear hb2); (try clear hk); (try clear hi); (try clear ho0)) | ((with_reducible refine gate_dst (N := 12) rfl ?_); (try (refine gate_guard (by rfl) ?_; dsimp only)); refine box_event ?hg (N := 12) ?hd (cs := #[.slice none 0 0, .bool false]) (t := 27) ?hr ?_; (case hd => rfl); (case hg => rfl); (case hr => first | (go_simp; done) | (go_simp; rfl)); intro gb406 hg w33 hbox hb; have n0_ := Aside0.mk (Kd.Q_below (by (with_reducible repeat (first | apply Kd.Q_alloc | apply Kd.Q_drewN | apply Kd.Q_drew)); exact HO_397000.out) hb); have n1_ := Aside0.mk (Kd.Q_below (by (with_reducible repeat (first | apply Kd.Q_alloc | apply Kd.Q_drewN | apply Kd.Q_drew)); exact HO403.out) hb); have n2_ := Aside0.mk (blk_below (g := gb392) (o := .cells #[.int .i64 t387, .int .i64 t388, .int .i64 t389, .int .i64 t390] 24 (0, 0)) (by (with_reducible repeat (first | refine blk_drewN ?_ _ | refine blk_drew ?_ | refine blk_alloc ?_ _)); exact BK392.out) hb); have n3_ := Aside0.mk (blk_below (g := gb396) (o := .cells #[.slice Ao31 x397000_2.length co31, .bool true] 27 (0, 0)) (by (with_reducible repeat (first | refine blk_drewN ?_ _ | refine blk_drew ?_ | refine blk_alloc ?_ _)); exact BK396.out) hb); have n4_ := Aside0.mk (below_step (by repeat (first | (with_reducible first | exact HB.out | apply below_alloc | apply pw_below_drewN | apply below_drew1 | refine below_set ?_ GE392.out | refine below_set ?_ GE396.out) | exact HB.out)) hb); have n5_ := Aside0.mk (hbox); have n6_ := Aside0.mk ((by rw [hg]; exact (below_size (by repeat (first | (with_reducible first | exact HB.out | apply below_alloc | apply pw_below_drewN | apply below_drew1 | refine below_set ?_ GE392.out | refine below_set ?_ GE396.out) | exact HB.out))) : w.heap.size ≤ gb406)); have n7_ := Aside0.mk ((by rw [hg]; exact (below_size (by repeat (first | (with_reducible first | exact HB.out | apply below_alloc | apply pw_below_drewN | apply below_drew1 | refine below_set ?_ GE392.out | refine below_set ?_ GE396.out) | exact HB.out))) : w.heap.size ≤ gb406)); have n8_ := Aside0.mk ((by rw [hg]; exact Nat.ne_of_lt (blk_lt (g := gb392) (o := .cells #[.int .i64 t387, .int .i64 t388, .int .i64 t389, .int .i64 t390] 24 (0, 0)) (by (with_reducible repeat (first | refine blk_drewN ?_ _ | refine blk_drew ?_ | refine blk_alloc ?_ _)); exact BK392.out)) : gb392 ≠ gb406)); have n9_ := Aside0.mk ((by rw [hg]; exact Nat.ne_of_gt (blk_lt (g := gb392) (o := .cells #[.int .i64 t387, .int .i64 t388, .int .i64 t389, .int .i64 t390] 24 (0, 0)) (by (with_reducible repeat (first | refine blk_drewN ?_ _ | refine blk_drew ?_ | refine blk_alloc ?_ _)); exact BK392.out)) : gb406 ≠ gb392)); have n10_ := Aside0.mk ((by rw [hg]; exact Nat.ne_of_lt (blk_lt (g := gb396) (o := .cells #[.slice Ao31 x397000_2.length co31, .bool true] 27 (0, 0)) (by (with_reducible repeat (first | refine blk_drewN ?_ _ | refine blk_drew ?_ | refine blk_alloc ?_ _)); exact BK396.out)) : gb396 ≠ gb406)); have n11_ := Aside0.mk ((by rw [hg]; exact Nat.ne_of_gt (blk_lt (g := gb396) (o := .cells #[.slice Ao31 x397000_2.length co31, .bool true] 27 (0, 0)) (by (with_reducible repeat (first | refine blk_drewN ?_ _ | refine blk_drew ?_ | refine blk_alloc ?_ _)); exact BK396.out)) : gb406 ≠ gb396)); clear HO_397000 HO403 BK392 BK396 HB; have HO_397000 := n0_; have HO403 := n1_; have BK392 := n2_; have BK396 := n3_; have HB := n4_; have BK406 := n5_; have GW406 := n6_; have GE406 := n7_; have NB392_406 := n8_; have NB406_392 := n9_; have NB396_406 := n10_; have NB406_396 := n11_; clear n0_ n1_ n2_ n3_ n4_ n5_ n6_ n7_ n8_ n9_ n10_ n11_ hb hbox hg; obtain ⟨Ao34, co34, eo34, _⟩ := Kd.Q_slice HO403.out; subst eo34; have hnb35 := NB406_392.out; have hnc35 := NB392_406.out; have hnb36 := NB406_396.out; have hnc36 := NB396_406.out; have hcz37_0 : w33.cell? ⟨gb406, 0, none⟩ = some (.slice none 0 0) := (blk_cell BK406.out 0).trans rfl; have hcz37_1 : w33.cell? ⟨gb406, 1, none⟩ = some (.bool false) := (blk_cell BK406.out 1).trans rfl; have hfz37_0 := blk_frozen BK406.out 0; have hfz37_1 := blk_frozen BK406.out 1; have hcz38_0 : w33.cell? ⟨gb396, 0, none⟩ = some (.slice Ao31 x397000_2.length co31) := (blk_cell BK396.out 0).trans rfl; have hcz38_1 : w33.cell? ⟨gb396, 1, none⟩ = some (.bool true) := (blk_cell BK396.out 1).trans rfl; have hfz38_0 := blk_frozen BK396.out 0; have hfz38_1 := blk_frozen BK396.out 1) | (go_at_call 9; (with_reducible refine (awardingbodylaw27_sane.calls k2  t407 _ A27.out).mono ?_); rintro e w39 ⟨rfl, hb⟩; have n0_ := Aside0.mk (Kd.Q_below (by (with_reducible repeat (first | apply Kd.Q_alloc | apply Kd.Q_drewN | apply Kd.Q_drew)); exact (Kd.Q_mono (Kd.Q_far (p := ⟨gb406, 1, none⟩) (Kd.Q_far (p := ⟨gb406, 0, none⟩) (Kd.Q_types HO_397000.out BK406.out (by decide)) (fun _ hk => hk.2) (.slice Ao34 t401.length co34)) (fun _ hk => hk.2) (.bool t404)) (fun _ h_ => h_.1))) hb); have n1_ := Aside0.mk (Kd.Q_below (by (with_reducible repeat (first | apply Kd.Q_alloc | apply Kd.Q_drewN | apply Kd.Q_drew)); exact (Kd.Q_mono (Kd.Q_far (p := ⟨gb406, 1, none⟩) (Kd.Q_far (p := ⟨gb406, 0, none⟩) (Kd.Q_types HO403.out BK406.out (by decide)) (fun _ hk => hk.2) (.slice Ao34 t401.length co34)) (fun _ hk => hk.2) (.bool t404)) (fun _ h_ => h_.1))) hb); have n2_ := Aside0.mk (blk_below (g := gb392) (o := .cells #[.int .i64 t387, .int .i64 t388, .int .i64 t389, .int .i64 t390] 24 (0, 0)) (by (with_reducible repeat (first | refine blk_drewN ?_ _ | refine blk_drew ?_ | refine blk_alloc ?_ _)); refine blk_far ?_ NB392_406.out _; (with_reducible repeat (first | refine blk_drewN ?_ _ | refine blk_drew ?_ | refine blk_alloc ?_ _)); refine blk_far ?_ NB392_406.out _; (with_reducible repeat (first | refine blk_drewN ?_ _ | refine blk_drew ?_ | refine blk_alloc ?_ _)); exact BK392.out) hb); have n3_ := Aside0.mk (blk_below (g := gb396) (o := .cells #[.slice Ao31 x397000_2.length co31, .bool true] 27 (0, 0)) (by (with_reducible repeat (first | refine blk_drewN ?_ _ | refine blk_drew ?_ | refine blk_alloc ?_ _)); refine blk_far ?_ NB396_406.out _; (with_reducible repeat (first | refine blk_drewN ?_ _ | refine blk_drew ?_ | refine blk_alloc ?_ _)); refine blk_far ?_ NB396_406.out _; (with_reducible repeat (first | refine blk_drewN ?_ _ | refine blk_drew ?_ | refine blk_alloc ?_ _)); exact BK396.out) hb); have n4_ := Aside0.mk (blk_below (g := gb406) (o := .cells #[.slice Ao34 t401.length co34, .bool t404] 27 (0, 0)) (by (with_reducible repeat (first | refine blk_drewN ?_ _ | refine blk_drew ?_ | refine blk_alloc ?_ _)); refine blk_put (cs := #[.slice Ao34 t401.length co34, .bool false]) ?_ 1 _ rfl; (with_reducible repeat (first | refine blk_drewN ?_ _ | refine blk_drew ?_ | refine blk_alloc ?_ _)); refine blk_put (cs := #[.slice none 0 0, .bool false]) ?_ 0 _ rfl; (with_reducible repeat (first | refine blk_drewN ?_ _ | refine blk_drew ?_ | refine blk_alloc ?_ _)); exact BK406.out) hb); have n5_ := Aside0.mk (below_step (by repeat (first | (with_reducible first | exact HB.out | apply below_alloc | apply pw_below_drewN | apply below_drew1 | refine below_set ?_ GE392.out | refine below_set ?_ GE396.out | refine below_set ?_ GE406.out) | exact HB.out)) hb); clear HO_397000 HO403 BK392 BK396 BK406 HB; have HO_397000 := n0_; have HO403 := n1_; have BK392 := n2_; have BK396 := n3_; have BK406 := n4_; have HB := n5_; clear n0_ n1_ n2_ n3_ n4_ n5_; (try clear hb); (try clear hb2); (try clear hk); (try clear hi)))
             go_ret
             exact ⟨by first | rfl | (simp [errW_none, errW_some] <;> rfl) | (simp [*, errW_none, errW_some] <;> rfl), by repeat (first | (with_reducible first | exact HB.out | apply below_alloc | apply pw_below_drewN | apply below_drew1 | refine below_set ?_ GE392.out | refine below_set ?_ GE396.out | refine below_set ?_ GE406.out) | exact HB.out)⟩
            ·rw [if_neg c26] at H
             exact absurd H (by simp)
           ·rw [if_neg c25] at H
            exact absurd H (by simp)
          ·rw [if_neg c24] at H
           exact absurd H (by simp)
         ·replace c23 := Bool.eq_false_iff.mpr c23
          subst c23
          have H1 : (if t405 = 0 then ((monitor_Valid.f k2 t387 t388 t389 t390 t401 t404).bind fun t408 => (if t408 = true then (if (t401.length : Int) = (mn t389 (wrap64 (x35_2 + 1))) then (if 0 ≤ (wrap64 ((t401.length : Int) - 1)) then (if (wrap64 ((t401.length : Int) - 1)) < (t401.length : Int) then (if ((rdOf false t401 (wrap64 ((t401.length : Int) - 1))) != (rdOf false l1 x35_2)) = true then (none) else (awardingbodylaw27_MonitorSteps.l0 k2 l1 t393 t395 l1 (l1.length : Int) (wrap64 (x35_2 + 1)) t387 t388 t389 t390 t401 t404)) else (none)) else (none)) else (none)) else (none))) else (none)) = some r := by rw [if_neg (show ¬ (false = true) by decide)] at H; exact H
          clear H
          have H := H1
          clear H1
          by_cases c40 : t405 = 0
          ·rw [if_pos c40] at H
           have c40b0 : (t405 == 0) = true := beq_iff_eq.mpr c40
           have c40b1 : (t405 != 0) = false := bne_eq_false_iff_eq.mpr c40
           clear c40
           replace H := Option.bind_eq_some_iff.mp H
           obtain ⟨t408, A410, H⟩ := H
           replace H : (if t408 = true then (if (t401.length : Int) = (mn t389 (wrap64 (x35_2 + 1))) then (if 0 ≤ (wrap64 ((t401.length : Int) - 1)) then (if (wrap64 ((t401.length : Int) - 1)) < (t401.length : Int) then (if ((rdOf false t401 (wrap64 ((t401.length : Int) - 1))) != (rdOf false l1 x35_2)) = true then (none) else (awardingbodylaw27_MonitorSteps.l0 k2 l1 t393 t395 l1 (l1.length : Int) (wrap64 (x35_2 + 1)) t387 t388 t389 t390 t401 t404)) else (none)) else (none)) else (none)) else (none)) = some r := H
           have A41 := Aside0.mk A410
           clear A410
           by_cases c42 : t408 = true
           ·subst c42
            have H1 : (if (t401.length : Int) = (mn t389 (wrap64 (x35_2 + 1))) then (if 0 ≤ (wrap64 ((t401.length : Int) - 1)) then (if (wrap64 ((t401.length : Int) - 1)) < (t401.length : Int) then (if ((rdOf false t401 (wrap64 ((t401.length : Int) - 1))) != (rdOf false l1 x35_2)) = true then (none) else (awardingbodylaw27_MonitorSteps.l0 k2 l1 t393 t395 l1 (l1.length : Int) (wrap64 (x35_2 + 1)) t387 t388 t389 t390 t401 t404)) else (none)) else (none)) else (none)) = some r := by rw [if_pos rfl] at H; exact H
            clear H
            have H := H1
            clear H1
            obtain ⟨ji43, hji43⟩ : ∃ j_ : Int, (mn t389 (wrap64 (x35_2 + 1))) = j_ := ⟨_, rfl⟩
            replace H : (if (t401.length : Int) = (ji43) then (if 0 ≤ (wrap64 ((t401.length : Int) - 1)) then (if (wrap64 ((t401.length : Int) - 1)) < (t401.length : Int) then (if ((rdOf false t401 (wrap64 ((t401.length : Int) - 1))) != (rdOf false l1 x35_2)) = true then (none) else (awardingbodylaw27_MonitorSteps.l0 k2 l1 t393 t395 l1 (l1.length : Int) (wrap64 (x35_2 + 1)) t387 t388 t389 t390 t401 t404)) else (none)) else (none)) else (none)) = some r := by first | (rw [hji43] at H; exact H) | (simp only [hji43] at H ⊢; exact H)
            (try rw [hji43] at A22)
            (try rw [hji43] at A41)
            have hji43_ : (if (wrap64 (x35_2 + 1)) < t389 then (wrap64 (x35_2 + 1)) else t389) = ji43 := hji43
            by_cases c44 : (t401.length : Int) = (ji43)
            ·rw [if_pos c44] at H
             have c44b0 : ((t401.length : Int) == (ji43)) = true := beq_iff_eq.mpr c44
             have c44b1 : ((t401.length : Int) != (ji43)) = false := bne_eq_false_iff_eq.mpr c44
             clear c44
             obtain ⟨ji45, hji45⟩ : ∃ j_ : Int, (wrap64 ((t401.length : Int) - 1)) = j_ := ⟨_, rfl⟩
             replace H : (if 0 ≤ (ji45) then (if (ji45) < (t401.length : Int) then (if ((rdOf false t401 (ji45)) != (rdOf false l1 x35_2)) = true then (none) else (awardingbodylaw27_MonitorSteps.l0 k2 l1 t393 t395 l1 (l1.length : Int) (wrap64 (x35_2 + 1)) t387 t388 t389 t390 t401 t404)) else (none)) else (none)) = some r := by first | (rw [hji45] at H; exact H) | (simp only [hji45] at H ⊢; exact H)
             (try rw [hji45] at A22)
             (try rw [hji45] at A41)
             have hji45w : (IntKind.i64.wrap ((t401.length : Int) - 1)) = ji45 := (i64_w _).trans hji45
             by_cases c46 : 0 ≤ (ji45)
             ·rw [if_pos c46] at H
              have c46b0 : decide (0 ≤ (ji45)) = true := decide_eq_true c46
              clear c46
              by_cases c47 : (ji45) < (t401.length : Int)
              ·rw [if_pos c47] at H
               have c47b0 : decide ((ji45) < (t401.length : Int)) = true := decide_eq_true c47
               clear c47
               by_cases c48 : ((rdOf false t401 (ji45)) != (rdOf false l1 x35_2)) = true
               ·rw [if_pos c48] at H
                exact absurd H (by simp)
               ·rw [if_neg c48] at H
                have c48b0 : ((rdOf false t401 (ji45)) != (rdOf false l1 x35_2)) = false := by simpa using c48
                (try (have c48b1 : decide ((rdOf false t401 (ji45)) = (rdOf false l1 x35_2)) = true := by simpa using c48))
                (try (have c48b2 : ((rdOf false t401 (ji45)) == (rdOf false l1 x35_2)) = true := by simpa using c48))
                clear c48
                have H' := Aside0.mk H
                clear H
                have p400 : 0 ≤ (x35_2 : Int) := of_decide_eq_true (by first | (with_reducible assumption) | assumption)
                have q400 : x35_2 < (l1.length : Int) := of_decide_eq_true (by first | (with_reducible assumption) | assumption)
                obtain ⟨ad400, e400, hx400_0⟩ := Kd.at_bool HR1.out x35_2 p400 q400
                cases e400
                replace hx400_0 := (HB.out.cell (World.block_lt_of_cell? w _ hx400_0)).trans hx400_0
                replace p400 := eq_true p400
                replace q400 := eq_true q400
                have hnb49 := NB392_396.out
                have hnc49 := NB396_392.out
                have hcz50_0 : wr.cell? ⟨gb392, 0, none⟩ = some (.int .i64 t387) := (blk_cell BK392.out 0).trans rfl
                have hcz50_1 : wr.cell? ⟨gb392, 1, none⟩ = some (.int .i64 t388) := (blk_cell BK392.out 1).trans rfl
                have hcz50_2 : wr.cell? ⟨gb392, 2, none⟩ = some (.int .i64 t389) := (blk_cell BK392.out 2).trans rfl
                have hcz50_3 : wr.cell? ⟨gb392, 3, none⟩ = some (.int .i64 t390) := (blk_cell BK392.out 3).trans rfl
                have hfz50_0 := blk_frozen BK392.out 0
                have hfz50_1 := blk_frozen BK392.out 1
                have hfz50_2 := blk_frozen BK392.out 2
                have hfz50_3 := blk_frozen BK392.out 3
                have hcz51_0 : wr.cell? ⟨gb396, 0, none⟩ = some (u397000) := (blk_cell BK396.out 0).trans rfl
                have hcz51_1 : wr.cell? ⟨gb396, 1, none⟩ = some (.bool false) := (blk_cell BK396.out 1).trans rfl
                have hfz51_0 := blk_frozen BK396.out 0
                have hfz51_1 := blk_frozen BK396.out 1
                obtain ⟨Ao52, co52, eo52, _⟩ := Kd.Q_slice HO_397000.out
                subst eo52
                go_wp2_with (first | ((with_reducible refine gate_callee (f := 23) rfl ?_); refine goesL_ (some 44) rfl rfl Try.func23 (by kernel_rfl) rfl #[.agg #[.int .i64 t387, .int .i64 t388, .int .i64 t389, .int .i64 t390], .agg #[.slice Ao52 x397000_2.length co52, .bool false], .bool (rdOf false l1 x35_2)] rfl (by (try simp only [List.map_toArray, List.map_cons, List.map_nil]); first | done | rfl | (simp only [List.length_drop, List.length_take]; rfl)) ?_; (with_reducible refine (monitor_Step.calls k2 t387 t388 t389 t390 _ _ x397000_2 false (rdOf false l1 x35_2) t401 t404 t405 _ ?side1 ?side2 A22.out).mono ?_); (case side1 => repeat (first | exact (Kd.Q_reads' HO_397000.out).2.2 | (with_reducible refine Kd.C_alloc ?_ _) | (with_reducible refine Kd.C_drewN ?_ _) | (with_reducible refine Kd.C_drew ?_))); (case side2 => exact (Kd.Q_reads' HO_397000.out).2.1); rintro e w53 ⟨v402, rfl, ho0, hb⟩; refine ⟨_, rfl, ?_⟩; have n0_ := Aside0.mk (Kd.Q_elder' (by (with_reducible repeat (first | apply Kd.Q_alloc | apply Kd.Q_drewN | apply Kd.Q_drew)); exact HO_397000.out) (Kd.Q_base ho0) hb); have n1_ := Aside0.mk (Kd.Q_lower (Kd.Q_new' ho0 (Kd.Q_lt (by (with_reducible repeat (first | apply Kd.Q_alloc | apply Kd.Q_drewN | apply Kd.Q_drew)); exact HO_397000.out))) (below_size (by repeat (first | (with_reducible first | exact HB.out | apply below_alloc | apply pw_below_drewN | apply below_drew1 | refine below_set ?_ GE392.out | refine below_set ?_ GE396.out) | exact HB.out)))); have n2_ := Aside0.mk (blk_below (g := gb392) (o := .cells #[.int .i64 t387, .int .i64 t388, .int .i64 t389, .int .i64 t390] 24 (0, 0)) (by (with_reducible repeat (first | refine blk_drewN ?_ _ | refine blk_drew ?_ | refine blk_alloc ?_ _)); exact BK392.out) hb); have n3_ := Aside0.mk (blk_below (g := gb396) (o := .cells #[.slice Ao52 x397000_2.length co52, .bool false] 27 (0, 0)) (by (with_reducible repeat (first | refine blk_drewN ?_ _ | refine blk_drew ?_ | refine blk_alloc ?_ _)); exact BK396.out) hb); have n4_ := Aside0.mk (below_step (by repeat (first | (with_reducible first | exact HB.out | apply below_alloc | apply pw_below_drewN | apply below_drew1 | refine below_set ?_ GE392.out | refine below_set ?_ GE396.out) | exact HB.out)) hb); clear HO_397000 BK392 BK396 HB; have HO_397000 := n0_; have HO403 := n1_; have BK392 := n2_; have BK396 := n3_; have HB := n4_; clear n0_ n1_ n2_ n3_ n4_; (try clear hb); (try clear hb2); (try clear hk); (try clear hi); (try clear ho0)) | ((with_reducible refine gate_dst (N := 12) rfl ?_); (try (refine gate_guard (by rfl) ?_; dsimp only)); refine box_event ?hg (N := 12) ?hd (cs := #[.slice none 0 0, .bool false]) (t := 27) ?hr ?_; (case hd => rfl); (case hg => rfl); (case hr => first | (go_simp; done) | (go_simp; rfl)); intro gb406 hg w54 hbox hb; have n0_ := Aside0.mk (Kd.Q_below (by (with_reducible repeat (first | apply Kd.Q_alloc | apply Kd.Q_drewN | apply Kd.Q_drew)); exact HO_397000.out) hb); have n1_ := Aside0.mk (Kd.Q_below (by (with_reducible repeat (first | apply Kd.Q_alloc | apply Kd.Q_drewN | apply Kd.Q_drew)); exact HO403.out) hb); have n2_ := Aside0.mk (blk_below (g := gb392) (o := .cells #[.int .i64 t387, .int .i64 t388, .int .i64 t389, .int .i64 t390] 24 (0, 0)) (by (with_reducible repeat (first | refine blk_drewN ?_ _ | refine blk_drew ?_ | refine blk_alloc ?_ _)); exact BK392.out) hb); have n3_ := Aside0.mk (blk_below (g := gb396) (o := .cells #[.slice Ao52 x397000_2.length co52, .bool false] 27 (0, 0)) (by (with_reducible repeat (first | refine blk_drewN ?_ _ | refine blk_drew ?_ | refine blk_alloc ?_ _)); exact BK396.out) hb); have n4_ := Aside0.mk (below_step (by repeat (first | (with_reducible first | exact HB.out | apply below_alloc | apply pw_below_drewN | apply below_drew1 | refine below_set ?_ GE392.out | refine below_set ?_ GE396.out) | exact HB.out)) hb); have n5_ := Aside0.mk (hbox); have n6_ := Aside0.mk ((by rw [hg]; exact (below_size (by repeat (first | (with_reducible first | exact HB.out | apply below_alloc | apply pw_below_drewN | apply below_drew1 | refine below_set ?_ GE392.out | refine below_set ?_ GE396.out) | exact HB.out))) : w.heap.size ≤ gb406)); have n7_ := Aside0.mk ((by rw [hg]; exact (below_size (by repeat (first | (with_reducible first | exact HB.out | apply below_alloc | apply pw_below_drewN | apply below_drew1 | refine below_set ?_ GE392.out | refine below_set ?_ GE396.out) | exact HB.out))) : w.heap.size ≤ gb406)); have n8_ := Aside0.mk ((by rw [hg]; exact Nat.ne_of_lt (blk_lt (g := gb392) (o := .cells #[.int .i64 t387, .int .i64 t388, .int .i64 t389, .int .i64 t390] 24 (0, 0)) (by (with_reducible repeat (first | refine blk_drewN ?_ _ | refine blk_drew ?_ | refine blk_alloc ?_ _)); exact BK392.out)) : gb392 ≠ gb406)); have n9_ := Aside0.mk ((by rw [hg]; exact Nat.ne_of_gt (blk_lt (g := gb392) (o := .cells #[.int .i64 t387, .int .i64 t388, .int .i64 t389, .int .i64 t390] 24 (0, 0)) (by (with_reducible repeat (first | refine blk_drewN ?_ _ | refine blk_drew ?_ | refine blk_alloc ?_ _)); exact BK392.out)) : gb406 ≠ gb392)); have n10_ := Aside0.mk ((by rw [hg]; exact Nat.ne_of_lt (blk_lt (g := gb396) (o := .cells #[.slice Ao52 x397000_2.length co52, .bool false] 27 (0, 0)) (by (with_reducible repeat (first | refine blk_drewN ?_ _ | refine blk_drew ?_ | refine blk_alloc ?_ _)); exact BK396.out)) : gb396 ≠ gb406)); have n11_ := Aside0.mk ((by rw [hg]; exact Nat.ne_of_gt (blk_lt (g := gb396) (o := .cells #[.slice Ao52 x397000_2.length co52, .bool false] 27 (0, 0)) (by (with_reducible repeat (first | refine blk_drewN ?_ _ | refine blk_drew ?_ | refine blk_alloc ?_ _)); exact BK396.out)) : gb406 ≠ gb396)); clear HO_397000 HO403 BK392 BK396 HB; have HO_397000 := n0_; have HO403 := n1_; have BK392 := n2_; have BK396 := n3_; have HB := n4_; have BK406 := n5_; have GW406 := n6_; have GE406 := n7_; have NB392_406 := n8_; have NB406_392 := n9_; have NB396_406 := n10_; have NB406_396 := n11_; clear n0_ n1_ n2_ n3_ n4_ n5_ n6_ n7_ n8_ n9_ n10_ n11_ hb hbox hg; obtain ⟨Ao55, co55, eo55, _⟩ := Kd.Q_slice HO403.out; subst eo55; have hnb56 := NB406_392.out; have hnc56 := NB392_406.out; have hnb57 := NB406_396.out; have hnc57 := NB396_406.out; have hcz58_0 : w54.cell? ⟨gb406, 0, none⟩ = some (.slice none 0 0) := (blk_cell BK406.out 0).trans rfl; have hcz58_1 : w54.cell? ⟨gb406, 1, none⟩ = some (.bool false) := (blk_cell BK406.out 1).trans rfl; have hfz58_0 := blk_frozen BK406.out 0; have hfz58_1 := blk_frozen BK406.out 1; have hcz59_0 : w54.cell? ⟨gb396, 0, none⟩ = some (.slice Ao52 x397000_2.length co52) := (blk_cell BK396.out 0).trans rfl; have hcz59_1 : w54.cell? ⟨gb396, 1, none⟩ = some (.bool false) := (blk_cell BK396.out 1).trans rfl; have hfz59_0 := blk_frozen BK396.out 0; have hfz59_1 := blk_frozen BK396.out 1; have hcz60_0 : w54.cell? ⟨gb392, 0, none⟩ = some (.int .i64 t387) := (blk_cell BK392.out 0).trans rfl; have hcz60_1 : w54.cell? ⟨gb392, 1, none⟩ = some (.int .i64 t388) := (blk_cell BK392.out 1).trans rfl; have hcz60_2 : w54.cell? ⟨gb392, 2, none⟩ = some (.int .i64 t389) := (blk_cell BK392.out 2).trans rfl; have hcz60_3 : w54.cell? ⟨gb392, 3, none⟩ = some (.int .i64 t390) := (blk_cell BK392.out 3).trans rfl; have hfz60_0 := blk_frozen BK392.out 0; have hfz60_1 := blk_frozen BK392.out 1; have hfz60_2 := blk_frozen BK392.out 2; have hfz60_3 := blk_frozen BK392.out 3) | (go_at_call 18; (with_reducible refine (monitor_Valid.calls k2 t387 t388 t389 t390 _ _ t401 t404 true _ ?side1 ?side2 A41.out).mono ?_); (case side1 => refine (Kd.Q_reads' (e := 4) (base := w.heap.size) (ok := fun k_ => (True ∧ some k_ ≠ (.slice Ao52 x397000_2.length co52 : Value).ownBlock)) (n := t401.length) (c := co55) ?_).2.2; exact (by (with_reducible repeat (first | apply Kd.Q_alloc | apply Kd.Q_drewN | apply Kd.Q_drew)); exact (Kd.Q_mono (Kd.Q_far (p := ⟨gb406, 1, none⟩) (Kd.Q_far (p := ⟨gb406, 0, none⟩) (Kd.Q_types HO403.out BK406.out (by decide)) (fun _ hk => hk.2) (.slice Ao55 t401.length co55)) (fun _ hk => hk.2) (.bool t404)) (fun _ h_ => h_.1)))); (case side2 => exact (Kd.Q_reads' HO403.out).2.1); rintro e w61 ⟨rfl, hb⟩; have n0_ := Aside0.mk (Kd.Q_below (by (with_reducible repeat (first | apply Kd.Q_alloc | apply Kd.Q_drewN | apply Kd.Q_drew)); exact (Kd.Q_mono (Kd.Q_far (p := ⟨gb406, 1, none⟩) (Kd.Q_far (p := ⟨gb406, 0, none⟩) (Kd.Q_types HO_397000.out BK406.out (by decide)) (fun _ hk => hk.2) (.slice Ao55 t401.length co55)) (fun _ hk => hk.2) (.bool t404)) (fun _ h_ => h_.1))) hb); have n1_ := Aside0.mk (Kd.Q_below (by (with_reducible repeat (first | apply Kd.Q_alloc | apply Kd.Q_drewN | apply Kd.Q_drew)); exact (Kd.Q_mono (Kd.Q_far (p := ⟨gb406, 1, none⟩) (Kd.Q_far (p := ⟨gb406, 0, none⟩) (Kd.Q_types HO403.out BK406.out (by decide)) (fun _ hk => hk.2) (.slice Ao55 t401.length co55)) (fun _ hk => hk.2) (.bool t404)) (fun _ h_ => h_.1))) hb); have n2_ := Aside0.mk (blk_below (g := gb392) (o := .cells #[.int .i64 t387, .int .i64 t388, .int .i64 t389, .int .i64 t390] 24 (0, 0)) (by (with_reducible repeat (first | refine blk_drewN ?_ _ | refine blk_drew ?_ | refine blk_alloc ?_ _)); refine blk_far ?_ NB392_406.out _; (with_reducible repeat (first | refine blk_drewN ?_ _ | refine blk_drew ?_ | refine blk_alloc ?_ _)); refine blk_far ?_ NB392_406.out _; (with_reducible repeat (first | refine blk_drewN ?_ _ | refine blk_drew ?_ | refine blk_alloc ?_ _)); exact BK392.out) hb); have n3_ := Aside0.mk (blk_below (g := gb396) (o := .cells #[.slice Ao52 x397000_2.length co52, .bool false] 27 (0, 0)) (by (with_reducible repeat (first | refine blk_drewN ?_ _ | refine blk_drew ?_ | refine blk_alloc ?_ _)); refine blk_far ?_ NB396_406.out _; (with_reducible repeat (first | refine blk_drewN ?_ _ | refine blk_drew ?_ | refine blk_alloc ?_ _)); refine blk_far ?_ NB396_406.out _; (with_reducible repeat (first | refine blk_drewN ?_ _ | refine blk_drew ?_ | refine blk_alloc ?_ _)); exact BK396.out) hb); have n4_ := Aside0.mk (blk_below (g := gb406) (o := .cells #[.slice Ao55 t401.length co55, .bool t404] 27 (0, 0)) (by (with_reducible repeat (first | refine blk_drewN ?_ _ | refine blk_drew ?_ | refine blk_alloc ?_ _)); refine blk_put (cs := #[.slice Ao55 t401.length co55, .bool false]) ?_ 1 _ rfl; (with_reducible repeat (first | refine blk_drewN ?_ _ | refine blk_drew ?_ | refine blk_alloc ?_ _)); refine blk_put (cs := #[.slice none 0 0, .bool false]) ?_ 0 _ rfl; (with_reducible repeat (first | refine blk_drewN ?_ _ | refine blk_drew ?_ | refine blk_alloc ?_ _)); exact BK406.out) hb); have n5_ := Aside0.mk (below_step (by repeat (first | (with_reducible first | exact HB.out | apply below_alloc | apply pw_below_drewN | apply below_drew1 | refine below_set ?_ GE392.out | refine below_set ?_ GE396.out | refine below_set ?_ GE406.out) | exact HB.out)) hb); clear HO_397000 HO403 BK392 BK396 BK406 HB; have HO_397000 := n0_; have HO403 := n1_; have BK392 := n2_; have BK396 := n3_; have BK406 := n4_; have HB := n5_; clear n0_ n1_ n2_ n3_ n4_ n5_; (try clear hb); (try clear hb2); (try clear hk); (try clear hi); have hcz62_0 : w61.cell? ⟨gb406, 0, none⟩ = some (.slice Ao55 t401.length co55) := (blk_cell BK406.out 0).trans rfl; have hcz62_1 : w61.cell? ⟨gb406, 1, none⟩ = some (.bool t404) := (blk_cell BK406.out 1).trans rfl; have hfz62_0 := blk_frozen BK406.out 0; have hfz62_1 := blk_frozen BK406.out 1; have hcz63_0 : w61.cell? ⟨gb392, 0, none⟩ = some (.int .i64 t387) := (blk_cell BK392.out 0).trans rfl; have hcz63_1 : w61.cell? ⟨gb392, 1, none⟩ = some (.int .i64 t388) := (blk_cell BK392.out 1).trans rfl; have hcz63_2 : w61.cell? ⟨gb392, 2, none⟩ = some (.int .i64 t389) := (blk_cell BK392.out 2).trans rfl; have hcz63_3 : w61.cell? ⟨gb392, 3, none⟩ = some (.int .i64 t390) := (blk_cell BK392.out 3).trans rfl; have hfz63_0 := blk_frozen BK392.out 0; have hfz63_1 := blk_frozen BK392.out 1; have hfz63_2 := blk_frozen BK392.out 2; have hfz63_3 := blk_frozen BK392.out 3; have p409 : 0 ≤ ((ji45) : Int) := of_decide_eq_true (by first | (with_reducible assumption) | assumption); have q409 : (ji45) < (t401.length : Int) := of_decide_eq_true (by first | (with_reducible assumption) | assumption); obtain ⟨ad409, e409, hx409_0⟩ := Kd.at_bool (Kd.Q_reads' HO403.out).2.2 (ji45) p409 q409; cases e409; replace p409 := eq_true p409; replace q409 := eq_true q409; have hcz64_0 : w61.cell? ⟨gb396, 0, none⟩ = some (.slice Ao52 x397000_2.length co52) := (blk_cell BK396.out 0).trans rfl; have hcz64_1 : w61.cell? ⟨gb396, 1, none⟩ = some (.bool false) := (blk_cell BK396.out 1).trans rfl; have hfz64_0 := blk_frozen BK396.out 0; have hfz64_1 := blk_frozen BK396.out 1))
                go_roundg k2
                case measure => have := HJ2.out; have := HK2.out; omega
                case rel => exact ⟨(wrap64 (x35_2 + 1)), (t401), (t404), (.slice (some ad409) t401.length co55), (by first | rfl | (simp; done) | (simp [*]; done)), H', ⟨by have := HJ2.out; have := HK2.out; omega⟩, ⟨by (with_reducible repeat (first | apply Kd.Q_alloc | apply Kd.Q_drewN | apply Kd.Q_drew)); exact Kd.Q_mono (Kd.Q_far (p := ⟨gb396, 1, none⟩) (Kd.Q_far (p := ⟨gb396, 0, none⟩) (Kd.Q_types HO403.out BK396.out (by decide)) (fun _ hk => hk.2) (.slice (some ad409) t401.length co55)) (fun _ hk => hk.2) (.bool t404)) (fun _ hk => trivial)⟩, ⟨by (with_reducible repeat (first | refine blk_drewN ?_ _ | refine blk_drew ?_ | refine blk_alloc ?_ _)); refine blk_far ?_ NB392_396.out _; (with_reducible repeat (first | refine blk_drewN ?_ _ | refine blk_drew ?_ | refine blk_alloc ?_ _)); refine blk_far ?_ NB392_396.out _; (with_reducible repeat (first | refine blk_drewN ?_ _ | refine blk_drew ?_ | refine blk_alloc ?_ _)); exact BK392.out⟩, ⟨by (with_reducible repeat (first | refine blk_drewN ?_ _ | refine blk_drew ?_ | refine blk_alloc ?_ _)); refine blk_put (cs := #[.slice (some ad409) t401.length co55, .bool false]) ?_ 1 _ rfl; (with_reducible repeat (first | refine blk_drewN ?_ _ | refine blk_drew ?_ | refine blk_alloc ?_ _)); refine blk_put (cs := #[.slice Ao52 x397000_2.length co52, .bool false]) ?_ 0 _ rfl; (with_reducible repeat (first | refine blk_drewN ?_ _ | refine blk_drew ?_ | refine blk_alloc ?_ _)); exact BK396.out⟩, ⟨by repeat (first | (with_reducible first | exact HB.out | apply below_alloc | apply pw_below_drewN | apply below_drew1 | refine below_set ?_ GE392.out | refine below_set ?_ GE396.out | refine below_set ?_ GE406.out) | exact HB.out)⟩⟩
              ·rw [if_neg c47] at H
               exact absurd H (by simp)
             ·rw [if_neg c46] at H
              exact absurd H (by simp)
            ·rw [if_neg c44] at H
             exact absurd H (by simp)
           ·replace c42 := Bool.eq_false_iff.mpr c42
            subst c42
            have H1 : (none) = some r := by rw [if_neg (show ¬ (false = true) by decide)] at H; exact H
            clear H
            have H := H1
            clear H1
            exact absurd H (by simp)
          ·rw [if_neg c40] at H
           exact absurd H (by simp)
        ·rw [if_neg c21] at H
         exact absurd H (by simp)
       ·rw [if_neg c20] at H
        exact absurd H (by simp)
      ·rw [if_neg c19] at H
       have c19b0 : decide (x35_2 < (l1.length : Int)) = false := decide_eq_false c19
       clear c19
       by_cases c65 : t395 = 0
       ·rw [if_pos c65] at H
        have c65b0 : (t395 == 0) = true := beq_iff_eq.mpr c65
        have c65b1 : (t395 != 0) = false := bne_eq_false_iff_eq.mpr c65
        clear c65
        by_cases c66 : t393 = (wrap64 ((l1.length : Int) - 1))
        ·rw [if_pos c66] at H
         have c66b0 : (t393 == (wrap64 ((l1.length : Int) - 1))) = true := beq_iff_eq.mpr c66
         have c66b1 : (t393 != (wrap64 ((l1.length : Int) - 1))) = false := bne_eq_false_iff_eq.mpr c66
         clear c66
         by_cases c67 : x397001_2 = true
         ·subst c67
          have H1 : ((awardingbodylaw27_sane.f k2).bind fun t397 => (some t397)) = some r := by rw [if_pos rfl] at H; exact H
          clear H
          have H := H1
          clear H1
          replace H := Option.bind_eq_some_iff.mp H
          obtain ⟨t397, A680, H⟩ := H
          replace H : (some t397) = some r := H
          have A68 := Aside0.mk A680
          clear A680
          obtain rfl := Option.some.inj H
          have hnb69 := NB396_392.out
          have hnc69 := NB392_396.out
          have hcz70_0 : wr.cell? ⟨gb396, 0, none⟩ = some (u397000) := (blk_cell BK396.out 0).trans rfl
          have hcz70_1 : wr.cell? ⟨gb396, 1, none⟩ = some (.bool true) := (blk_cell BK396.out 1).trans rfl
          have hfz70_0 := blk_frozen BK396.out 0
          have hfz70_1 := blk_frozen BK396.out 1
          go_wp2_with (first | (go_at_call 9; (with_reducible refine (awardingbodylaw27_sane.calls k2  t397 _ A68.out).mono ?_); rintro e w71 ⟨rfl, hb⟩; have n0_ := Aside0.mk (Kd.Q_below (by (with_reducible repeat (first | apply Kd.Q_alloc | apply Kd.Q_drewN | apply Kd.Q_drew)); exact HO_397000.out) hb); have n1_ := Aside0.mk (blk_below (g := gb392) (o := .cells #[.int .i64 t387, .int .i64 t388, .int .i64 t389, .int .i64 t390] 24 (0, 0)) (by (with_reducible repeat (first | refine blk_drewN ?_ _ | refine blk_drew ?_ | refine blk_alloc ?_ _)); exact BK392.out) hb); have n2_ := Aside0.mk (blk_below (g := gb396) (o := .cells #[u397000, .bool true] 27 (0, 0)) (by (with_reducible repeat (first | refine blk_drewN ?_ _ | refine blk_drew ?_ | refine blk_alloc ?_ _)); exact BK396.out) hb); have n3_ := Aside0.mk (below_step (by repeat (first | (with_reducible first | exact HB.out | apply below_alloc | apply pw_below_drewN | apply below_drew1 | refine below_set ?_ GE392.out | refine below_set ?_ GE396.out) | exact HB.out)) hb); clear HO_397000 BK392 BK396 HB; have HO_397000 := n0_; have BK392 := n1_; have BK396 := n2_; have HB := n3_; clear n0_ n1_ n2_ n3_; (try clear hb); (try clear hb2); (try clear hk); (try clear hi)))
          go_ret
          exact ⟨by first | rfl | (simp [errW_none, errW_some] <;> rfl) | (simp [*, errW_none, errW_some] <;> rfl), by repeat (first | (with_reducible first | exact HB.out | apply below_alloc | apply pw_below_drewN | apply below_drew1 | refine below_set ?_ GE392.out | refine below_set ?_ GE396.out) | exact HB.out)⟩
         ·replace c67 := Bool.eq_false_iff.mpr c67
          subst c67
          have H1 : (if t393 = (-1) then ((awardingbodylaw27_sane.f k2).bind fun t398 => (some t398)) else (none)) = some r := by rw [if_neg (show ¬ (false = true) by decide)] at H; exact H
          clear H
          have H := H1
          clear H1
          by_cases c72 : t393 = (-1)
          ·rw [if_pos c72] at H
           have c72b0 : (t393 == (-1)) = true := beq_iff_eq.mpr c72
           have c72b1 : (t393 != (-1)) = false := bne_eq_false_iff_eq.mpr c72
           clear c72
           replace H := Option.bind_eq_some_iff.mp H
           obtain ⟨t398, A730, H⟩ := H
           replace H : (some t398) = some r := H
           have A73 := Aside0.mk A730
           clear A730
           obtain rfl := Option.some.inj H
           have hnb74 := NB396_392.out
           have hnc74 := NB392_396.out
           have hcz75_0 : wr.cell? ⟨gb396, 0, none⟩ = some (u397000) := (blk_cell BK396.out 0).trans rfl
           have hcz75_1 : wr.cell? ⟨gb396, 1, none⟩ = some (.bool false) := (blk_cell BK396.out 1).trans rfl
           have hfz75_0 := blk_frozen BK396.out 0
           have hfz75_1 := blk_frozen BK396.out 1
           go_wp2_with (first | (go_at_call 9; (with_reducible refine (awardingbodylaw27_sane.calls k2  t398 _ A73.out).mono ?_); rintro e w76 ⟨rfl, hb⟩; have n0_ := Aside0.mk (Kd.Q_below (by (with_reducible repeat (first | apply Kd.Q_alloc | apply Kd.Q_drewN | apply Kd.Q_drew)); exact HO_397000.out) hb); have n1_ := Aside0.mk (blk_below (g := gb392) (o := .cells #[.int .i64 t387, .int .i64 t388, .int .i64 t389, .int .i64 t390] 24 (0, 0)) (by (with_reducible repeat (first | refine blk_drewN ?_ _ | refine blk_drew ?_ | refine blk_alloc ?_ _)); exact BK392.out) hb); have n2_ := Aside0.mk (blk_below (g := gb396) (o := .cells #[u397000, .bool false] 27 (0, 0)) (by (with_reducible repeat (first | refine blk_drewN ?_ _ | refine blk_drew ?_ | refine blk_alloc ?_ _)); exact BK396.out) hb); have n3_ := Aside0.mk (below_step (by repeat (first | (with_reducible first | exact HB.out | apply below_alloc | apply pw_below_drewN | apply below_drew1 | refine below_set ?_ GE392.out | refine below_set ?_ GE396.out) | exact HB.out)) hb); clear HO_397000 BK392 BK396 HB; have HO_397000 := n0_; have BK392 := n1_; have BK396 := n2_; have HB := n3_; clear n0_ n1_ n2_ n3_; (try clear hb); (try clear hb2); (try clear hk); (try clear hi)))
           go_ret
           exact ⟨by first | rfl | (simp [errW_none, errW_some] <;> rfl) | (simp [*, errW_none, errW_some] <;> rfl), by repeat (first | (with_reducible first | exact HB.out | apply below_alloc | apply pw_below_drewN | apply below_drew1 | refine below_set ?_ GE392.out | refine below_set ?_ GE396.out) | exact HB.out)⟩
          ·rw [if_neg c72] at H
           exact absurd H (by simp)
        ·rw [if_neg c66] at H
         have c66b0 : (t393 == (wrap64 ((l1.length : Int) - 1))) = false := beq_eq_false_iff_ne.mpr c66
         have c66b1 : (t393 != (wrap64 ((l1.length : Int) - 1))) = true := bne_iff_ne.mpr c66
         by_cases c77 : t393 = (-1)
         ·rw [if_pos c77] at H
          have c77b0 : (t393 == (-1)) = true := beq_iff_eq.mpr c77
          have c77b1 : (t393 != (-1)) = false := bne_eq_false_iff_eq.mpr c77
          clear c77
          by_cases c78 : x397001_2 = true
          ·subst c78
           have H1 : (none) = some r := by rw [if_pos rfl] at H; exact H
           clear H
           have H := H1
           clear H1
           exact absurd H (by simp)
          ·replace c78 := Bool.eq_false_iff.mpr c78
           subst c78
           have H1 : ((awardingbodylaw27_sane.f k2).bind fun t399 => (some t399)) = some r := by rw [if_neg (show ¬ (false = true) by decide)] at H; exact H
           clear H
           have H := H1
           clear H1
           replace H := Option.bind_eq_some_iff.mp H
           obtain ⟨t399, A790, H⟩ := H
           replace H : (some t399) = some r := H
           have A79 := Aside0.mk A790
           clear A790
           obtain rfl := Option.some.inj H
           have hnb80 := NB396_392.out
           have hnc80 := NB392_396.out
           have hcz81_0 : wr.cell? ⟨gb396, 0, none⟩ = some (u397000) := (blk_cell BK396.out 0).trans rfl
           have hcz81_1 : wr.cell? ⟨gb396, 1, none⟩ = some (.bool false) := (blk_cell BK396.out 1).trans rfl
           have hfz81_0 := blk_frozen BK396.out 0
           have hfz81_1 := blk_frozen BK396.out 1
           go_wp2_with (first | (go_at_call 9; (with_reducible refine (awardingbodylaw27_sane.calls k2  t399 _ A79.out).mono ?_); rintro e w82 ⟨rfl, hb⟩; have n0_ := Aside0.mk (Kd.Q_below (by (with_reducible repeat (first | apply Kd.Q_alloc | apply Kd.Q_drewN | apply Kd.Q_drew)); exact HO_397000.out) hb); have n1_ := Aside0.mk (blk_below (g := gb392) (o := .cells #[.int .i64 t387, .int .i64 t388, .int .i64 t389, .int .i64 t390] 24 (0, 0)) (by (with_reducible repeat (first | refine blk_drewN ?_ _ | refine blk_drew ?_ | refine blk_alloc ?_ _)); exact BK392.out) hb); have n2_ := Aside0.mk (blk_below (g := gb396) (o := .cells #[u397000, .bool false] 27 (0, 0)) (by (with_reducible repeat (first | refine blk_drewN ?_ _ | refine blk_drew ?_ | refine blk_alloc ?_ _)); exact BK396.out) hb); have n3_ := Aside0.mk (below_step (by repeat (first | (with_reducible first | exact HB.out | apply below_alloc | apply pw_below_drewN | apply below_drew1 | refine below_set ?_ GE392.out | refine below_set ?_ GE396.out) | exact HB.out)) hb); clear HO_397000 BK392 BK396 HB; have HO_397000 := n0_; have BK392 := n1_; have BK396 := n2_; have HB := n3_; clear n0_ n1_ n2_ n3_; (try clear hb); (try clear hb2); (try clear hk); (try clear hi)))
           go_ret
           exact ⟨by first | rfl | (simp [errW_none, errW_some] <;> rfl) | (simp [*, errW_none, errW_some] <;> rfl), by repeat (first | (with_reducible first | exact HB.out | apply below_alloc | apply pw_below_drewN | apply below_drew1 | refine below_set ?_ GE392.out | refine below_set ?_ GE396.out) | exact HB.out)⟩
         ·rw [if_neg c77] at H
          exact absurd H (by simp)
       ·rw [if_neg c65] at H
        exact absurd H (by simp)

/-- THE ONE PURE STATEMENT of awardingbodylaw27_MonitorSteps: yours. -/
def awardingbodylaw27_MonitorSteps.Pure : Prop := ∀ (l0 : List Int) (l1 : List Bool), l0.length ≤ maxLen → l0.length * 8 ≤ 140737488351232 → (∀ x ∈ l0, (Lit.int .i64 x).wf = true) → l1.length ≤ maxLen → l1.length * 1 ≤ 140737488351232 → ∃ k, awardingbodylaw27_MonitorSteps.f k l0 l1 = some true
theorem awardingbodylaw27_MonitorSteps.walk (P : awardingbodylaw27_MonitorSteps.Pure) (a0 : Option Addr) (len0 cap0 : Nat) (z0 : List Int) (a1 : Option Addr) (len1 cap1 : Nat) (z1 : List Bool) (w : World) (w0 : (a0 = none ∧ len0 = 0 ∧ cap0 = 0 ∧ z0 = []) ∨ ∃ x, a0 = some x ∧ len0 ≤ cap0 ∧ cap0 ≤ maxLen ∧ z0.length = cap0 ∧ (∀ i, i < z0.length → w.cell? (x.add i) = some (.int .i64 (z0.getD i 0))) ∧ ∀ n ∈ z0, (Lit.int .i64 n).wf = true) (y0 : len0 * 8 ≤ 140737488351232) (w1 : len1 = z1.length ∧ Kd.C Kd.bool w a1 z1.length z1 ∧ z1.length ≤ maxLen ∧ z1.length ≤ cap1) (y1 : len1 * 1 ≤ 140737488351232) :
  Calls Try.prog 7 #[.slice a0 len0 cap0, .slice a1 len1 cap1] w fun e w' => e = .returned (.bool true) ∧ Below w.heap.size w w' := by
 obtain ⟨l0, rfl, hr0, hm0, hw0, hc0⟩ := ReadsInt.ofRowC w0
 obtain ⟨l1, rfl, hr1, hm1, hc1⟩ : ∃ l : List Bool, len1 = l.length ∧ Kd.C Kd.bool w a1 l.length l ∧ l.length ≤ maxLen ∧ l.length ≤ cap1 := ⟨z1, w1⟩
 obtain ⟨k, h⟩ := P l0 l1 hm0 y0 hw0 hm1 y1
 refine (awardingbodylaw27_MonitorSteps.calls k _ _ l0 _ _ l1 true w (Kd.C_of_reads (d := (0 : Int)) (h1 := fun _ => rfl) hr0) hc0 hr1 hc1 h).mono ?_
 rintro e w' ⟨rfl, hd⟩
 exact ⟨rfl, hd⟩

end Go.Proofs.Ytdcfjmkeakkfjaa.Print
