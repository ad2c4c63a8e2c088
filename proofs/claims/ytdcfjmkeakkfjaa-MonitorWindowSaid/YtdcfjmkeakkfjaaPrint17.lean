-- Printed by a program of this session (wip/own_print.py) out of the translation; Lean checks it.
import Derived.Test.YtdcfjmkeakkfjaaPrint0
import Derived.Test.YtdcfjmkeakkfjaaPrint1
import Derived.Test.YtdcfjmkeakkfjaaPrint7
import Derived.Test.YtdcfjmkeakkfjaaPrint8
import Derived.Test.YtdcfjmkeakkfjaaPrint9
namespace Go.Proofs.Ytdcfjmkeakkfjaa.Print
open Go.RowKit Go.Proofs.YtdcfjmkeakkfjaaW.PrintWords Go.Proofs.YtdcfjmkeakkfjaaW.PrintLast Go.Proofs.YtdcfjmkeakkfjaaW.PrintMore
attribute [local go_sem] max2_int min2_int max_two min_two max_three min_three max_four min_four   -- for this text's walks alone
set_option linter.unusedVariables false
set_option linter.unusedSimpArgs false

/-! ### awardingbodylaw27_MonitorWindow: function 5 -/
mutual
def awardingbodylaw27_MonitorWindow.j0 : Nat → List Int → List Bool → Bool → Option (Bool)
  | 0, _, _, _ => none
  | k + 1, x0, x1, x20 => if x20 = true then ((awardingbodylaw27_sane.f k).bind fun t318 => (some t318)) else ((awardingbodymark_Roll.f x0).bind fun bt319 => ((awardingbodymark_Dice_Monitor.f k bt319.1 bt319.2).bind fun bt322 => (awardingbodylaw27_MonitorWindow.l0 k x1 (-1) 0 bt322.1 bt322.2.1 bt322.2.2.1 bt322.2.2.2.1)))
def awardingbodylaw27_MonitorWindow.l0 : Nat → List Bool → Int → Int → Int → Int → Int → Int → Option (Bool)
  | 0, _, _, _, _, _, _, _ => none
  | k + 1, x1, x6, x7, x328000, x328001, x328002, x328003 => if x7 < (x1.length : Int) then (awardingbodylaw27_MonitorWindow.j2 k x1 x6 x7 (decide (x6 < 0)) x328000 x328001 x328002 x328003) else (awardingbodylaw27_MonitorWindow.j2 k x1 x6 x7 false x328000 x328001 x328002 x328003)
def awardingbodylaw27_MonitorWindow.j2 : Nat → List Bool → Int → Int → Bool → Int → Int → Int → Int → Option (Bool)
  | 0, _, _, _, _, _, _, _, _ => none
  | k + 1, x1, x6, x7, x32, x328000, x328001, x328002, x328003 => if x32 = true then (awardingbodylaw27_MonitorWindow.l1 k x1 x6 x7 0 (mx 0 (wrap64 ((wrap64 (x7 - x328002)) + 1))) x328000 x328001 x328002 x328003) else ((monitor_Run.f k x328000 x328001 x328002 x328003 x1).bind fun bt328 => (if bt328.2.2 = 0 then (if bt328.1 = x6 then (if bt328.1 < 0 then ((awardingbodylaw27_sane.f k).bind fun t331 => (some t331)) else (if 0 ≤ bt328.1 then (if bt328.1 < (x1.length : Int) then (if rdOf false x1 bt328.1 = true then (none) else ((awardingbodylaw27_sane.f k).bind fun t333 => (some t333))) else (none)) else (none))) else (none)) else (none)))
def awardingbodylaw27_MonitorWindow.l1 : Nat → List Bool → Int → Int → Int → Int → Int → Int → Int → Int → Option (Bool)
  | 0, _, _, _, _, _, _, _, _, _ => none
  | k + 1, x1, x6, x7, x8, x9, x328000, x328001, x328002, x328003 => if x9 ≤ x7 then (if 0 ≤ x9 then (if x9 < (x1.length : Int) then (if rdOf false x1 x9 = true then (awardingbodylaw27_MonitorWindow.l1 k x1 x6 x7 x8 (wrap64 (x9 + 1)) x328000 x328001 x328002 x328003) else (awardingbodylaw27_MonitorWindow.l1 k x1 x6 x7 (wrap64 (x8 + 1)) (wrap64 (x9 + 1)) x328000 x328001 x328002 x328003)) else (none)) else (none)) else (if x8 ≥ x328003 then (awardingbodylaw27_MonitorWindow.l0 k x1 x7 (wrap64 (x7 + 1)) x328000 x328001 x328002 x328003) else (awardingbodylaw27_MonitorWindow.l0 k x1 x6 (wrap64 (x7 + 1)) x328000 x328001 x328002 x328003))
end
def awardingbodylaw27_MonitorWindow.f (k : Nat) (l0 : List Int) (l1 : List Bool) : Option (Bool) := (awardingbodymark_Light.f l0).bind fun t317 => (if t317 = true then (awardingbodylaw27_MonitorWindow.j0 k l0 l1 (decide ((l1.length : Int) > 60))) else (awardingbodylaw27_MonitorWindow.j0 k l0 l1 true))
theorem awardingbodylaw27_MonitorWindow.mono_l : ∀ k, (∀ y0 y1 y2, LeO (awardingbodylaw27_MonitorWindow.j0 k y0 y1 y2) (awardingbodylaw27_MonitorWindow.j0 (k + 1) y0 y1 y2)) ∧ (∀ y0 y1 y2 y3 y4 y5 y6, LeO (awardingbodylaw27_MonitorWindow.l0 k y0 y1 y2 y3 y4 y5 y6) (awardingbodylaw27_MonitorWindow.l0 (k + 1) y0 y1 y2 y3 y4 y5 y6)) ∧ (∀ y0 y1 y2 y3 y4 y5 y6 y7, LeO (awardingbodylaw27_MonitorWindow.j2 k y0 y1 y2 y3 y4 y5 y6 y7) (awardingbodylaw27_MonitorWindow.j2 (k + 1) y0 y1 y2 y3 y4 y5 y6 y7)) ∧ (∀ y0 y1 y2 y3 y4 y5 y6 y7 y8, LeO (awardingbodylaw27_MonitorWindow.l1 k y0 y1 y2 y3 y4 y5 y6 y7 y8) (awardingbodylaw27_MonitorWindow.l1 (k + 1) y0 y1 y2 y3 y4 y5 y6 y7 y8))
  | 0 => ⟨fun _ _ _ r h => by simp [awardingbodylaw27_MonitorWindow.j0] at h, fun _ _ _ _ _ _ _ r h => by simp [awardingbodylaw27_MonitorWindow.l0] at h, fun _ _ _ _ _ _ _ _ r h => by simp [awardingbodylaw27_MonitorWindow.j2] at h, fun _ _ _ _ _ _ _ _ _ r h => by simp [awardingbodylaw27_MonitorWindow.l1] at h⟩
  | k + 1 => by
    obtain ⟨ih0, ih1, ih2, ih3⟩ := awardingbodylaw27_MonitorWindow.mono_l k
    refine ⟨?_, ?_, ?_, ?_⟩
    · intro y0 y1 y2
      unfold awardingbodylaw27_MonitorWindow.j0
      repeat' first
      | (with_reducible exact ih0 _ _ _)
      | (with_reducible exact ih1 _ _ _ _ _ _ _)
      | (with_reducible exact ih2 _ _ _ _ _ _ _ _)
      | (with_reducible exact ih3 _ _ _ _ _ _ _ _ _)
      | (with_reducible exact awardingbodylaw27_sane.mono _)
      | (with_reducible exact awardingbodymark_Dice_Monitor.mono _ _ _)
      | (with_reducible exact monitor_Run.mono _ _ _ _ _ _)
      | (with_reducible exact LeO.refl _)
      | (with_reducible exact LeO.none _)
      | (with_reducible refine LeO.ite ?_ ?_)
      | (with_reducible refine LeO.bind ?_ (fun _ => ?_))
      | exact ih0 _ _ _
      | exact ih1 _ _ _ _ _ _ _
      | exact ih2 _ _ _ _ _ _ _ _
      | exact ih3 _ _ _ _ _ _ _ _ _
      | exact awardingbodylaw27_sane.mono _
      | exact awardingbodymark_Dice_Monitor.mono _ _ _
      | exact monitor_Run.mono _ _ _ _ _ _
      | exact LeO.none _
      | refine LeO.ite ?_ ?_
      | refine LeO.bind ?_ (fun _ => ?_)
    · intro y0 y1 y2 y3 y4 y5 y6
      unfold awardingbodylaw27_MonitorWindow.l0
      repeat' first
      | (with_reducible exact ih0 _ _ _)
      | (with_reducible exact ih1 _ _ _ _ _ _ _)
      | (with_reducible exact ih2 _ _ _ _ _ _ _ _)
      | (with_reducible exact ih3 _ _ _ _ _ _ _ _ _)
      | (with_reducible exact awardingbodylaw27_sane.mono _)
      | (with_reducible exact awardingbodymark_Dice_Monitor.mono _ _ _)
      | (with_reducible exact monitor_Run.mono _ _ _ _ _ _)
      | (with_reducible exact LeO.refl _)
      | (with_reducible exact LeO.none _)
      | (with_reducible refine LeO.ite ?_ ?_)
      | (with_reducible refine LeO.bind ?_ (fun _ => ?_))
      | exact ih0 _ _ _
      | exact ih1 _ _ _ _ _ _ _
      | exact ih2 _ _ _ _ _ _ _ _
      | exact ih3 _ _ _ _ _ _ _ _ _
      | exact awardingbodylaw27_sane.mono _
      | exact awardingbodymark_Dice_Monitor.mono _ _ _
      | exact monitor_Run.mono _ _ _ _ _ _
      | exact LeO.none _
      | refine LeO.ite ?_ ?_
      | refine LeO.bind ?_ (fun _ => ?_)
    · intro y0 y1 y2 y3 y4 y5 y6 y7
      unfold awardingbodylaw27_MonitorWindow.j2
      repeat' first
      | (with_reducible exact ih0 _ _ _)
      | (with_reducible exact ih1 _ _ _ _ _ _ _)
      | (with_reducible exact ih2 _ _ _ _ _ _ _ _)
      | (with_reducible exact ih3 _ _ _ _ _ _ _ _ _)
      | (with_reducible exact awardingbodylaw27_sane.mono _)
      | (with_reducible exact awardingbodymark_Dice_Monitor.mono _ _ _)
      | (with_reducible exact monitor_Run.mono _ _ _ _ _ _)
      | (with_reducible exact LeO.refl _)
      | (with_reducible exact LeO.none _)
      | (with_reducible refine LeO.ite ?_ ?_)
      | (with_reducible refine LeO.bind ?_ (fun _ => ?_))
      | exact ih0 _ _ _
      | exact ih1 _ _ _ _ _ _ _
      | exact ih2 _ _ _ _ _ _ _ _
      | exact ih3 _ _ _ _ _ _ _ _ _
      | exact awardingbodylaw27_sane.mono _
      | exact awardingbodymark_Dice_Monitor.mono _ _ _
      | exact monitor_Run.mono _ _ _ _ _ _
      | exact LeO.none _
      | refine LeO.ite ?_ ?_
      | refine LeO.bind ?_ (fun _ => ?_)
    · intro y0 y1 y2 y3 y4 y5 y6 y7 y8
      unfold awardingbodylaw27_MonitorWindow.l1
      repeat' first
      | (with_reducible exact ih0 _ _ _)
      | (with_reducible exact ih1 _ _ _ _ _ _ _)
      | (with_reducible exact ih2 _ _ _ _ _ _ _ _)
      | (with_reducible exact ih3 _ _ _ _ _ _ _ _ _)
      | (with_reducible exact awardingbodylaw27_sane.mono _)
      | (with_reducible exact awardingbodymark_Dice_Monitor.mono _ _ _)
      | (with_reducible exact monitor_Run.mono _ _ _ _ _ _)
      | (with_reducible exact LeO.refl _)
      | (with_reducible exact LeO.none _)
      | (with_reducible refine LeO.ite ?_ ?_)
      | (with_reducible refine LeO.bind ?_ (fun _ => ?_))
      | exact ih0 _ _ _
      | exact ih1 _ _ _ _ _ _ _
      | exact ih2 _ _ _ _ _ _ _ _
      | exact ih3 _ _ _ _ _ _ _ _ _
      | exact awardingbodylaw27_sane.mono _
      | exact awardingbodymark_Dice_Monitor.mono _ _ _
      | exact monitor_Run.mono _ _ _ _ _ _
      | exact LeO.none _
      | refine LeO.ite ?_ ?_
      | refine LeO.bind ?_ (fun _ => ?_)
theorem awardingbodylaw27_MonitorWindow.mono : ∀ a0 a1 k, LeO (awardingbodylaw27_MonitorWindow.f k a0 a1) (awardingbodylaw27_MonitorWindow.f (k + 1) a0 a1) := by
  intro a0 a1 k
  obtain ⟨ih0, ih1, ih2, ih3⟩ := awardingbodylaw27_MonitorWindow.mono_l k
  unfold awardingbodylaw27_MonitorWindow.f
  repeat' first
      | (with_reducible exact ih0 _ _ _)
      | (with_reducible exact ih1 _ _ _ _ _ _ _)
      | (with_reducible exact ih2 _ _ _ _ _ _ _ _)
      | (with_reducible exact ih3 _ _ _ _ _ _ _ _ _)
      | (with_reducible exact awardingbodylaw27_sane.mono _)
      | (with_reducible exact awardingbodymark_Dice_Monitor.mono _ _ _)
      | (with_reducible exact monitor_Run.mono _ _ _ _ _ _)
      | (with_reducible exact LeO.refl _)
      | (with_reducible exact LeO.none _)
      | (with_reducible refine LeO.ite ?_ ?_)
      | (with_reducible refine LeO.bind ?_ (fun _ => ?_))
      | exact ih0 _ _ _
      | exact ih1 _ _ _ _ _ _ _
      | exact ih2 _ _ _ _ _ _ _ _
      | exact ih3 _ _ _ _ _ _ _ _ _
      | exact awardingbodylaw27_sane.mono _
      | exact awardingbodymark_Dice_Monitor.mono _ _ _
      | exact monitor_Run.mono _ _ _ _ _ _
      | exact LeO.none _
      | refine LeO.ite ?_ ?_
      | refine LeO.bind ?_ (fun _ => ?_)
set_option maxHeartbeats 8000000 in
set_option maxRecDepth 100000 in
theorem awardingbodylaw27_MonitorWindow.calls (k : Nat) (A0 : Option Addr) (c0 : Nat) (l0 : List Int) (A1 : Option Addr) (c1 : Nat) (l1 : List Bool) (r : Bool) (w : World) (hr0 : Kd.C (Kd.int .i64) w A0 l0.length l0) (hc0 : l0.length ≤ c0) (hr1 : Kd.C Kd.bool w A1 l1.length l1) (hc1 : l1.length ≤ c1) (h : awardingbodylaw27_MonitorWindow.f k l0 l1 = some r) :
    Calls Try.prog 5 #[.slice A0 l0.length c0, .slice A1 l1.length c1] w fun e w' => e = .returned (.bool r) ∧ Below w.heap.size w w' := by
 have hu24 := Try.underlying24
 have HR0 := Aside0.mk hr0
 have HC0 := Aside0.mk hc0
 clear hr0 hc0
 have HR1 := Aside0.mk hr1
 have HC1 := Aside0.mk hc1
 clear hr1 hc1
 have HB := Aside0.mk (Below.refl w.heap.size w)
 have H : ((awardingbodymark_Light.f l0).bind fun t317 => (if t317 = true then (awardingbodylaw27_MonitorWindow.j0 k l0 l1 (decide ((l1.length : Int) > 60))) else (awardingbodylaw27_MonitorWindow.j0 k l0 l1 true))) = some r := h
 clear h
 have HC3 := Aside0.mk H
 clear H
 go_enter Try.func5, Try.ntmps5
 go_upto_region 1 with (fail)
 go_cut [20] (fun v20 wc => ∃ (kq : Nat) (x20_2 : Bool), v20 = .bool x20_2 ∧ Aside0 (awardingbodylaw27_MonitorWindow.j0 kq l0 l1 x20_2 = some r) ∧ Aside0 (kq ≤ k) ∧ Aside0 (Below w.heap.size w wc))
 case first =>
  have H := HC3.out
  clear HC3
  replace H := Option.bind_eq_some_iff.mp H
  obtain ⟨t317, A40, H⟩ := H
  replace H : (if t317 = true then (awardingbodylaw27_MonitorWindow.j0 k l0 l1 (decide ((l1.length : Int) > 60))) else (awardingbodylaw27_MonitorWindow.j0 k l0 l1 true)) = some r := H
  have A4 := Aside0.mk A40
  clear A40
  by_cases c5 : t317 = true
  ·subst c5
   have H1 : (awardingbodylaw27_MonitorWindow.j0 k l0 l1 (decide ((l1.length : Int) > 60))) = some r := by rw [if_pos rfl] at H; exact H
   clear H
   have H := H1
   clear H1
   have H' := Aside0.mk H
   clear H
   go_wp2_with (first | ((with_reducible refine gate_callee (f := 8) rfl ?_); refine goesL_ (some 14) rfl rfl Try.func8 (by kernel_rfl) rfl #[.slice A0 l0.length c0] rfl (by (try simp only [List.map_toArray, List.map_cons, List.map_nil]); first | done | rfl | (simp only [List.length_drop, List.length_take]; rfl)) ?_; (with_reducible refine (awardingbodymark_Light.calls _ _ l0 true _ ?side1 ?side2 A4.out).mono ?_); (case side1 => repeat (first | exact (Kd.C_below HR0.out HB.out) | (with_reducible refine Kd.C_alloc ?_ _) | (with_reducible refine Kd.C_drewN ?_ _) | (with_reducible refine Kd.C_drew ?_))); (case side2 => exact HC0.out); rintro e w' ⟨rfl, ⟨nd, rfl⟩⟩; refine ⟨_, rfl, ?_⟩))
   go_meet
   case rel => exact ⟨_, (decide ((l1.length : Int) > 60)), (by first | rfl | (simp; done) | (simp [*]; done)), H', ⟨by first | omega | exact Nat.le_refl _⟩, ⟨by repeat (first | (with_reducible first | exact HB.out | apply below_alloc | apply pw_below_drewN | apply below_drew1) | exact HB.out)⟩⟩
  ·replace c5 := Bool.eq_false_iff.mpr c5
   subst c5
   have H1 : (awardingbodylaw27_MonitorWindow.j0 k l0 l1 true) = some r := by rw [if_neg (show ¬ (false = true) by decide)] at H; exact H
   clear H
   have H := H1
   clear H1
   have H' := Aside0.mk H
   clear H
   go_wp2_with (first | ((with_reducible refine gate_callee (f := 8) rfl ?_); refine goesL_ (some 14) rfl rfl Try.func8 (by kernel_rfl) rfl #[.slice A0 l0.length c0] rfl (by (try simp only [List.map_toArray, List.map_cons, List.map_nil]); first | done | rfl | (simp only [List.length_drop, List.length_take]; rfl)) ?_; (with_reducible refine (awardingbodymark_Light.calls _ _ l0 false _ ?side1 ?side2 A4.out).mono ?_); (case side1 => repeat (first | exact (Kd.C_below HR0.out HB.out) | (with_reducible refine Kd.C_alloc ?_ _) | (with_reducible refine Kd.C_drewN ?_ _) | (with_reducible refine Kd.C_drew ?_))); (case side2 => exact HC0.out); rintro e w' ⟨rfl, ⟨nd, rfl⟩⟩; refine ⟨_, rfl, ?_⟩))
   go_meet
   case rel => exact ⟨_, (true), (by first | rfl | (simp; done) | (simp [*]; done)), H', ⟨by first | omega | exact Nat.le_refl _⟩, ⟨by repeat (first | (with_reducible first | exact HB.out | apply below_alloc | apply pw_below_drewN | apply below_drew1) | exact HB.out)⟩⟩
 case rest =>
  clear HC3
  try clear c1
  try clear p2
  try clear c5
  obtain ⟨kq, x20_2, rfl, HA, HJ2, HB⟩ := hcut
  cases kq with
  | zero => exact absurd HA.out (by simp [awardingbodylaw27_MonitorWindow.j0])
  | succ kj2 =>
   have H := HA.out
   clear HA
   simp only [awardingbodylaw27_MonitorWindow.j0] at H
   by_cases c6 : x20_2 = true
   ·subst c6
    have H1 : ((awardingbodylaw27_sane.f kj2).bind fun t318 => (some t318)) = some r := by rw [if_pos rfl] at H; exact H
    clear H
    have H := H1
    clear H1
    replace H := Option.bind_eq_some_iff.mp H
    obtain ⟨t318, A70, H⟩ := H
    replace H : (some t318) = some r := H
    have A7 := Aside0.mk A70
    clear A70
    obtain rfl := Option.some.inj H
    go_wp2_with (first | ((with_reducible refine gate_callee (f := 9) rfl ?_); refine goesL_ (some 21) rfl rfl Try.func9 (by kernel_rfl) rfl #[] rfl (by (try simp only [List.map_toArray, List.map_cons, List.map_nil]); first | done | rfl | (simp only [List.length_drop, List.length_take]; rfl)) ?_; (with_reducible refine (awardingbodylaw27_sane.calls kj2  t318 _ A7.out).mono ?_); rintro e w8 ⟨rfl, hb⟩; refine ⟨_, rfl, ?_⟩; have n0_ := Aside0.mk (below_step (by repeat (first | (with_reducible first | exact HB.out | apply below_alloc | apply pw_below_drewN | apply below_drew1) | exact HB.out)) hb); clear HB; have HB := n0_; clear n0_; (try clear hb); (try clear hb2); (try clear hk); (try clear hi)))
    go_ret
    exact ⟨by first | rfl | (simp [errW_none, errW_some] <;> rfl) | (simp [*, errW_none, errW_some] <;> rfl), by repeat (first | (with_reducible first | exact HB.out | apply below_alloc | apply pw_below_drewN | apply below_drew1) | exact HB.out)⟩
   ·replace c6 := Bool.eq_false_iff.mpr c6
    subst c6
    have H1 : ((awardingbodymark_Roll.f l0).bind fun bt319 => ((awardingbodymark_Dice_Monitor.f kj2 bt319.1 bt319.2).bind fun bt322 => (awardingbodylaw27_MonitorWindow.l0 kj2 l1 (-1) 0 bt322.1 bt322.2.1 bt322.2.2.1 bt322.2.2.2.1))) = some r := by rw [if_neg (show ¬ (false = true) by decide)] at H; exact H
    clear H
    have H := H1
    clear H1
    replace H := Option.bind_eq_some_iff.mp H
    obtain ⟨⟨t319, t320⟩, A90, H⟩ := H
    replace H : ((awardingbodymark_Dice_Monitor.f kj2 t319 t320).bind fun bt322 => (awardingbodylaw27_MonitorWindow.l0 kj2 l1 (-1) 0 bt322.1 bt322.2.1 bt322.2.2.1 bt322.2.2.2.1)) = some r := H
    have A9 := Aside0.mk A90
    clear A90
    replace H := Option.bind_eq_some_iff.mp H
    obtain ⟨⟨t322, t323, t324, t325, t326⟩, A100, H⟩ := H
    replace H : (awardingbodylaw27_MonitorWindow.l0 kj2 l1 (-1) 0 t322 t323 t324 t325) = some r := H
    have A10 := Aside0.mk A100
    clear A100
    have H' := Aside0.mk H
    clear H
    go_wp2_with (first | ((with_reducible refine gate_callee (f := 10) rfl ?_); refine goesL_ (some 23) rfl rfl Try.func10 (by kernel_rfl) rfl #[.slice A0 l0.length c0] rfl (by (try simp only [List.map_toArray, List.map_cons, List.map_nil]); first | done | rfl | (simp only [List.length_drop, List.length_take]; rfl)) ?_; (with_reducible refine (awardingbodymark_Roll.calls _ _ l0 t319 t320 w _ ?side1 ?side2 ?side3 A9.out).mono ?_); (case side1 => repeat (first | (with_reducible first | exact HB.out | apply below_alloc | apply pw_below_drewN | apply below_drew1) | exact HB.out)); (case side2 => exact HR0.out); (case side3 => exact HC0.out); rintro e w11 ⟨g321, rfl, hi, hb, hb2⟩; refine ⟨_, rfl, ?_⟩; have n0_ := Aside0.mk (hb); have n1_ := Aside0.mk (hi); clear HB; have HB := n0_; have HI321 := n1_; clear n0_ n1_; (try clear hb); (try clear hb2); (try clear hk); (try clear hi)) | ((with_reducible refine gate_callee (f := 11) rfl ?_); refine goesL_ (some 24) rfl rfl Try.func11 (by kernel_rfl) rfl #[.pointer (some ⟨g321, 0, none⟩)] rfl (by (try simp only [List.map_toArray, List.map_cons, List.map_nil]); first | done | rfl | (simp only [List.length_drop, List.length_take]; rfl)) ?_; (with_reducible refine (awardingbodymark_Dice_Monitor.calls kj2 g321 t319 t320 t322 t323 t324 t325 t326 w _ ?side1 ?side2 A10.out).mono ?_); (case side1 => repeat (first | (with_reducible first | exact HI321.out | apply IsS53.alloc | apply IsS53.drewN | apply IsS53.drew | apply IsS53.set_1) | exact HI321.out)); (case side2 => repeat (first | (with_reducible first | exact HB.out | apply below_alloc | apply pw_below_drewN | apply below_drew1 | refine below_set ?_ (IsS53.ge HI321.out)) | exact HB.out)); rintro e w12 ⟨rfl, hi, hb, hk⟩; refine ⟨_, rfl, ?_⟩; have n0_ := Aside0.mk (hb); have n1_ := Aside0.mk (hi); clear HB HI321; have HB := n0_; have HI321 := n1_; clear n0_ n1_; (try clear hb); (try clear hb2); (try clear hk); (try clear hi)) | ((with_reducible refine gate_dst (N := 5) rfl ?_); (try (refine gate_guard (by rfl) ?_; dsimp only)); refine box_event ?hg (N := 5) ?hd (cs := #[.int .i64 0, .int .i64 0, .int .i64 0, .int .i64 0]) (t := 24) ?hr ?_; (case hd => rfl); (case hg => rfl); (case hr => first | (go_simp; done) | (go_simp; rfl)); intro gb327 hg w13 hbox hb; have n0_ := Aside0.mk (IsS53.below (by repeat (first | (with_reducible first | exact HI321.out | apply IsS53.alloc | apply IsS53.drewN | apply IsS53.drew | apply IsS53.set_1) | exact HI321.out)) hb); have n1_ := Aside0.mk (below_step (by repeat (first | (with_reducible first | exact HB.out | apply below_alloc | apply pw_below_drewN | apply below_drew1 | refine below_set ?_ (IsS53.ge HI321.out)) | exact HB.out)) hb); have n2_ := Aside0.mk (hbox); have n3_ := Aside0.mk ((by rw [hg]; exact (below_size (by repeat (first | (with_reducible first | exact HB.out | apply below_alloc | apply pw_below_drewN | apply below_drew1 | refine below_set ?_ (IsS53.ge HI321.out)) | exact HB.out))) : w.heap.size ≤ gb327)); have n4_ := Aside0.mk ((by rw [hg]; exact (below_size (by repeat (first | (with_reducible first | exact HB.out | apply below_alloc | apply pw_below_drewN | apply below_drew1 | refine below_set ?_ (IsS53.ge HI321.out)) | exact HB.out))) : w.heap.size ≤ gb327)); have n5_ := Aside0.mk ((by rw [hg]; exact Nat.ne_of_lt (IsS53.lt (show IsS53 w _ g321 t319 t326 from by repeat (first | (with_reducible first | exact HI321.out | apply IsS53.alloc | apply IsS53.drewN | apply IsS53.drew | apply IsS53.set_1) | exact HI321.out))) : g321 ≠ gb327)); have n6_ := Aside0.mk ((by rw [hg]; exact Nat.ne_of_gt (IsS53.lt (show IsS53 w _ g321 t319 t326 from by repeat (first | (with_reducible first | exact HI321.out | apply IsS53.alloc | apply IsS53.drewN | apply IsS53.drew | apply IsS53.set_1) | exact HI321.out))) : gb327 ≠ g321)); clear HI321 HB; have HI321 := n0_; have HB := n1_; have BK327 := n2_; have GW327 := n3_; have GE327 := n4_; have NB321_327 := n5_; have NB327_321 := n6_; clear n0_ n1_ n2_ n3_ n4_ n5_ n6_ hb hbox hg; have hnb14 := NB327_321.out; have hnc14 := NB321_327.out; have hcz15_0 : w13.cell? ⟨gb327, 0, none⟩ = some (.int .i64 0) := (blk_cell BK327.out 0).trans rfl; have hcz15_1 : w13.cell? ⟨gb327, 1, none⟩ = some (.int .i64 0) := (blk_cell BK327.out 1).trans rfl; have hcz15_2 : w13.cell? ⟨gb327, 2, none⟩ = some (.int .i64 0) := (blk_cell BK327.out 2).trans rfl; have hcz15_3 : w13.cell? ⟨gb327, 3, none⟩ = some (.int .i64 0) := (blk_cell BK327.out 3).trans rfl; have hfz15_0 := blk_frozen BK327.out 0; have hfz15_1 := blk_frozen BK327.out 1; have hfz15_2 := blk_frozen BK327.out 2; have hfz15_3 := blk_frozen BK327.out 3))
    go_loopg [6, 7] kj2 (fun kq v6 v7 w' => ∃ (x6_2 : Int) (x7_2 : Int), v6 = .int .i64 x6_2 ∧ v7 = .int .i64 x7_2 ∧ Aside0 (awardingbodylaw27_MonitorWindow.l0 kq l1 x6_2 x7_2 t322 t323 t324 t325 = some r) ∧ Aside0 (kq ≤ kj2) ∧ Aside0 (w'.heap[gb327]? = some (.cells #[.int .i64 t322, .int .i64 t323, .int .i64 t324, .int .i64 t325] 24 (0, 0))) ∧ Aside0 (Below w.heap.size w w'))
    case atStart => exact ⟨((-1)), (0), (by first | rfl | (simp; done) | (simp [*]; done)), (by first | rfl | (simp; done) | (simp [*]; done)), H', ⟨Nat.le_refl _⟩, ⟨by (with_reducible repeat (first | refine blk_drewN ?_ _ | refine blk_drew ?_ | refine blk_alloc ?_ _)); refine blk_put (cs := #[.int .i64 t322, .int .i64 t323, .int .i64 t324, .int .i64 0]) ?_ 3 _ rfl; (with_reducible repeat (first | refine blk_drewN ?_ _ | refine blk_drew ?_ | refine blk_alloc ?_ _)); refine blk_put (cs := #[.int .i64 t322, .int .i64 t323, .int .i64 0, .int .i64 0]) ?_ 2 _ rfl; (with_reducible repeat (first | refine blk_drewN ?_ _ | refine blk_drew ?_ | refine blk_alloc ?_ _)); refine blk_put (cs := #[.int .i64 t322, .int .i64 0, .int .i64 0, .int .i64 0]) ?_ 1 _ rfl; (with_reducible repeat (first | refine blk_drewN ?_ _ | refine blk_drew ?_ | refine blk_alloc ?_ _)); refine blk_put (cs := #[.int .i64 0, .int .i64 0, .int .i64 0, .int .i64 0]) ?_ 0 _ rfl; (with_reducible repeat (first | refine blk_drewN ?_ _ | refine blk_drew ?_ | refine blk_alloc ?_ _)); exact BK327.out⟩, ⟨by repeat (first | (with_reducible first | exact HB.out | apply below_alloc | apply pw_below_drewN | apply below_drew1 | refine below_set ?_ (IsS53.ge HI321.out) | refine below_set ?_ GE327.out) | exact HB.out)⟩⟩
    case round =>
     clear H'
     try clear c1
     try clear p2
     try clear c5
     try clear c6
     try clear c8
     try clear c9
     try clear c10
     try clear c11
     try clear c14
     try clear hcz15_0
     try clear hcz15_1
     try clear hcz15_2
     try clear hcz15_3
     try clear hfz15_0
     try clear hfz15_1
     try clear hfz15_2
     try clear hfz15_3
     try clear p2
     obtain ⟨x6_2, x7_2, rfl, rfl, HA, HK2, BK327, HB⟩ := hrel
     cases gk with
     | zero => exact absurd HA.out (by simp [awardingbodylaw27_MonitorWindow.l0])
     | succ k2 =>
      have H := HA.out
      clear HA
      simp only [awardingbodylaw27_MonitorWindow.l0] at H
      have HC16 := Aside0.mk H
      clear H
      go_upto_region 6 with (fail)
      go_cut [32] (fun v32 wc => ∃ (kq : Nat) (x32_15 : Bool), v32 = .bool x32_15 ∧ Aside0 (awardingbodylaw27_MonitorWindow.j2 kq l1 x6_2 x7_2 x32_15 t322 t323 t324 t325 = some r) ∧ Aside0 (kq ≤ k2) ∧ Aside0 (wc.heap[gb327]? = some (.cells #[.int .i64 t322, .int .i64 t323, .int .i64 t324, .int .i64 t325] 24 (0, 0))) ∧ Aside0 (Below w.heap.size w wc))
      case first =>
       have H := HC16.out
       clear HC16
       by_cases c17 : x7_2 < (l1.length : Int)
       ·rw [if_pos c17] at H
        have c17b0 : decide (x7_2 < (l1.length : Int)) = true := decide_eq_true c17
        clear c17
        (first | rw [c17b0] | (simp only [i64_w, i32_w]; rw [c17b0]) | skip)
        have H' := Aside0.mk H
        clear H
        go_wp2
        go_meet
        case rel => exact ⟨_, (decide (x6_2 < 0)), (by first | rfl | (simp; done) | (simp [*]; done)), H', ⟨by have := HJ2.out; have := HK2.out; first | omega | exact Nat.le_refl _⟩, ⟨by (with_reducible repeat (first | refine blk_drewN ?_ _ | refine blk_drew ?_ | refine blk_alloc ?_ _)); exact BK327.out⟩, ⟨by repeat (first | (with_reducible first | exact HB.out | apply below_alloc | apply pw_below_drewN | apply below_drew1 | refine below_set ?_ GE327.out) | exact HB.out)⟩⟩
       ·rw [if_neg c17] at H
        have c17b0 : decide (x7_2 < (l1.length : Int)) = false := decide_eq_false c17
        clear c17
        (first | rw [c17b0] | (simp only [i64_w, i32_w]; rw [c17b0]) | skip)
        have H' := Aside0.mk H
        clear H
        go_wp2
        go_meet
        case rel => exact ⟨_, (false), (by first | rfl | (simp; done) | (simp [*]; done)), H', ⟨by have := HJ2.out; have := HK2.out; first | omega | exact Nat.le_refl _⟩, ⟨by (with_reducible repeat (first | refine blk_drewN ?_ _ | refine blk_drew ?_ | refine blk_alloc ?_ _)); exact BK327.out⟩, ⟨by repeat (first | (with_reducible first | exact HB.out | apply below_alloc | apply pw_below_drewN | apply below_drew1 | refine below_set ?_ GE327.out) | exact HB.out)⟩⟩
      case rest =>
       clear HC16
       try clear c1
       try clear p2
       try clear c5
       try clear c6
       try clear c8
       try clear c9
       try clear c10
       try clear c11
       try clear c14
       try clear c17
       try clear c17b0
       try clear hcz15_0
       try clear hcz15_1
       try clear hcz15_2
       try clear hcz15_3
       try clear hfz15_0
       try clear hfz15_1
       try clear hfz15_2
       try clear hfz15_3
       try clear p2
       obtain ⟨kq, x32_15, rfl, HA, HJ15, BK327, HB⟩ := hcut
       cases kq with
       | zero => exact absurd HA.out (by simp [awardingbodylaw27_MonitorWindow.j2])
       | succ kj15 =>
        have H := HA.out
        clear HA
        simp only [awardingbodylaw27_MonitorWindow.j2] at H
        by_cases c18 : x32_15 = true
        ·subst c18
         have H1 : (awardingbodylaw27_MonitorWindow.l1 kj15 l1 x6_2 x7_2 0 (mx 0 (wrap64 ((wrap64 (x7_2 - t324)) + 1))) t322 t323 t324 t325) = some r := by rw [if_pos rfl] at H; exact H
         clear H
         have H := H1
         clear H1
         obtain ⟨ji19, hji19⟩ : ∃ j_ : Int, (mx 0 (wrap64 ((wrap64 (x7_2 - t324)) + 1))) = j_ := ⟨_, rfl⟩
         replace H : (awardingbodylaw27_MonitorWindow.l1 kj15 l1 x6_2 x7_2 0 ji19 t322 t323 t324 t325) = some r := by first | (rw [hji19] at H; exact H) | (simp only [hji19] at H ⊢; exact H)
         have hji19_ : (if 0 < (wrap64 ((wrap64 (x7_2 - t324)) + 1)) then (wrap64 ((wrap64 (x7_2 - t324)) + 1)) else 0) = ji19 := hji19
         have H' := Aside0.mk H
         clear H
         have hcz20_0 : wc.cell? ⟨gb327, 0, none⟩ = some (.int .i64 t322) := (blk_cell BK327.out 0).trans rfl
         have hcz20_1 : wc.cell? ⟨gb327, 1, none⟩ = some (.int .i64 t323) := (blk_cell BK327.out 1).trans rfl
         have hcz20_2 : wc.cell? ⟨gb327, 2, none⟩ = some (.int .i64 t324) := (blk_cell BK327.out 2).trans rfl
         have hcz20_3 : wc.cell? ⟨gb327, 3, none⟩ = some (.int .i64 t325) := (blk_cell BK327.out 3).trans rfl
         have hfz20_0 := blk_frozen BK327.out 0
         have hfz20_1 := blk_frozen BK327.out 1
         have hfz20_2 := blk_frozen BK327.out 2
         have hfz20_3 := blk_frozen BK327.out 3
         go_wp2
         go_loopg [8, 9] kj15 (fun kq v8 v9 w' => ∃ (x8_4 : Int) (x9_4 : Int), v8 = .int .i64 x8_4 ∧ v9 = .int .i64 x9_4 ∧ Aside0 (awardingbodylaw27_MonitorWindow.l1 kq l1 x6_2 x7_2 x8_4 x9_4 t322 t323 t324 t325 = some r) ∧ Aside0 (kq ≤ kj15) ∧ Aside0 (w'.heap[gb327]? = some (.cells #[.int .i64 t322, .int .i64 t323, .int .i64 t324, .int .i64 t325] 24 (0, 0))) ∧ Aside0 (Below w.heap.size w w'))
         case atStart => exact ⟨(0), (ji19), (by first | rfl | (simp; done) | (simp [*]; done)), (by first | rfl | (simp; done) | (simp only [← hji19] <;> (first | rfl | simp)) | (simp [*]; done)), H', ⟨Nat.le_refl _⟩, ⟨by (with_reducible repeat (first | refine blk_drewN ?_ _ | refine blk_drew ?_ | refine blk_alloc ?_ _)); exact BK327.out⟩, ⟨by repeat (first | (with_reducible first | exact HB.out | apply below_alloc | apply pw_below_drewN | apply below_drew1 | refine below_set ?_ GE327.out) | exact HB.out)⟩⟩
         case round =>
          clear H'
          try clear c1
          try clear p2
          try clear c5
          try clear c6
          try clear p6
          try clear c8
          try clear c9
          try clear c10
          try clear c11
          try clear c14
          try clear c17
          try clear c17b0
          try clear c18
          try clear hcz15_0
          try clear hcz15_1
          try clear hcz15_2
          try clear hcz15_3
          try clear hcz20_0
          try clear hcz20_1
          try clear hcz20_2
          try clear hcz20_3
          try clear hfz15_0
          try clear hfz15_1
          try clear hfz15_2
          try clear hfz15_3
          try clear hfz20_0
          try clear hfz20_1
          try clear hfz20_2
          try clear hfz20_3
          try clear p2
          obtain ⟨x8_4, x9_4, rfl, rfl, HA, HK4, BK327, HB⟩ := hrel
          cases gk with
          | zero => exact absurd HA.out (by simp [awardingbodylaw27_MonitorWindow.l1])
          | succ k4 =>
           have H := HA.out
           clear HA
           simp only [awardingbodylaw27_MonitorWindow.l1] at H
           by_cases c21 : x9_4 ≤ x7_2
           ·rw [if_pos c21] at H
            have c21b0 : decide (x9_4 ≤ x7_2) = true := decide_eq_true c21
            clear c21
            by_cases c22 : 0 ≤ x9_4
            ·rw [if_pos c22] at H
             have c22b0 : decide (0 ≤ x9_4) = true := decide_eq_true c22
             clear c22
             by_cases c23 : x9_4 < (l1.length : Int)
             ·rw [if_pos c23] at H
              have c23b0 : decide (x9_4 < (l1.length : Int)) = true := decide_eq_true c23
              clear c23
              obtain ⟨bq24, hbq24⟩ : ∃ b_ : Bool, b_ = (rdOf false l1 x9_4) := ⟨_, rfl⟩
              replace H : (if bq24 = true then (awardingbodylaw27_MonitorWindow.l1 k4 l1 x6_2 x7_2 x8_4 (wrap64 (x9_4 + 1)) t322 t323 t324 t325) else (awardingbodylaw27_MonitorWindow.l1 k4 l1 x6_2 x7_2 (wrap64 (x8_4 + 1)) (wrap64 (x9_4 + 1)) t322 t323 t324 t325)) = some r := by rw [← hbq24] at H; exact H
              have Nbq24 := Aside0.mk hbq24
              clear hbq24
              by_cases c25 : bq24 = true
              ·subst c25
               (try rw [← Nbq24.out] at A4)
               (try rw [← Nbq24.out] at A7)
               (try rw [← Nbq24.out] at A9)
               (try rw [← Nbq24.out] at A10)
               have H1 : (awardingbodylaw27_MonitorWindow.l1 k4 l1 x6_2 x7_2 x8_4 (wrap64 (x9_4 + 1)) t322 t323 t324 t325) = some r := by rw [if_pos rfl] at H; exact H
               clear H
               have H := H1
               clear H1
               have H' := Aside0.mk H
               clear H
               have p334 : 0 ≤ (x9_4 : Int) := of_decide_eq_true (by first | (with_reducible assumption) | assumption)
               have q334 : x9_4 < (l1.length : Int) := of_decide_eq_true (by first | (with_reducible assumption) | assumption)
               obtain ⟨ad334, e334, hx334_0⟩ := Kd.at_bool HR1.out x9_4 p334 q334
               (try rw [← Nbq24.out] at hx334_0)
               (try rw [← Nbq24.out] at hw334_0)
               cases e334
               replace hx334_0 := (HB.out.cell (World.block_lt_of_cell? w _ hx334_0)).trans hx334_0
               replace p334 := eq_true p334
               replace q334 := eq_true q334
               go_wp2
               go_roundg k4
               case measure => have := HJ2.out; have := HK2.out; have := HJ15.out; have := HK4.out; omega
               case rel => exact ⟨(x8_4), (wrap64 (x9_4 + 1)), (by first | rfl | (simp; done) | (simp [*]; done)), (by first | rfl | (simp; done) | (simp [*]; done)), H', ⟨by have := HJ2.out; have := HK2.out; have := HJ15.out; have := HK4.out; omega⟩, ⟨by (with_reducible repeat (first | refine blk_drewN ?_ _ | refine blk_drew ?_ | refine blk_alloc ?_ _)); exact BK327.out⟩, ⟨by repeat (first | (with_reducible first | exact HB.out | apply below_alloc | apply pw_below_drewN | apply below_drew1 | refine below_set ?_ GE327.out) | exact HB.out)⟩⟩
              ·replace c25 := Bool.eq_false_iff.mpr c25
               subst c25
               (try rw [← Nbq24.out] at A4)
               (try rw [← Nbq24.out] at A7)
               (try rw [← Nbq24.out] at A9)
               (try rw [← Nbq24.out] at A10)
               have H1 : (awardingbodylaw27_MonitorWindow.l1 k4 l1 x6_2 x7_2 (wrap64 (x8_4 + 1)) (wrap64 (x9_4 + 1)) t322 t323 t324 t325) = some r := by rw [if_neg (show ¬ (false = true) by decide)] at H; exact H
               clear H
               have H := H1
               clear H1
               have H' := Aside0.mk H
               clear H
               have p334 : 0 ≤ (x9_4 : Int) := of_decide_eq_true (by first | (with_reducible assumption) | assumption)
               have q334 : x9_4 < (l1.length : Int) := of_decide_eq_true (by first | (with_reducible assumption) | assumption)
               obtain ⟨ad334, e334, hx334_0⟩ := Kd.at_bool HR1.out x9_4 p334 q334
               (try rw [← Nbq24.out] at hx334_0)
               (try rw [← Nbq24.out] at hw334_0)
               cases e334
               replace hx334_0 := (HB.out.cell (World.block_lt_of_cell? w _ hx334_0)).trans hx334_0
               replace p334 := eq_true p334
               replace q334 := eq_true q334
               go_wp2
               go_roundg k4
               case measure => have := HJ2.out; have := HK2.out; have := HJ15.out; have := HK4.out; omega
               case rel => exact ⟨(wrap64 (x8_4 + 1)), (wrap64 (x9_4 + 1)), (by first | rfl | (simp; done) | (simp [*]; done)), (by first | rfl | (simp; done) | (simp [*]; done)), H', ⟨by have := HJ2.out; have := HK2.out; have := HJ15.out; have := HK4.out; omega⟩, ⟨by (with_reducible repeat (first | refine blk_drewN ?_ _ | refine blk_drew ?_ | refine blk_alloc ?_ _)); exact BK327.out⟩, ⟨by repeat (first | (with_reducible first | exact HB.out | apply below_alloc | apply pw_below_drewN | apply below_drew1 | refine below_set ?_ GE327.out) | exact HB.out)⟩⟩
             ·rw [if_neg c23] at H
              exact absurd H (by simp)
            ·rw [if_neg c22] at H
             exact absurd H (by simp)
           ·rw [if_neg c21] at H
            have c21b0 : decide (x9_4 ≤ x7_2) = false := decide_eq_false c21
            clear c21
            by_cases c26 : x8_4 ≥ t325
            ·rw [if_pos c26] at H
             have c26b0 : decide (t325 ≤ x8_4) = true := decide_eq_true c26
             clear c26
             have H' := Aside0.mk H
             clear H
             have hcz27_0 : wr.cell? ⟨gb327, 0, none⟩ = some (.int .i64 t322) := (blk_cell BK327.out 0).trans rfl
             have hcz27_1 : wr.cell? ⟨gb327, 1, none⟩ = some (.int .i64 t323) := (blk_cell BK327.out 1).trans rfl
             have hcz27_2 : wr.cell? ⟨gb327, 2, none⟩ = some (.int .i64 t324) := (blk_cell BK327.out 2).trans rfl
             have hcz27_3 : wr.cell? ⟨gb327, 3, none⟩ = some (.int .i64 t325) := (blk_cell BK327.out 3).trans rfl
             have hfz27_0 := blk_frozen BK327.out 0
             have hfz27_1 := blk_frozen BK327.out 1
             have hfz27_2 := blk_frozen BK327.out 2
             have hfz27_3 := blk_frozen BK327.out 3
             go_wp2
             go_roundg k4
             case measure => have := HJ2.out; have := HK2.out; have := HJ15.out; have := HK4.out; omega
             case rel => exact ⟨(x7_2), (wrap64 (x7_2 + 1)), (by first | rfl | (simp; done) | (simp [*]; done)), (by first | rfl | (simp; done) | (simp [*]; done)), H', ⟨by have := HJ2.out; have := HK2.out; have := HJ15.out; have := HK4.out; omega⟩, ⟨by (with_reducible repeat (first | refine blk_drewN ?_ _ | refine blk_drew ?_ | refine blk_alloc ?_ _)); exact BK327.out⟩, ⟨by repeat (first | (with_reducible first | exact HB.out | apply below_alloc | apply pw_below_drewN | apply below_drew1 | refine below_set ?_ GE327.out) | exact HB.out)⟩⟩
            ·rw [if_neg c26] at H
             have c26b0 : decide (t325 ≤ x8_4) = false := decide_eq_false c26
             clear c26
             have H' := Aside0.mk H
             clear H
             have hcz28_0 : wr.cell? ⟨gb327, 0, none⟩ = some (.int .i64 t322) := (blk_cell BK327.out 0).trans rfl
             have hcz28_1 : wr.cell? ⟨gb327, 1, none⟩ = some (.int .i64 t323) := (blk_cell BK327.out 1).trans rfl
             have hcz28_2 : wr.cell? ⟨gb327, 2, none⟩ = some (.int .i64 t324) := (blk_cell BK327.out 2).trans rfl
             have hcz28_3 : wr.cell? ⟨gb327, 3, none⟩ = some (.int .i64 t325) := (blk_cell BK327.out 3).trans rfl
             have hfz28_0 := blk_frozen BK327.out 0
             have hfz28_1 := blk_frozen BK327.out 1
             have hfz28_2 := blk_frozen BK327.out 2
             have hfz28_3 := blk_frozen BK327.out 3
             go_wp2
             go_roundg k4
             case measure => have := HJ2.out; have := HK2.out; have := HJ15.out; have := HK4.out; omega
             case rel => exact ⟨(x6_2), (wrap64 (x7_2 + 1)), (by first | rfl | (simp; done) | (simp [*]; done)), (by first | rfl | (simp; done) | (simp [*]; done)), H', ⟨by have := HJ2.out; have := HK2.out; have := HJ15.out; have := HK4.out; omega⟩, ⟨by (with_reducible repeat (first | refine blk_drewN ?_ _ | refine blk_drew ?_ | refine blk_alloc ?_ _)); exact BK327.out⟩, ⟨by repeat (first | (with_reducible first | exact HB.out | apply below_alloc | apply pw_below_drewN | apply below_drew1 | refine below_set ?_ GE327.out) | exact HB.out)⟩⟩
        ·replace c18 := Bool.eq_false_iff.mpr c18
         subst c18
         have H1 : ((monitor_Run.f kj15 t322 t323 t324 t325 l1).bind fun bt328 => (if bt328.2.2 = 0 then (if bt328.1 = x6_2 then (if bt328.1 < 0 then ((awardingbodylaw27_sane.f kj15).bind fun t331 => (some t331)) else (if 0 ≤ bt328.1 then (if bt328.1 < (l1.length : Int) then (if rdOf false l1 bt328.1 = true then (none) else ((awardingbodylaw27_sane.f kj15).bind fun t333 => (some t333))) else (none)) else (none))) else (none)) else (none))) = some r := by rw [if_neg (show ¬ (false = true) by decide)] at H; exact H
         clear H
         have H := H1
         clear H1
         replace H := Option.bind_eq_some_iff.mp H
         obtain ⟨⟨t328, t329, t330⟩, A290, H⟩ := H
         replace H : (if t330 = 0 then (if t328 = x6_2 then (if t328 < 0 then ((awardingbodylaw27_sane.f kj15).bind fun t331 => (some t331)) else (if 0 ≤ t328 then (if t328 < (l1.length : Int) then (if rdOf false l1 t328 = true then (none) else ((awardingbodylaw27_sane.f kj15).bind fun t333 => (some t333))) else (none)) else (none))) else (none)) else (none)) = some r := H
         have A29 := Aside0.mk A290
         clear A290
         by_cases c30 : t330 = 0
         ·rw [if_pos c30] at H
          have c30b0 : (t330 == 0) = true := beq_iff_eq.mpr c30
          have c30b1 : (t330 != 0) = false := bne_eq_false_iff_eq.mpr c30
          clear c30
          by_cases c31 : t328 = x6_2
          ·rw [if_pos c31] at H
           have c31b0 : (t328 == x6_2) = true := beq_iff_eq.mpr c31
           have c31b1 : (t328 != x6_2) = false := bne_eq_false_iff_eq.mpr c31
           clear c31
           by_cases c32 : t328 < 0
           ·rw [if_pos c32] at H
            have c32b0 : decide (t328 < 0) = true := decide_eq_true c32
            clear c32
            replace H := Option.bind_eq_some_iff.mp H
            obtain ⟨t331, A330, H⟩ := H
            replace H : (some t331) = some r := H
            have A33 := Aside0.mk A330
            clear A330
            obtain rfl := Option.some.inj H
            have hcz34_0 : wc.cell? ⟨gb327, 0, none⟩ = some (.int .i64 t322) := (blk_cell BK327.out 0).trans rfl
            have hcz34_1 : wc.cell? ⟨gb327, 1, none⟩ = some (.int .i64 t323) := (blk_cell BK327.out 1).trans rfl
            have hcz34_2 : wc.cell? ⟨gb327, 2, none⟩ = some (.int .i64 t324) := (blk_cell BK327.out 2).trans rfl
            have hcz34_3 : wc.cell? ⟨gb327, 3, none⟩ = some (.int .i64 t325) := (blk_cell BK327.out 3).trans rfl
            have hfz34_0 := blk_frozen BK327.out 0
            have hfz34_1 := blk_frozen BK327.out 1
            have hfz34_2 := blk_frozen BK327.out 2
            have hfz34_3 := blk_frozen BK327.out 3
            go_wp2_with (first | ((with_reducible refine gate_callee (f := 20) rfl ?_); refine goesL_ (some 61) rfl rfl Try.func20 (by kernel_rfl) rfl #[.agg #[.int .i64 t322, .int .i64 t323, .int .i64 t324, .int .i64 t325], .slice A1 l1.length c1] rfl (by (try simp only [List.map_toArray, List.map_cons, List.map_nil]); first | done | rfl | (simp only [List.length_drop, List.length_take]; rfl)) ?_; (with_reducible refine (monitor_Run.calls kj15 t322 t323 t324 t325 _ _ l1 t328 t329 t330 _ ?side1 ?side2 A29.out).mono ?_); (case side1 => repeat (first | exact (Kd.C_below HR1.out HB.out) | (with_reducible refine Kd.C_alloc ?_ _) | (with_reducible refine Kd.C_drewN ?_ _) | (with_reducible refine Kd.C_drew ?_))); (case side2 => exact HC1.out); rintro e w35 ⟨rfl, hb⟩; refine ⟨_, rfl, ?_⟩; have n0_ := Aside0.mk (blk_below (g := gb327) (o := .cells #[.int .i64 t322, .int .i64 t323, .int .i64 t324, .int .i64 t325] 24 (0, 0)) (by (with_reducible repeat (first | refine blk_drewN ?_ _ | refine blk_drew ?_ | refine blk_alloc ?_ _)); exact BK327.out) hb); have n1_ := Aside0.mk (below_step (by repeat (first | (with_reducible first | exact HB.out | apply below_alloc | apply pw_below_drewN | apply below_drew1 | refine below_set ?_ GE327.out) | exact HB.out)) hb); clear BK327 HB; have BK327 := n0_; have HB := n1_; clear n0_ n1_; (try clear hb); (try clear hb2); (try clear hk); (try clear hi)) | (go_at_call 9; (with_reducible refine (awardingbodylaw27_sane.calls kj15  t331 _ A33.out).mono ?_); rintro e w36 ⟨rfl, hb⟩; have n0_ := Aside0.mk (blk_below (g := gb327) (o := .cells #[.int .i64 t322, .int .i64 t323, .int .i64 t324, .int .i64 t325] 24 (0, 0)) (by (with_reducible repeat (first | refine blk_drewN ?_ _ | refine blk_drew ?_ | refine blk_alloc ?_ _)); exact BK327.out) hb); have n1_ := Aside0.mk (below_step (by repeat (first | (with_reducible first | exact HB.out | apply below_alloc | apply pw_below_drewN | apply below_drew1 | refine below_set ?_ GE327.out) | exact HB.out)) hb); clear BK327 HB; have BK327 := n0_; have HB := n1_; clear n0_ n1_; (try clear hb); (try clear hb2); (try clear hk); (try clear hi)))
            go_ret
            exact ⟨by first | rfl | (simp [errW_none, errW_some] <;> rfl) | (simp [*, errW_none, errW_some] <;> rfl), by repeat (first | (with_reducible first | exact HB.out | apply below_alloc | apply pw_below_drewN | apply below_drew1 | refine below_set ?_ GE327.out) | exact HB.out)⟩
           ·rw [if_neg c32] at H
            have c32b0 : decide (t328 < 0) = false := decide_eq_false c32
            clear c32
            by_cases c37 : 0 ≤ t328
            ·rw [if_pos c37] at H
             have c37b0 : decide (0 ≤ t328) = true := decide_eq_true c37
             clear c37
             by_cases c38 : t328 < (l1.length : Int)
             ·rw [if_pos c38] at H
              have c38b0 : decide (t328 < (l1.length : Int)) = true := decide_eq_true c38
              clear c38
              obtain ⟨bq39, hbq39⟩ : ∃ b_ : Bool, b_ = (rdOf false l1 t328) := ⟨_, rfl⟩
              replace H : (if bq39 = true then (none) else ((awardingbodylaw27_sane.f kj15).bind fun t333 => (some t333))) = some r := by rw [← hbq39] at H; exact H
              have Nbq39 := Aside0.mk hbq39
              clear hbq39
              by_cases c40 : bq39 = true
              ·subst c40
               (try rw [← Nbq39.out] at A4)
               (try rw [← Nbq39.out] at A7)
               (try rw [← Nbq39.out] at A9)
               (try rw [← Nbq39.out] at A10)
               (try rw [← Nbq39.out] at A29)
               (try rw [← Nbq39.out] at A33)
               have H1 : (none) = some r := by rw [if_pos rfl] at H; exact H
               clear H
               have H := H1
               clear H1
               exact absurd H (by simp)
              ·replace c40 := Bool.eq_false_iff.mpr c40
               subst c40
               (try rw [← Nbq39.out] at A4)
               (try rw [← Nbq39.out] at A7)
               (try rw [← Nbq39.out] at A9)
               (try rw [← Nbq39.out] at A10)
               (try rw [← Nbq39.out] at A29)
               (try rw [← Nbq39.out] at A33)
               have H1 : ((awardingbodylaw27_sane.f kj15).bind fun t333 => (some t333)) = some r := by rw [if_neg (show ¬ (false = true) by decide)] at H; exact H
               clear H
               have H := H1
               clear H1
               replace H := Option.bind_eq_some_iff.mp H
               obtain ⟨t333, A410, H⟩ := H
               replace H : (some t333) = some r := H
               have A41 := Aside0.mk A410
               clear A410
               obtain rfl := Option.some.inj H
               have hcz42_0 : wc.cell? ⟨gb327, 0, none⟩ = some (.int .i64 t322) := (blk_cell BK327.out 0).trans rfl
               have hcz42_1 : wc.cell? ⟨gb327, 1, none⟩ = some (.int .i64 t323) := (blk_cell BK327.out 1).trans rfl
               have hcz42_2 : wc.cell? ⟨gb327, 2, none⟩ = some (.int .i64 t324) := (blk_cell BK327.out 2).trans rfl
               have hcz42_3 : wc.cell? ⟨gb327, 3, none⟩ = some (.int .i64 t325) := (blk_cell BK327.out 3).trans rfl
               have hfz42_0 := blk_frozen BK327.out 0
               have hfz42_1 := blk_frozen BK327.out 1
               have hfz42_2 := blk_frozen BK327.out 2
               have hfz42_3 := blk_frozen BK327.out 3
               go_wp2_with (first | ((with_reducible refine gate_callee (f := 20) rfl ?_); refine goesL_ (some 61) rfl rfl Try.func20 (by kernel_rfl) rfl #[.agg #[.int .i64 t322, .int .i64 t323, .int .i64 t324, .int .i64 t325], .slice A1 l1.length c1] rfl (by (try simp only [List.map_toArray, List.map_cons, List.map_nil]); first | done | rfl | (simp only [List.length_drop, List.length_take]; rfl)) ?_; (with_reducible refine (monitor_Run.calls kj15 t322 t323 t324 t325 _ _ l1 t328 t329 t330 _ ?side1 ?side2 A29.out).mono ?_); (case side1 => repeat (first | exact (Kd.C_below HR1.out HB.out) | (with_reducible refine Kd.C_alloc ?_ _) | (with_reducible refine Kd.C_drewN ?_ _) | (with_reducible refine Kd.C_drew ?_))); (case side2 => exact HC1.out); rintro e w43 ⟨rfl, hb⟩; refine ⟨_, rfl, ?_⟩; have n0_ := Aside0.mk (blk_below (g := gb327) (o := .cells #[.int .i64 t322, .int .i64 t323, .int .i64 t324, .int .i64 t325] 24 (0, 0)) (by (with_reducible repeat (first | refine blk_drewN ?_ _ | refine blk_drew ?_ | refine blk_alloc ?_ _)); exact BK327.out) hb); have n1_ := Aside0.mk (below_step (by repeat (first | (with_reducible first | exact HB.out | apply below_alloc | apply pw_below_drewN | apply below_drew1 | refine below_set ?_ GE327.out) | exact HB.out)) hb); clear BK327 HB; have BK327 := n0_; have HB := n1_; clear n0_ n1_; (try clear hb); (try clear hb2); (try clear hk); (try clear hi); have p332 : 0 ≤ (t328 : Int) := of_decide_eq_true (by first | (with_reducible assumption) | assumption); have q332 : t328 < (l1.length : Int) := of_decide_eq_true (by first | (with_reducible assumption) | assumption); obtain ⟨ad332, e332, hx332_0⟩ := Kd.at_bool HR1.out t328 p332 q332; (try rw [← Nbq39.out] at hx332_0); cases e332; replace hx332_0 := (HB.out.cell (World.block_lt_of_cell? w _ hx332_0)).trans hx332_0; replace p332 := eq_true p332; replace q332 := eq_true q332) | (go_at_call 9; (with_reducible refine (awardingbodylaw27_sane.calls kj15  t333 _ A41.out).mono ?_); rintro e w44 ⟨rfl, hb⟩; have n0_ := Aside0.mk (blk_below (g := gb327) (o := .cells #[.int .i64 t322, .int .i64 t323, .int .i64 t324, .int .i64 t325] 24 (0, 0)) (by (with_reducible repeat (first | refine blk_drewN ?_ _ | refine blk_drew ?_ | refine blk_alloc ?_ _)); exact BK327.out) hb); have n1_ := Aside0.mk (below_step (by repeat (first | (with_reducible first | exact HB.out | apply below_alloc | apply pw_below_drewN | apply below_drew1 | refine below_set ?_ GE327.out) | exact HB.out)) hb); clear BK327 HB; have BK327 := n0_; have HB := n1_; clear n0_ n1_; (try clear hb); (try clear hb2); (try clear hk); (try clear hi)))
               go_ret
               exact ⟨by first | rfl | (simp [errW_none, errW_some] <;> rfl) | (simp [*, errW_none, errW_some] <;> rfl), by repeat (first | (with_reducible first | exact HB.out | apply below_alloc | apply pw_below_drewN | apply below_drew1 | refine below_set ?_ GE327.out) | exact HB.out)⟩
             ·rw [if_neg c38] at H
              exact absurd H (by simp)
            ·rw [if_neg c37] at H
             exact absurd H (by simp)
          ·rw [if_neg c31] at H
           exact absurd H (by simp)
         ·rw [if_neg c30] at H
          exact absurd H (by simp)

/-- THE ONE PURE STATEMENT of awardingbodylaw27_MonitorWindow: yours. -/
def awardingbodylaw27_MonitorWindow.Pure : Prop := ∀ (l0 : List Int) (l1 : List Bool), l0.length ≤ maxLen → l0.length * 8 ≤ 140737488351232 → (∀ x ∈ l0, (Lit.int .i64 x).wf = true) → l1.length ≤ maxLen → l1.length * 1 ≤ 140737488351232 → ∃ k, awardingbodylaw27_MonitorWindow.f k l0 l1 = some true
theorem awardingbodylaw27_MonitorWindow.walk (P : awardingbodylaw27_MonitorWindow.Pure) (a0 : Option Addr) (len0 cap0 : Nat) (z0 : List Int) (a1 : Option Addr) (len1 cap1 : Nat) (z1 : List Bool) (w : World) (w0 : (a0 = none ∧ len0 = 0 ∧ cap0 = 0 ∧ z0 = []) ∨ ∃ x, a0 = some x ∧ len0 ≤ cap0 ∧ cap0 ≤ maxLen ∧ z0.length = cap0 ∧ (∀ i, i < z0.length → w.cell? (x.add i) = some (.int .i64 (z0.getD i 0))) ∧ ∀ n ∈ z0, (Lit.int .i64 n).wf = true) (y0 : len0 * 8 ≤ 140737488351232) (w1 : len1 = z1.length ∧ Kd.C Kd.bool w a1 z1.length z1 ∧ z1.length ≤ maxLen ∧ z1.length ≤ cap1) (y1 : len1 * 1 ≤ 140737488351232) :
  Calls Try.prog 5 #[.slice a0 len0 cap0, .slice a1 len1 cap1] w fun e w' => e = .returned (.bool true) ∧ Below w.heap.size w w' := by
 obtain ⟨l0, rfl, hr0, hm0, hw0, hc0⟩ := ReadsInt.ofRowC w0
 obtain ⟨l1, rfl, hr1, hm1, hc1⟩ : ∃ l : List Bool, len1 = l.length ∧ Kd.C Kd.bool w a1 l.length l ∧ l.length ≤ maxLen ∧ l.length ≤ cap1 := ⟨z1, w1⟩
 obtain ⟨k, h⟩ := P l0 l1 hm0 y0 hw0 hm1 y1
 refine (awardingbodylaw27_MonitorWindow.calls k _ _ l0 _ _ l1 true w (Kd.C_of_reads (d := (0 : Int)) (h1 := fun _ => rfl) hr0) hc0 hr1 hc1 h).mono ?_
 rintro e w' ⟨rfl, hd⟩
 exact ⟨rfl, hd⟩

end Go.Proofs.Ytdcfjmkeakkfjaa.Print
