-- Printed by a program of this session (wip/own_print.py) out of the translation; Lean checks it.
import Derived.Test.YtdcfjmkeakkfjaaPrint0
import Derived.Test.YtdcfjmkeakkfjaaPrint1
import Derived.Test.YtdcfjmkeakkfjaaPrint7
import Derived.Test.YtdcfjmkeakkfjaaPrint8
import Derived.Test.YtdcfjmkeakkfjaaPrint9
namespace Go.Proofs.Ytdcfjmkeakkfjaa.Print
open Go.RowKit Go.Proofs.YtdcfjmkeakkfjaaW.PrintWords Go.Proofs.YtdcfjmkeakkfjaaW.PrintLast Go.Proofs.YtdcfjmkeakkfjaaW.PrintMore
attribute [local go_sem] max2_int min2_int max_two min_two max_three min_three max_four min_four   -- for this text's walks alone
set_option linter.unusedVariables false
set_option linter.unusedSimpArgs false

/-! ### awardingbodylaw27_MonitorBetter: function 4 -/
mutual
def awardingbodylaw27_MonitorBetter.j0 : Nat → List Int → List Bool → Int → Bool → Option (Bool)
  | 0, _, _, _, _ => none
  | k + 1, x0, x1, x2, x29 => if x29 = true then ((awardingbodylaw27_sane.f k).bind fun t293 => (some t293)) else ((awardingbodymark_Roll.f x0).bind fun bt294 => ((awardingbodymark_Dice_Monitor.f k bt294.1 bt294.2).bind fun bt297 => (if ([] : List Bool).length + x1.length < 140737488355328 then ((some (([] : List Bool) ++ x1 : List Bool)).bind fun y303 => (if (x1.length : Int) = 0 then (none) else (if 0 ≤ (Int.tmod (wrap64 (x2)) (x1.length : Int)) then (if (Int.tmod (wrap64 (x2)) (x1.length : Int)) < (y303.length : Int) then ((monitor_Run.f k bt297.1 bt297.2.1 bt297.2.2.1 bt297.2.2.2.1 x1).bind fun bt307 => ((monitor_Run.f k bt297.1 bt297.2.1 bt297.2.2.1 bt297.2.2.2.1 (y303.set ((Int.tmod (wrap64 (x2)) (x1.length : Int)) : Int).toNat true)).bind fun bt310 => (if bt307.2.2 = 0 then (if bt310.2.2 = 0 then (if bt307.1 = (-1) then (if bt310.1 = (-1) then (awardingbodylaw27_MonitorBetter.j1 k x1 bt307.1 bt307.2.1 false) else (awardingbodylaw27_MonitorBetter.j1 k x1 bt307.1 bt307.2.1 true)) else (if bt310.1 = (-1) then (awardingbodylaw27_MonitorBetter.j1 k x1 bt307.1 bt307.2.1 false) else (awardingbodylaw27_MonitorBetter.j1 k x1 bt307.1 bt307.2.1 (decide (bt310.1 < bt307.1))))) else (awardingbodylaw27_MonitorBetter.j1 k x1 bt307.1 bt307.2.1 true)) else (awardingbodylaw27_MonitorBetter.j1 k x1 bt307.1 bt307.2.1 true)))) else (none)) else (none)))) else (none))))
def awardingbodylaw27_MonitorBetter.j1 : Nat → List Bool → Int → Int → Bool → Option (Bool)
  | 0, _, _, _, _ => none
  | k + 1, x1, x9, x10, x83 => if x83 = true then (none) else (if x9 = (-1) then (awardingbodylaw27_MonitorBetter.j2 k x1 x10 (x1.length : Int)) else (awardingbodylaw27_MonitorBetter.j2 k x1 x10 x9))
def awardingbodylaw27_MonitorBetter.j2 : Nat → List Bool → Int → Int → Option (Bool)
  | 0, _, _, _ => none
  | k + 1, x1, x10, x15 => awardingbodylaw27_MonitorBetter.l0 k x1 x10 x15 0
def awardingbodylaw27_MonitorBetter.l0 : Nat → List Bool → Int → Int → Int → Option (Bool)
  | 0, _, _, _, _ => none
  | k + 1, x1, x10, x15, x16 => if x16 < x15 then (if 0 ≤ x16 then (if x16 < (x1.length : Int) then (if rdOf false x1 x16 = true then (if x16 > x10 then (none) else (awardingbodylaw27_MonitorBetter.l0 k x1 x10 x15 (wrap64 (x16 + 1)))) else (awardingbodylaw27_MonitorBetter.l0 k x1 x10 x15 (wrap64 (x16 + 1)))) else (none)) else (none)) else (if x10 = (-1) then ((awardingbodylaw27_sane.f k).bind fun t314 => (some t314)) else (if x10 < x15 then (if 0 ≤ x10 then (if x10 < (x1.length : Int) then (if rdOf false x1 x10 = true then ((awardingbodylaw27_sane.f k).bind fun t316 => (some t316)) else (none)) else (none)) else (none)) else (none)))
end
def awardingbodylaw27_MonitorBetter.f (k : Nat) (l0 : List Int) (l1 : List Bool) (a2 : Int) : Option (Bool) := (awardingbodymark_Light.f l0).bind fun t292 => (if t292 = true then (if (l1.length : Int) > 60 then (awardingbodylaw27_MonitorBetter.j0 k l0 l1 a2 true) else (awardingbodylaw27_MonitorBetter.j0 k l0 l1 a2 ((l1.length : Int) == 0))) else (awardingbodylaw27_MonitorBetter.j0 k l0 l1 a2 true))
theorem awardingbodylaw27_MonitorBetter.mono_l : ∀ k, (∀ y0 y1 y2 y3, LeO (awardingbodylaw27_MonitorBetter.j0 k y0 y1 y2 y3) (awardingbodylaw27_MonitorBetter.j0 (k + 1) y0 y1 y2 y3)) ∧ (∀ y0 y1 y2 y3, LeO (awardingbodylaw27_MonitorBetter.j1 k y0 y1 y2 y3) (awardingbodylaw27_MonitorBetter.j1 (k + 1) y0 y1 y2 y3)) ∧ (∀ y0 y1 y2, LeO (awardingbodylaw27_MonitorBetter.j2 k y0 y1 y2) (awardingbodylaw27_MonitorBetter.j2 (k + 1) y0 y1 y2)) ∧ (∀ y0 y1 y2 y3, LeO (awardingbodylaw27_MonitorBetter.l0 k y0 y1 y2 y3) (awardingbodylaw27_MonitorBetter.l0 (k + 1) y0 y1 y2 y3))
  | 0 => ⟨fun _ _ _ _ r h => by simp [awardingbodylaw27_MonitorBetter.j0] at h, fun _ _ _ _ r h => by simp [awardingbodylaw27_MonitorBetter.j1] at h, fun _ _ _ r h => by simp [awardingbodylaw27_MonitorBetter.j2] at h, fun _ _ _ _ r h => by simp [awardingbodylaw27_MonitorBetter.l0] at h⟩
  | k + 1 => by
    obtain ⟨ih0, ih1, ih2, ih3⟩ := awardingbodylaw27_MonitorBetter.mono_l k
    refine ⟨?_, ?_, ?_, ?_⟩
    · intro y0 y1 y2 y3
      unfold awardingbodylaw27_MonitorBetter.j0
      repeat' first
      | (with_reducible exact ih0 _ _ _ _)
      | (with_reducible exact ih1 _ _ _ _)
      | (with_reducible exact ih2 _ _ _)
      | (with_reducible exact ih3 _ _ _ _)
      | (with_reducible exact awardingbodylaw27_sane.mono _)
      | (with_reducible exact awardingbodymark_Dice_Monitor.mono _ _ _)
      | (with_reducible exact monitor_Run.mono _ _ _ _ _ _)
      | (with_reducible exact LeO.refl _)
      | (with_reducible exact LeO.none _)
      | (with_reducible refine LeO.ite ?_ ?_)
      | (with_reducible refine LeO.bind ?_ (fun _ => ?_))
      | exact ih0 _ _ _ _
      | exact ih1 _ _ _ _
      | exact ih2 _ _ _
      | exact ih3 _ _ _ _
      | exact awardingbodylaw27_sane.mono _
      | exact awardingbodymark_Dice_Monitor.mono _ _ _
      | exact monitor_Run.mono _ _ _ _ _ _
      | exact LeO.none _
      | refine LeO.ite ?_ ?_
      | refine LeO.bind ?_ (fun _ => ?_)
    · intro y0 y1 y2 y3
      unfold awardingbodylaw27_MonitorBetter.j1
      repeat' first
      | (with_reducible exact ih0 _ _ _ _)
      | (with_reducible exact ih1 _ _ _ _)
      | (with_reducible exact ih2 _ _ _)
      | (with_reducible exact ih3 _ _ _ _)
      | (with_reducible exact awardingbodylaw27_sane.mono _)
      | (with_reducible exact awardingbodymark_Dice_Monitor.mono _ _ _)
      | (with_reducible exact monitor_Run.mono _ _ _ _ _ _)
      | (with_reducible exact LeO.refl _)
      | (with_reducible exact LeO.none _)
      | (with_reducible refine LeO.ite ?_ ?_)
      | (with_reducible refine LeO.bind ?_ (fun _ => ?_))
      | exact ih0 _ _ _ _
      | exact ih1 _ _ _ _
      | exact ih2 _ _ _
      | exact ih3 _ _ _ _
      | exact awardingbodylaw27_sane.mono _
      | exact awardingbodymark_Dice_Monitor.mono _ _ _
      | exact monitor_Run.mono _ _ _ _ _ _
      | exact LeO.none _
      | refine LeO.ite ?_ ?_
      | refine LeO.bind ?_ (fun _ => ?_)
    · intro y0 y1 y2
      unfold awardingbodylaw27_MonitorBetter.j2
      repeat' first
      | (with_reducible exact ih0 _ _ _ _)
      | (with_reducible exact ih1 _ _ _ _)
      | (with_reducible exact ih2 _ _ _)
      | (with_reducible exact ih3 _ _ _ _)
      | (with_reducible exact awardingbodylaw27_sane.mono _)
      | (with_reducible exact awardingbodymark_Dice_Monitor.mono _ _ _)
      | (with_reducible exact monitor_Run.mono _ _ _ _ _ _)
      | (with_reducible exact LeO.refl _)
      | (with_reducible exact LeO.none _)
      | (with_reducible refine LeO.ite ?_ ?_)
      | (with_reducible refine LeO.bind ?_ (fun _ => ?_))
      | exact ih0 _ _ _ _
      | exact ih1 _ _ _ _
      | exact ih2 _ _ _
      | exact ih3 _ _ _ _
      | exact awardingbodylaw27_sane.mono _
      | exact awardingbodymark_Dice_Monitor.mono _ _ _
      | exact monitor_Run.mono _ _ _ _ _ _
      | exact LeO.none _
      | refine LeO.ite ?_ ?_
      | refine LeO.bind ?_ (fun _ => ?_)
    · intro y0 y1 y2 y3
      unfold awardingbodylaw27_MonitorBetter.l0
      repeat' first
      | (with_reducible exact ih0 _ _ _ _)
      | (with_reducible exact ih1 _ _ _ _)
      | (with_reducible exact ih2 _ _ _)
      | (with_reducible exact ih3 _ _ _ _)
      | (with_reducible exact awardingbodylaw27_sane.mono _)
      | (with_reducible exact awardingbodymark_Dice_Monitor.mono _ _ _)
      | (with_reducible exact monitor_Run.mono _ _ _ _ _ _)
      | (with_reducible exact LeO.refl _)
      | (with_reducible exact LeO.none _)
      | (with_reducible refine LeO.ite ?_ ?_)
      | (with_reducible refine LeO.bind ?_ (fun _ => ?_))
      | exact ih0 _ _ _ _
      | exact ih1 _ _ _ _
      | exact ih2 _ _ _
      | exact ih3 _ _ _ _
      | exact awardingbodylaw27_sane.mono _
      | exact awardingbodymark_Dice_Monitor.mono _ _ _
      | exact monitor_Run.mono _ _ _ _ _ _
      | exact LeO.none _
      | refine LeO.ite ?_ ?_
      | refine LeO.bind ?_ (fun _ => ?_)
theorem awardingbodylaw27_MonitorBetter.mono : ∀ a0 a1 a2 k, LeO (awardingbodylaw27_MonitorBetter.f k a0 a1 a2) (awardingbodylaw27_MonitorBetter.f (k + 1) a0 a1 a2) := by
  intro a0 a1 a2 k
  obtain ⟨ih0, ih1, ih2, ih3⟩ := awardingbodylaw27_MonitorBetter.mono_l k
  unfold awardingbodylaw27_MonitorBetter.f
  repeat' first
      | (with_reducible exact ih0 _ _ _ _)
      | (with_reducible exact ih1 _ _ _ _)
      | (with_reducible exact ih2 _ _ _)
      | (with_reducible exact ih3 _ _ _ _)
      | (with_reducible exact awardingbodylaw27_sane.mono _)
      | (with_reducible exact awardingbodymark_Dice_Monitor.mono _ _ _)
      | (with_reducible exact monitor_Run.mono _ _ _ _ _ _)
      | (with_reducible exact LeO.refl _)
      | (with_reducible exact LeO.none _)
      | (with_reducible refine LeO.ite ?_ ?_)
      | (with_reducible refine LeO.bind ?_ (fun _ => ?_))
      | exact ih0 _ _ _ _
      | exact ih1 _ _ _ _
      | exact ih2 _ _ _
      | exact ih3 _ _ _ _
      | exact awardingbodylaw27_sane.mono _
      | exact awardingbodymark_Dice_Monitor.mono _ _ _
      | exact monitor_Run.mono _ _ _ _ _ _
      | exact LeO.none _
      | refine LeO.ite ?_ ?_
      | refine LeO.bind ?_ (fun _ => ?_)
set_option maxHeartbeats 8000000 in
set_option maxRecDepth 100000 in
theorem awardingbodylaw27_MonitorBetter.calls (k : Nat) (A0 : Option Addr) (c0 : Nat) (l0 : List Int) (A1 : Option Addr) (c1 : Nat) (l1 : List Bool) (a2 : Int) (r : Bool) (w : World) (hr0 : Kd.C (Kd.int .i64) w A0 l0.length l0) (hc0 : l0.length ≤ c0) (hr1 : Kd.C Kd.bool w A1 l1.length l1) (hc1 : l1.length ≤ c1) (h : awardingbodylaw27_MonitorBetter.f k l0 l1 a2 = some r) :
    Calls Try.prog 4 #[.slice A0 l0.length c0, .slice A1 l1.length c1, .int .u8 a2] w fun e w' => e = .returned (.bool r) ∧ Below w.heap.size w w' := by
 have hu24 := Try.underlying24
 have HR0 := Aside0.mk hr0
 have HC0 := Aside0.mk hc0
 clear hr0 hc0
 have HR1 := Aside0.mk hr1
 have HC1 := Aside0.mk hc1
 clear hr1 hc1
 have HB := Aside0.mk (Below.refl w.heap.size w)
 have H : ((awardingbodymark_Light.f l0).bind fun t292 => (if t292 = true then (if (l1.length : Int) > 60 then (awardingbodylaw27_MonitorBetter.j0 k l0 l1 a2 true) else (awardingbodylaw27_MonitorBetter.j0 k l0 l1 a2 ((l1.length : Int) == 0))) else (awardingbodylaw27_MonitorBetter.j0 k l0 l1 a2 true))) = some r := h
 clear h
 have HC4 := Aside0.mk H
 clear H
 go_enter Try.func4, Try.ntmps4
 go_upto_region 1 with (fail)
 go_cut [29] (fun v29 wc => ∃ (kq : Nat) (x29_3 : Bool), v29 = .bool x29_3 ∧ Aside0 (awardingbodylaw27_MonitorBetter.j0 kq l0 l1 a2 x29_3 = some r) ∧ Aside0 (kq ≤ k) ∧ Aside0 (Below w.heap.size w wc))
 case first =>
  have H := HC4.out
  clear HC4
  replace H := Option.bind_eq_some_iff.mp H
  obtain ⟨t292, A50, H⟩ := H
  replace H : (if t292 = true then (if (l1.length : Int) > 60 then (awardingbodylaw27_MonitorBetter.j0 k l0 l1 a2 true) else (awardingbodylaw27_MonitorBetter.j0 k l0 l1 a2 ((l1.length : Int) == 0))) else (awardingbodylaw27_MonitorBetter.j0 k l0 l1 a2 true)) = some r := H
  have A5 := Aside0.mk A50
  clear A50
  by_cases c6 : t292 = true
  ·subst c6
   have H1 : (if (l1.length : Int) > 60 then (awardingbodylaw27_MonitorBetter.j0 k l0 l1 a2 true) else (awardingbodylaw27_MonitorBetter.j0 k l0 l1 a2 ((l1.length : Int) == 0))) = some r := by rw [if_pos rfl] at H; exact H
   clear H
   have H := H1
   clear H1
   by_cases c7 : (l1.length : Int) > 60
   ·rw [if_pos c7] at H
    have c7b0 : decide (60 < (l1.length : Int)) = true := decide_eq_true c7
    have c7b1 : decide (60 < l1.length) = true := decide_eq_true (by omega)
    clear c7
    (first | rw [c7b0] | (simp only [i64_w, i32_w]; rw [c7b0]) | skip)
    have H' := Aside0.mk H
    clear H
    go_wp2_with (first | ((with_reducible refine gate_callee (f := 8) rfl ?_); refine goesL_ (some 18) rfl rfl Try.func8 (by kernel_rfl) rfl #[.slice A0 l0.length c0] rfl (by (try simp only [List.map_toArray, List.map_cons, List.map_nil]); first | done | rfl | (simp only [List.length_drop, List.length_take]; rfl)) ?_; (with_reducible refine (awardingbodymark_Light.calls _ _ l0 true _ ?side1 ?side2 A5.out).mono ?_); (case side1 => repeat (first | exact (Kd.C_below HR0.out HB.out) | (with_reducible refine Kd.C_alloc ?_ _) | (with_reducible refine Kd.C_drewN ?_ _) | (with_reducible refine Kd.C_drew ?_))); (case side2 => exact HC0.out); rintro e w' ⟨rfl, ⟨nd, rfl⟩⟩; refine ⟨_, rfl, ?_⟩))
    go_meet
    case rel => exact ⟨_, (true), (by first | rfl | (simp; done) | (simp [*]; done)), H', ⟨by first | omega | exact Nat.le_refl _⟩, ⟨by repeat (first | (with_reducible first | exact HB.out | apply below_alloc | apply pw_below_drewN | apply below_drew1) | exact HB.out)⟩⟩
   ·rw [if_neg c7] at H
    have c7b0 : decide (60 < (l1.length : Int)) = false := decide_eq_false c7
    have c7b1 : decide (60 < l1.length) = false := decide_eq_false (by omega)
    clear c7
    (first | rw [c7b0] | (simp only [i64_w, i32_w]; rw [c7b0]) | skip)
    have H' := Aside0.mk H
    clear H
    go_wp2_with (first | ((with_reducible refine gate_callee (f := 8) rfl ?_); refine goesL_ (some 18) rfl rfl Try.func8 (by kernel_rfl) rfl #[.slice A0 l0.length c0] rfl (by (try simp only [List.map_toArray, List.map_cons, List.map_nil]); first | done | rfl | (simp only [List.length_drop, List.length_take]; rfl)) ?_; (with_reducible refine (awardingbodymark_Light.calls _ _ l0 true _ ?side1 ?side2 A5.out).mono ?_); (case side1 => repeat (first | exact (Kd.C_below HR0.out HB.out) | (with_reducible refine Kd.C_alloc ?_ _) | (with_reducible refine Kd.C_drewN ?_ _) | (with_reducible refine Kd.C_drew ?_))); (case side2 => exact HC0.out); rintro e w' ⟨rfl, ⟨nd, rfl⟩⟩; refine ⟨_, rfl, ?_⟩))
    go_meet
    case rel => exact ⟨_, (((l1.length : Int) == 0)), (by first | rfl | (simp; done) | (simp [*]; done)), H', ⟨by first | omega | exact Nat.le_refl _⟩, ⟨by repeat (first | (with_reducible first | exact HB.out | apply below_alloc | apply pw_below_drewN | apply below_drew1) | exact HB.out)⟩⟩
  ·replace c6 := Bool.eq_false_iff.mpr c6
   subst c6
   have H1 : (awardingbodylaw27_MonitorBetter.j0 k l0 l1 a2 true) = some r := by rw [if_neg (show ¬ (false = true) by decide)] at H; exact H
   clear H
   have H := H1
   clear H1
   have H' := Aside0.mk H
   clear H
   go_wp2_with (first | ((with_reducible refine gate_callee (f := 8) rfl ?_); refine goesL_ (some 18) rfl rfl Try.func8 (by kernel_rfl) rfl #[.slice A0 l0.length c0] rfl (by (try simp only [List.map_toArray, List.map_cons, List.map_nil]); first | done | rfl | (simp only [List.length_drop, List.length_take]; rfl)) ?_; (with_reducible refine (awardingbodymark_Light.calls _ _ l0 false _ ?side1 ?side2 A5.out).mono ?_); (case side1 => repeat (first | exact (Kd.C_below HR0.out HB.out) | (with_reducible refine Kd.C_alloc ?_ _) | (with_reducible refine Kd.C_drewN ?_ _) | (with_reducible refine Kd.C_drew ?_))); (case side2 => exact HC0.out); rintro e w' ⟨rfl, ⟨nd, rfl⟩⟩; refine ⟨_, rfl, ?_⟩))
   go_meet
   case rel => exact ⟨_, (true), (by first | rfl | (simp; done) | (simp [*]; done)), H', ⟨by first | omega | exact Nat.le_refl _⟩, ⟨by repeat (first | (with_reducible first | exact HB.out | apply below_alloc | apply pw_below_drewN | apply below_drew1) | exact HB.out)⟩⟩
 case rest =>
  clear HC4
  try clear c1
  try clear p2
  try clear c4
  try clear c6
  try clear c7
  try clear c7b0
  try clear c7b1
  obtain ⟨kq, x29_3, rfl, HA, HJ3, HB⟩ := hcut
  cases kq with
  | zero => exact absurd HA.out (by simp [awardingbodylaw27_MonitorBetter.j0])
  | succ kj3 =>
   have H := HA.out
   clear HA
   simp only [awardingbodylaw27_MonitorBetter.j0] at H
   by_cases c8 : x29_3 = true
   ·subst c8
    have H1 : ((awardingbodylaw27_sane.f kj3).bind fun t293 => (some t293)) = some r := by rw [if_pos rfl] at H; exact H
    clear H
    have H := H1
    clear H1
    replace H := Option.bind_eq_some_iff.mp H
    obtain ⟨t293, A90, H⟩ := H
    replace H : (some t293) = some r := H
    have A9 := Aside0.mk A90
    clear A90
    obtain rfl := Option.some.inj H
    go_wp2_with (first | ((with_reducible refine gate_callee (f := 9) rfl ?_); refine goesL_ (some 30) rfl rfl Try.func9 (by kernel_rfl) rfl #[] rfl (by (try simp only [List.map_toArray, List.map_cons, List.map_nil]); first | done | rfl | (simp only [List.length_drop, List.length_take]; rfl)) ?_; (with_reducible refine (awardingbodylaw27_sane.calls kj3  t293 _ A9.out).mono ?_); rintro e w10 ⟨rfl, hb⟩; refine ⟨_, rfl, ?_⟩; have n0_ := Aside0.mk (below_step (by repeat (first | (with_reducible first | exact HB.out | apply below_alloc | apply pw_below_drewN | apply below_drew1) | exact HB.out)) hb); clear HB; have HB := n0_; clear n0_; (try clear hb); (try clear hb2); (try clear hk); (try clear hi)))
    go_ret
    exact ⟨by first | rfl | (simp [errW_none, errW_some] <;> rfl) | (simp [*, errW_none, errW_some] <;> rfl), by repeat (first | (with_reducible first | exact HB.out | apply below_alloc | apply pw_below_drewN | apply below_drew1) | exact HB.out)⟩
   ·replace c8 := Bool.eq_false_iff.mpr c8
    subst c8
    have H1 : ((awardingbodymark_Roll.f l0).bind fun bt294 => ((awardingbodymark_Dice_Monitor.f kj3 bt294.1 bt294.2).bind fun bt297 => (if ([] : List Bool).length + l1.length < 140737488355328 then ((some (([] : List Bool) ++ l1 : List Bool)).bind fun y303 => (if (l1.length : Int) = 0 then (none) else (if 0 ≤ (Int.tmod (wrap64 (a2)) (l1.length : Int)) then (if (Int.tmod (wrap64 (a2)) (l1.length : Int)) < (y303.length : Int) then ((monitor_Run.f kj3 bt297.1 bt297.2.1 bt297.2.2.1 bt297.2.2.2.1 l1).bind fun bt307 => ((monitor_Run.f kj3 bt297.1 bt297.2.1 bt297.2.2.1 bt297.2.2.2.1 (y303.set ((Int.tmod (wrap64 (a2)) (l1.length : Int)) : Int).toNat true)).bind fun bt310 => (if bt307.2.2 = 0 then (if bt310.2.2 = 0 then (if bt307.1 = (-1) then (if bt310.1 = (-1) then (awardingbodylaw27_MonitorBetter.j1 kj3 l1 bt307.1 bt307.2.1 false) else (awardingbodylaw27_MonitorBetter.j1 kj3 l1 bt307.1 bt307.2.1 true)) else (if bt310.1 = (-1) then (awardingbodylaw27_MonitorBetter.j1 kj3 l1 bt307.1 bt307.2.1 false) else (awardingbodylaw27_MonitorBetter.j1 kj3 l1 bt307.1 bt307.2.1 (decide (bt310.1 < bt307.1))))) else (awardingbodylaw27_MonitorBetter.j1 kj3 l1 bt307.1 bt307.2.1 true)) else (awardingbodylaw27_MonitorBetter.j1 kj3 l1 bt307.1 bt307.2.1 true)))) else (none)) else (none)))) else (none)))) = some r := by rw [if_neg (show ¬ (false = true) by decide)] at H; exact H
    clear H
    have H := H1
    clear H1
    replace H := Option.bind_eq_some_iff.mp H
    obtain ⟨⟨t294, t295⟩, A110, H⟩ := H
    replace H : ((awardingbodymark_Dice_Monitor.f kj3 t294 t295).bind fun bt297 => (if ([] : List Bool).length + l1.length < 140737488355328 then ((some (([] : List Bool) ++ l1 : List Bool)).bind fun y303 => (if (l1.length : Int) = 0 then (none) else (if 0 ≤ (Int.tmod (wrap64 (a2)) (l1.length : Int)) then (if (Int.tmod (wrap64 (a2)) (l1.length : Int)) < (y303.length : Int) then ((monitor_Run.f kj3 bt297.1 bt297.2.1 bt297.2.2.1 bt297.2.2.2.1 l1).bind fun bt307 => ((monitor_Run.f kj3 bt297.1 bt297.2.1 bt297.2.2.1 bt297.2.2.2.1 (y303.set ((Int.tmod (wrap64 (a2)) (l1.length : Int)) : Int).toNat true)).bind fun bt310 => (if bt307.2.2 = 0 then (if bt310.2.2 = 0 then (if bt307.1 = (-1) then (if bt310.1 = (-1) then (awardingbodylaw27_MonitorBetter.j1 kj3 l1 bt307.1 bt307.2.1 false) else (awardingbodylaw27_MonitorBetter.j1 kj3 l1 bt307.1 bt307.2.1 true)) else (if bt310.1 = (-1) then (awardingbodylaw27_MonitorBetter.j1 kj3 l1 bt307.1 bt307.2.1 false) else (awardingbodylaw27_MonitorBetter.j1 kj3 l1 bt307.1 bt307.2.1 (decide (bt310.1 < bt307.1))))) else (awardingbodylaw27_MonitorBetter.j1 kj3 l1 bt307.1 bt307.2.1 true)) else (awardingbodylaw27_MonitorBetter.j1 kj3 l1 bt307.1 bt307.2.1 true)))) else (none)) else (none)))) else (none))) = some r := H
    have A11 := Aside0.mk A110
    clear A110
    replace H := Option.bind_eq_some_iff.mp H
    obtain ⟨⟨t297, t298, t299, t300, t301⟩, A120, H⟩ := H
    replace H : (if ([] : List Bool).length + l1.length < 140737488355328 then ((some (([] : List Bool) ++ l1 : List Bool)).bind fun y303 => (if (l1.length : Int) = 0 then (none) else (if 0 ≤ (Int.tmod (wrap64 (a2)) (l1.length : Int)) then (if (Int.tmod (wrap64 (a2)) (l1.length : Int)) < (y303.length : Int) then ((monitor_Run.f kj3 t297 t298 t299 t300 l1).bind fun bt307 => ((monitor_Run.f kj3 t297 t298 t299 t300 (y303.set ((Int.tmod (wrap64 (a2)) (l1.length : Int)) : Int).toNat true)).bind fun bt310 => (if bt307.2.2 = 0 then (if bt310.2.2 = 0 then (if bt307.1 = (-1) then (if bt310.1 = (-1) then (awardingbodylaw27_MonitorBetter.j1 kj3 l1 bt307.1 bt307.2.1 false) else (awardingbodylaw27_MonitorBetter.j1 kj3 l1 bt307.1 bt307.2.1 true)) else (if bt310.1 = (-1) then (awardingbodylaw27_MonitorBetter.j1 kj3 l1 bt307.1 bt307.2.1 false) else (awardingbodylaw27_MonitorBetter.j1 kj3 l1 bt307.1 bt307.2.1 (decide (bt310.1 < bt307.1))))) else (awardingbodylaw27_MonitorBetter.j1 kj3 l1 bt307.1 bt307.2.1 true)) else (awardingbodylaw27_MonitorBetter.j1 kj3 l1 bt307.1 bt307.2.1 true)))) else (none)) else (none)))) else (none)) = some r := H
    have A12 := Aside0.mk A120
    clear A120
    by_cases c13 : ([] : List Bool).length + l1.length < 140737488355328
    ·rw [if_pos c13] at H
     have LMc13 := Aside0.mk c13
     clear c13
     obtain ⟨y303, hy303⟩ : ∃ y_ : List Bool, y_ = (([] : List Bool) ++ l1) := ⟨_, rfl⟩
     replace H : (if (l1.length : Int) = 0 then (none) else (if 0 ≤ (Int.tmod (wrap64 (a2)) (l1.length : Int)) then (if (Int.tmod (wrap64 (a2)) (l1.length : Int)) < (y303.length : Int) then ((monitor_Run.f kj3 t297 t298 t299 t300 l1).bind fun bt307 => ((monitor_Run.f kj3 t297 t298 t299 t300 (y303.set ((Int.tmod (wrap64 (a2)) (l1.length : Int)) : Int).toNat true)).bind fun bt310 => (if bt307.2.2 = 0 then (if bt310.2.2 = 0 then (if bt307.1 = (-1) then (if bt310.1 = (-1) then (awardingbodylaw27_MonitorBetter.j1 kj3 l1 bt307.1 bt307.2.1 false) else (awardingbodylaw27_MonitorBetter.j1 kj3 l1 bt307.1 bt307.2.1 true)) else (if bt310.1 = (-1) then (awardingbodylaw27_MonitorBetter.j1 kj3 l1 bt307.1 bt307.2.1 false) else (awardingbodylaw27_MonitorBetter.j1 kj3 l1 bt307.1 bt307.2.1 (decide (bt310.1 < bt307.1))))) else (awardingbodylaw27_MonitorBetter.j1 kj3 l1 bt307.1 bt307.2.1 true)) else (awardingbodylaw27_MonitorBetter.j1 kj3 l1 bt307.1 bt307.2.1 true)))) else (none)) else (none))) = some r := by first | (rw [hy303]; with_reducible exact H) | (have H2_ := (Option.bind_some _ _).symm.trans H; rw [hy303]; with_reducible exact H2_) | (have H2_ := (Option.bind_some _ _).symm.trans H; with_reducible exact H2_) | with_reducible exact H | (rw [hy303]; exact H) | exact H
     have Ny303 := Aside0.mk hy303
     clear hy303
     by_cases c14 : (l1.length : Int) = 0
     ·rw [if_pos c14] at H
      exact absurd H (by simp)
     ·rw [if_neg c14] at H
      have c14b0 : ((l1.length : Int) == 0) = false := beq_eq_false_iff_ne.mpr c14
      have c14b1 : ((l1.length : Int) != 0) = true := bne_iff_ne.mpr c14
      have c14b2 : ¬ (l1 = []) := fun h_ => c14 (by rw [h_]; rfl)
      obtain ⟨ji15, hji15⟩ : ∃ j_ : Int, (Int.tmod (wrap64 (a2)) (l1.length : Int)) = j_ := ⟨_, rfl⟩
      replace H : (if 0 ≤ (ji15) then (if (ji15) < (y303.length : Int) then ((monitor_Run.f kj3 t297 t298 t299 t300 l1).bind fun bt307 => ((monitor_Run.f kj3 t297 t298 t299 t300 (y303.set ((ji15) : Int).toNat true)).bind fun bt310 => (if bt307.2.2 = 0 then (if bt310.2.2 = 0 then (if bt307.1 = (-1) then (if bt310.1 = (-1) then (awardingbodylaw27_MonitorBetter.j1 kj3 l1 bt307.1 bt307.2.1 false) else (awardingbodylaw27_MonitorBetter.j1 kj3 l1 bt307.1 bt307.2.1 true)) else (if bt310.1 = (-1) then (awardingbodylaw27_MonitorBetter.j1 kj3 l1 bt307.1 bt307.2.1 false) else (awardingbodylaw27_MonitorBetter.j1 kj3 l1 bt307.1 bt307.2.1 (decide (bt310.1 < bt307.1))))) else (awardingbodylaw27_MonitorBetter.j1 kj3 l1 bt307.1 bt307.2.1 true)) else (awardingbodylaw27_MonitorBetter.j1 kj3 l1 bt307.1 bt307.2.1 true)))) else (none)) else (none)) = some r := by first | (rw [hji15] at H; exact H) | (simp only [hji15] at H ⊢; exact H)
      (try rw [hji15] at A11)
      (try rw [hji15] at A12)
      by_cases c16 : 0 ≤ (ji15)
      ·rw [if_pos c16] at H
       have c16b0 : decide (0 ≤ (ji15)) = true := decide_eq_true c16
       clear c16
       by_cases c17 : (ji15) < (y303.length : Int)
       ·rw [if_pos c17] at H
        have c17b0 : decide ((ji15) < (y303.length : Int)) = true := decide_eq_true c17
        clear c17
        obtain ⟨y306, hy306⟩ : ∃ y_ : List Bool, y_ = (y303.set ((ji15) : Int).toNat true) := ⟨_, rfl⟩
        replace H : ((monitor_Run.f kj3 t297 t298 t299 t300 l1).bind fun bt307 => ((monitor_Run.f kj3 t297 t298 t299 t300 y306).bind fun bt310 => (if bt307.2.2 = 0 then (if bt310.2.2 = 0 then (if bt307.1 = (-1) then (if bt310.1 = (-1) then (awardingbodylaw27_MonitorBetter.j1 kj3 l1 bt307.1 bt307.2.1 false) else (awardingbodylaw27_MonitorBetter.j1 kj3 l1 bt307.1 bt307.2.1 true)) else (if bt310.1 = (-1) then (awardingbodylaw27_MonitorBetter.j1 kj3 l1 bt307.1 bt307.2.1 false) else (awardingbodylaw27_MonitorBetter.j1 kj3 l1 bt307.1 bt307.2.1 (decide (bt310.1 < bt307.1))))) else (awardingbodylaw27_MonitorBetter.j1 kj3 l1 bt307.1 bt307.2.1 true)) else (awardingbodylaw27_MonitorBetter.j1 kj3 l1 bt307.1 bt307.2.1 true)))) = some r := by first | (rw [hy306]; with_reducible exact H) | (have H2_ := (Option.bind_some _ _).symm.trans H; rw [hy306]; with_reducible exact H2_) | (have H2_ := (Option.bind_some _ _).symm.trans H; with_reducible exact H2_) | with_reducible exact H | (rw [hy306]; exact H) | exact H
        have Ny306 := Aside0.mk hy306
        clear hy306
        replace H := Option.bind_eq_some_iff.mp H
        obtain ⟨⟨t307, t308, t309⟩, A190, H⟩ := H
        replace H : ((monitor_Run.f kj3 t297 t298 t299 t300 y306).bind fun bt310 => (if t309 = 0 then (if bt310.2.2 = 0 then (if t307 = (-1) then (if bt310.1 = (-1) then (awardingbodylaw27_MonitorBetter.j1 kj3 l1 t307 t308 false) else (awardingbodylaw27_MonitorBetter.j1 kj3 l1 t307 t308 true)) else (if bt310.1 = (-1) then (awardingbodylaw27_MonitorBetter.j1 kj3 l1 t307 t308 false) else (awardingbodylaw27_MonitorBetter.j1 kj3 l1 t307 t308 (decide (bt310.1 < t307))))) else (awardingbodylaw27_MonitorBetter.j1 kj3 l1 t307 t308 true)) else (awardingbodylaw27_MonitorBetter.j1 kj3 l1 t307 t308 true))) = some r := H
        have A19 := Aside0.mk A190
        clear A190
        replace H := Option.bind_eq_some_iff.mp H
        obtain ⟨⟨t310, t311, t312⟩, A200, H⟩ := H
        replace H : (if t309 = 0 then (if t312 = 0 then (if t307 = (-1) then (if t310 = (-1) then (awardingbodylaw27_MonitorBetter.j1 kj3 l1 t307 t308 false) else (awardingbodylaw27_MonitorBetter.j1 kj3 l1 t307 t308 true)) else (if t310 = (-1) then (awardingbodylaw27_MonitorBetter.j1 kj3 l1 t307 t308 false) else (awardingbodylaw27_MonitorBetter.j1 kj3 l1 t307 t308 (decide (t310 < t307))))) else (awardingbodylaw27_MonitorBetter.j1 kj3 l1 t307 t308 true)) else (awardingbodylaw27_MonitorBetter.j1 kj3 l1 t307 t308 true)) = some r := H
        have A20 := Aside0.mk A200
        clear A200
        have HC21 := Aside0.mk H
        clear H
        go_upto_region 8 with (first | ((with_reducible refine gate_callee (f := 10) rfl ?_); refine goesL_ (some 32) rfl rfl Try.func10 (by kernel_rfl) rfl #[.slice A0 l0.length c0] rfl (by (try simp only [List.map_toArray, List.map_cons, List.map_nil]); first | done | rfl | (simp only [List.length_drop, List.length_take]; rfl)) ?_; (with_reducible refine (awardingbodymark_Roll.calls _ _ l0 t294 t295 w _ ?side1 ?side2 ?side3 A11.out).mono ?_); (case side1 => repeat (first | (with_reducible first | exact HB.out | apply below_alloc | apply pw_below_drewN | apply below_drew1) | exact HB.out)); (case side2 => exact HR0.out); (case side3 => exact HC0.out); rintro e w22 ⟨g296, rfl, hi, hb, hb2⟩; refine ⟨_, rfl, ?_⟩; have n0_ := Aside0.mk (hb); have n1_ := Aside0.mk (hi); clear HB; have HB := n0_; have HI296 := n1_; clear n0_ n1_; (try clear hb); (try clear hb2); (try clear hk); (try clear hi)) | ((with_reducible refine gate_callee (f := 11) rfl ?_); refine goesL_ (some 33) rfl rfl Try.func11 (by kernel_rfl) rfl #[.pointer (some ⟨g296, 0, none⟩)] rfl (by (try simp only [List.map_toArray, List.map_cons, List.map_nil]); first | done | rfl | (simp only [List.length_drop, List.length_take]; rfl)) ?_; (with_reducible refine (awardingbodymark_Dice_Monitor.calls kj3 g296 t294 t295 t297 t298 t299 t300 t301 w _ ?side1 ?side2 A12.out).mono ?_); (case side1 => repeat (first | (with_reducible first | exact HI296.out | apply IsS53.alloc | apply IsS53.drewN | apply IsS53.drew | apply IsS53.set_1) | exact HI296.out)); (case side2 => repeat (first | (with_reducible first | exact HB.out | apply below_alloc | apply pw_below_drewN | apply below_drew1 | refine below_set ?_ (IsS53.ge HI296.out)) | exact HB.out)); rintro e w23 ⟨rfl, hi, hb, hk⟩; refine ⟨_, rfl, ?_⟩; have n0_ := Aside0.mk (hb); have n1_ := Aside0.mk (hi); clear HB HI296; have HB := n0_; have HI296 := n1_; clear n0_ n1_; (try clear hb); (try clear hb2); (try clear hk); (try clear hi)) | ((with_reducible refine gate_dst (N := 7) rfl ?_); (try (refine gate_guard (by rfl) ?_; dsimp only)); refine box_event ?hg (N := 7) ?hd (cs := #[.int .i64 0, .int .i64 0, .int .i64 0, .int .i64 0]) (t := 24) ?hr ?_; (case hd => rfl); (case hg => rfl); (case hr => first | (go_simp; done) | (go_simp; rfl)); intro gb302 hg w24 hbox hb; have n0_ := Aside0.mk (IsS53.below (by repeat (first | (with_reducible first | exact HI296.out | apply IsS53.alloc | apply IsS53.drewN | apply IsS53.drew | apply IsS53.set_1) | exact HI296.out)) hb); have n1_ := Aside0.mk (below_step (by repeat (first | (with_reducible first | exact HB.out | apply below_alloc | apply pw_below_drewN | apply below_drew1 | refine below_set ?_ (IsS53.ge HI296.out)) | exact HB.out)) hb); have n2_ := Aside0.mk (hbox); have n3_ := Aside0.mk ((by rw [hg]; exact (below_size (by repeat (first | (with_reducible first | exact HB.out | apply below_alloc | apply pw_below_drewN | apply below_drew1 | refine below_set ?_ (IsS53.ge HI296.out)) | exact HB.out))) : w.heap.size ≤ gb302)); have n4_ := Aside0.mk ((by rw [hg]; exact (below_size (by repeat (first | (with_reducible first | exact HB.out | apply below_alloc | apply pw_below_drewN | apply below_drew1 | refine below_set ?_ (IsS53.ge HI296.out)) | exact HB.out))) : w.heap.size ≤ gb302)); have n5_ := Aside0.mk ((by rw [hg]; exact Nat.ne_of_lt (IsS53.lt (show IsS53 w _ g296 t294 t301 from by repeat (first | (with_reducible first | exact HI296.out | apply IsS53.alloc | apply IsS53.drewN | apply IsS53.drew | apply IsS53.set_1) | exact HI296.out))) : g296 ≠ gb302)); have n6_ := Aside0.mk ((by rw [hg]; exact Nat.ne_of_gt (IsS53.lt (show IsS53 w _ g296 t294 t301 from by repeat (first | (with_reducible first | exact HI296.out | apply IsS53.alloc | apply IsS53.drewN | apply IsS53.drew | apply IsS53.set_1) | exact HI296.out))) : gb302 ≠ g296)); clear HI296 HB; have HI296 := n0_; have HB := n1_; have BK302 := n2_; have GW302 := n3_; have GE302 := n4_; have NB296_302 := n5_; have NB302_296 := n6_; clear n0_ n1_ n2_ n3_ n4_ n5_ n6_ hb hbox hg; have hnb25 := NB302_296.out; have hnc25 := NB296_302.out; have hcz26_0 : w24.cell? ⟨gb302, 0, none⟩ = some (.int .i64 0) := (blk_cell BK302.out 0).trans rfl; have hcz26_1 : w24.cell? ⟨gb302, 1, none⟩ = some (.int .i64 0) := (blk_cell BK302.out 1).trans rfl; have hcz26_2 : w24.cell? ⟨gb302, 2, none⟩ = some (.int .i64 0) := (blk_cell BK302.out 2).trans rfl; have hcz26_3 : w24.cell? ⟨gb302, 3, none⟩ = some (.int .i64 0) := (blk_cell BK302.out 3).trans rfl; have hfz26_0 := blk_frozen BK302.out 0; have hfz26_1 := blk_frozen BK302.out 1; have hfz26_2 := blk_frozen BK302.out 2; have hfz26_3 := blk_frozen BK302.out 3) | ((with_reducible refine gate_builtin (b := .append) (xs := #[.const (.slice none 0 0), .tmp 34]) rfl ?_); (try (refine gate_guard (by rfl) ?_; dsimp only)); at_builtin; refine Kd.R_append_rows Kd.bool (w0 := w) w.heap.size rfl (.const (.slice none 0 0)) (.tmp 34) 25 4 (.bool false) 1 rfl Try.underlying25 info4 rfl (by decide) (by omega) (.slice none 0 0) ([] : List Bool) l1 _ _ _ (fun _ => True) (fun _ => False) rfl rfl ?aO ?aR (fun _ _ h => h) (fun _ h => h.elim) ?aF ?aB ?aS ?aL ?_; (case aR => exact Kd.C_below HR1.out (by repeat (first | (with_reducible first | exact HB.out | apply below_alloc | apply pw_below_drewN | apply below_drew1 | refine below_set ?_ (IsS53.ge HI296.out) | refine below_set ?_ GE302.out) | exact HB.out))); (case aB => exact (by repeat (first | (with_reducible first | exact HB.out | apply below_alloc | apply pw_below_drewN | apply below_drew1 | refine below_set ?_ (IsS53.ge HI296.out) | refine below_set ?_ GE302.out) | exact HB.out))); (case aF => exact (fun _ _ => trivial)); (case aO => exact ((Kd.R_nil _ _ _ _ (fun _ => True)))); (case aS => exact (below_size (by repeat (first | (with_reducible first | exact HB.out | apply below_alloc | apply pw_below_drewN | apply below_drew1 | refine below_set ?_ (IsS53.ge HI296.out) | refine below_set ?_ GE302.out) | exact HB.out)))); (case aL => have := LMc13.out; omega); intro v304 w27 ho hb hg hat; rw [← Ny303.out] at ho; have n0_ := Aside0.mk (IsS53.grown (show IsS53 w _ g296 t294 t301 from by repeat (first | (with_reducible first | exact HI296.out | apply IsS53.alloc | apply IsS53.drewN | apply IsS53.drew | apply IsS53.set_1 | refine IsS53.far ?_ NB296_302.out _) | exact HI296.out)) hg (by simp [Value.ownBlock])); have n1_ := Aside0.mk (blk_grown (g := gb302) (o := .cells #[.int .i64 t297, .int .i64 t298, .int .i64 t299, .int .i64 t300] 24 (0, 0)) (by (with_reducible repeat (first | refine blk_drewN ?_ _ | refine blk_drew ?_ | refine blk_alloc ?_ _)); refine blk_put (cs := #[.int .i64 t297, .int .i64 t298, .int .i64 t299, .int .i64 0]) ?_ 3 _ rfl; (with_reducible repeat (first | refine blk_drewN ?_ _ | refine blk_drew ?_ | refine blk_alloc ?_ _)); refine blk_put (cs := #[.int .i64 t297, .int .i64 t298, .int .i64 0, .int .i64 0]) ?_ 2 _ rfl; (with_reducible repeat (first | refine blk_drewN ?_ _ | refine blk_drew ?_ | refine blk_alloc ?_ _)); refine blk_put (cs := #[.int .i64 t297, .int .i64 0, .int .i64 0, .int .i64 0]) ?_ 1 _ rfl; (with_reducible repeat (first | refine blk_drewN ?_ _ | refine blk_drew ?_ | refine blk_alloc ?_ _)); refine blk_put (cs := #[.int .i64 0, .int .i64 0, .int .i64 0, .int .i64 0]) ?_ 0 _ rfl; (with_reducible repeat (first | refine blk_drewN ?_ _ | refine blk_drew ?_ | refine blk_alloc ?_ _)); exact BK302.out) hg (by simp [Value.ownBlock])); have n2_ := Aside0.mk (hb); have n3_ := Aside0.mk (ho); clear HI296 BK302 HB; have HI296 := n0_; have BK302 := n1_; have HB := n2_; have HO305 := n3_; clear n0_ n1_ n2_ n3_ ho hb hg hat; have p18 : 0 ≤ ((ji15) : Int) := of_decide_eq_true (by first | (with_reducible assumption) | assumption); have q18 : ((ji15) : Int) < ((y303.length : Int) : Int) := of_decide_eq_true (by first | (with_reducible assumption) | assumption); obtain ⟨go18, co18, eo18, gb18, gl18, cl18, HG18⟩ := Kd.R_form HO305.out (by omega); (first | cases eo18 | (injection eo18 with ea_ en_ ec_; (first | subst ea_ | (injection ea_ with ea_; subst ea_)); subst ec_; clear en_)); have GB18 := Aside0.mk gb18; have GG18 := Aside0.mk HG18; clear gb18 gl18 HG18; obtain ⟨hx18_0, hf18_0⟩ := Kd.R_celln false HO305.out ((ji15) : Int) p18 q18; replace p18 := eq_true p18; replace q18 := eq_true q18; obtain ⟨hy28_, hz28_⟩ := Kd.R_celln false HO305.out ((ji15) : Int) (of_decide_eq_true (by first | (with_reducible assumption) | assumption)) (of_decide_eq_true (by first | (with_reducible assumption) | assumption)); have HP28 := Kd.R_putg HO305.out ((ji15) : Int) true) | ((with_reducible refine gate_store (t := 4) (p := 42) rfl ?_); refine store_event (t := 4) (p := 42) (v := ?vo_w29) (w1 := (w27.setCell ⟨go18, ((ji15) : Int).toNat, none⟩ (.bool true))) ?hg ?ho ?hn ?hr ?_; (case ho => rfl); (case hg => rfl); (case hn => rfl); (case hr => first | (go_simp; done) | (go_simp; rfl)); intro w29 hw; have hg : w27.grownBy w29 (some go18) := (by rw [hw]; exact HP28.2); have hp_ : Kd.R Kd.bool 4 w29 w.heap.size (fun _ => True) (.slice (some ⟨go18, 0, none⟩) y303.length co18) y306 := (by rw [hw, Ny306.out]; exact HP28.1); clear HP28; have n0_ := Aside0.mk (IsS53.grown (by repeat (first | (with_reducible first | exact HI296.out | apply IsS53.alloc | apply IsS53.drewN | apply IsS53.drew | apply IsS53.set_1 | refine IsS53.far ?_ NB296_302.out _) | exact HI296.out)) hg (IsS53.own_ne HI296.out HO305.out (by decide))); have n1_ := Aside0.mk (blk_grown (g := gb302) (o := .cells #[.int .i64 t297, .int .i64 t298, .int .i64 t299, .int .i64 t300] 24 (0, 0)) (by (with_reducible repeat (first | refine blk_drewN ?_ _ | refine blk_drew ?_ | refine blk_alloc ?_ _)); exact BK302.out) hg (Kd.R_ne HO305.out BK302.out (by decide))); have n2_ := Aside0.mk (hp_); have n3_ := Aside0.mk ((by rw [hw]; exact below_set (HB.out) GB18.out : Below w.heap.size w w29)); clear HI296 BK302 HO305 HB; have HI296 := n0_; have BK302 := n1_; have HO305 := n2_; have HB := n3_; clear n0_ n1_ n2_ n3_ hg hw hp_; have hcz30_0 : w29.cell? ⟨gb302, 0, none⟩ = some (.int .i64 t297) := (blk_cell BK302.out 0).trans rfl; have hcz30_1 : w29.cell? ⟨gb302, 1, none⟩ = some (.int .i64 t298) := (blk_cell BK302.out 1).trans rfl; have hcz30_2 : w29.cell? ⟨gb302, 2, none⟩ = some (.int .i64 t299) := (blk_cell BK302.out 2).trans rfl; have hcz30_3 : w29.cell? ⟨gb302, 3, none⟩ = some (.int .i64 t300) := (blk_cell BK302.out 3).trans rfl; have hfz30_0 := blk_frozen BK302.out 0; have hfz30_1 := blk_frozen BK302.out 1; have hfz30_2 := blk_frozen BK302.out 2; have hfz30_3 := blk_frozen BK302.out 3) | ((with_reducible refine gate_callee (f := 20) rfl ?_); refine goesL_ (some 46) rfl rfl Try.func20 (by kernel_rfl) rfl #[.agg #[.int .i64 t297, .int .i64 t298, .int .i64 t299, .int .i64 t300], .slice A1 l1.length c1] rfl (by (try simp only [List.map_toArray, List.map_cons, List.map_nil]); first | done | rfl | (simp only [List.length_drop, List.length_take]; rfl)) ?_; (with_reducible refine (monitor_Run.calls kj3 t297 t298 t299 t300 _ _ l1 t307 t308 t309 _ ?side1 ?side2 A19.out).mono ?_); (case side1 => repeat (first | exact (Kd.C_below HR1.out HB.out) | (with_reducible refine Kd.C_alloc ?_ _) | (with_reducible refine Kd.C_drewN ?_ _) | (with_reducible refine Kd.C_drew ?_))); (case side2 => exact HC1.out); rintro e w31 ⟨rfl, hb⟩; refine ⟨_, rfl, ?_⟩; have n0_ := Aside0.mk (Kd.R_below (by (with_reducible repeat (first | apply Kd.R_alloc | apply Kd.R_drewN | apply Kd.R_drew)); exact HO305.out) hb); have n1_ := Aside0.mk (IsS53.below (by repeat (first | (with_reducible first | exact HI296.out | apply IsS53.alloc | apply IsS53.drewN | apply IsS53.drew | apply IsS53.set_1 | refine IsS53.far ?_ NB296_302.out _) | exact HI296.out)) hb); have n2_ := Aside0.mk (blk_below (g := gb302) (o := .cells #[.int .i64 t297, .int .i64 t298, .int .i64 t299, .int .i64 t300] 24 (0, 0)) (by (with_reducible repeat (first | refine blk_drewN ?_ _ | refine blk_drew ?_ | refine blk_alloc ?_ _)); exact BK302.out) hb); have n3_ := Aside0.mk (below_step (by repeat (first | (with_reducible first | exact HB.out | apply below_alloc | apply pw_below_drewN | apply below_drew1 | refine below_set ?_ (IsS53.ge HI296.out) | refine below_set ?_ GE302.out) | exact HB.out)) hb); clear HO305 HI296 BK302 HB; have HO305 := n0_; have HI296 := n1_; have BK302 := n2_; have HB := n3_; clear n0_ n1_ n2_ n3_; (try clear hb); (try clear hb2); (try clear hk); (try clear hi); have hcz32_0 : w31.cell? ⟨gb302, 0, none⟩ = some (.int .i64 t297) := (blk_cell BK302.out 0).trans rfl; have hcz32_1 : w31.cell? ⟨gb302, 1, none⟩ = some (.int .i64 t298) := (blk_cell BK302.out 1).trans rfl; have hcz32_2 : w31.cell? ⟨gb302, 2, none⟩ = some (.int .i64 t299) := (blk_cell BK302.out 2).trans rfl; have hcz32_3 : w31.cell? ⟨gb302, 3, none⟩ = some (.int .i64 t300) := (blk_cell BK302.out 3).trans rfl; have hfz32_0 := blk_frozen BK302.out 0; have hfz32_1 := blk_frozen BK302.out 1; have hfz32_2 := blk_frozen BK302.out 2; have hfz32_3 := blk_frozen BK302.out 3) | ((with_reducible refine gate_callee (f := 20) rfl ?_); refine goesL_ (some 53) rfl rfl Try.func20 (by kernel_rfl) rfl #[.agg #[.int .i64 t297, .int .i64 t298, .int .i64 t299, .int .i64 t300], .slice (some ⟨go18, 0, none⟩) y306.length co18] rfl (by (try simp only [List.map_toArray, List.map_cons, List.map_nil]); first | done | (rw [show y306.length = y303.length from (Kd.R_reads' HO305.out).1.symm] <;> rfl) | rfl | (simp only [List.length_drop, List.length_take]; rfl)) ?_; (with_reducible refine (monitor_Run.calls kj3 t297 t298 t299 t300 _ _ y306 t310 t311 t312 _ ?side1 ?side2 A20.out).mono ?_); (case side1 => repeat (first | exact (Kd.R_reads' HO305.out).2.2 | (with_reducible refine Kd.C_alloc ?_ _) | (with_reducible refine Kd.C_drewN ?_ _) | (with_reducible refine Kd.C_drew ?_))); (case side2 => rw [show y306.length = y303.length from (Kd.R_reads' HO305.out).1.symm]; exact (Kd.R_reads' HO305.out).2.1); rintro e w33 ⟨rfl, hb⟩; refine ⟨_, rfl, ?_⟩; have n0_ := Aside0.mk (Kd.R_below (by (with_reducible repeat (first | apply Kd.R_alloc | apply Kd.R_drewN | apply Kd.R_drew)); exact HO305.out) hb); have n1_ := Aside0.mk (IsS53.below (by repeat (first | (with_reducible first | exact HI296.out | apply IsS53.alloc | apply IsS53.drewN | apply IsS53.drew | apply IsS53.set_1 | refine IsS53.far ?_ NB296_302.out _) | exact HI296.out)) hb); have n2_ := Aside0.mk (blk_below (g := gb302) (o := .cells #[.int .i64 t297, .int .i64 t298, .int .i64 t299, .int .i64 t300] 24 (0, 0)) (by (with_reducible repeat (first | refine blk_drewN ?_ _ | refine blk_drew ?_ | refine blk_alloc ?_ _)); exact BK302.out) hb); have n3_ := Aside0.mk (below_step (by repeat (first | (with_reducible first | exact HB.out | apply below_alloc | apply pw_below_drewN | apply below_drew1 | refine below_set ?_ (IsS53.ge HI296.out) | refine below_set ?_ GE302.out) | exact HB.out)) hb); clear HO305 HI296 BK302 HB; have HO305 := n0_; have HI296 := n1_; have BK302 := n2_; have HB := n3_; clear n0_ n1_ n2_ n3_; (try clear hb); (try clear hb2); (try clear hk); (try clear hi)))
        (try simp only [Act.put, List.setIfInBounds_toArray, List.set_cons_zero, List.set_cons_succ])
        go_cut [83] (fun v83 wc => ∃ (kq : Nat) (x83_20 : Bool), v83 = .bool x83_20 ∧ Aside0 (awardingbodylaw27_MonitorBetter.j1 kq l1 t307 t308 x83_20 = some r) ∧ Aside0 (kq ≤ kj3) ∧ Aside0 (wc.heap[gb302]? = some (.cells #[.int .i64 t297, .int .i64 t298, .int .i64 t299, .int .i64 t300] 24 (0, 0))) ∧ Aside0 (Below w.heap.size w wc))
        case first =>
         have H := HC21.out
         clear HC21
         by_cases c34 : t309 = 0
         ·rw [if_pos c34] at H
          have c34b0 : (t309 == 0) = true := beq_iff_eq.mpr c34
          have c34b1 : (t309 != 0) = false := bne_eq_false_iff_eq.mpr c34
          clear c34
          (first | rw [c34b0] | (simp only [i64_w, i32_w]; rw [c34b0]) | skip)
          by_cases c35 : t312 = 0
          ·rw [if_pos c35] at H
           have c35b0 : (t312 == 0) = true := beq_iff_eq.mpr c35
           have c35b1 : (t312 != 0) = false := bne_eq_false_iff_eq.mpr c35
           clear c35
           by_cases c36 : t307 = (-1)
           ·rw [if_pos c36] at H
            have c36b0 : (t307 == (-1)) = true := beq_iff_eq.mpr c36
            have c36b1 : (t307 != (-1)) = false := bne_eq_false_iff_eq.mpr c36
            clear c36
            by_cases c37 : t310 = (-1)
            ·rw [if_pos c37] at H
             have c37b0 : (t310 == (-1)) = true := beq_iff_eq.mpr c37
             have c37b1 : (t310 != (-1)) = false := bne_eq_false_iff_eq.mpr c37
             clear c37
             have H' := Aside0.mk H
             clear H
             go_wp2
             go_meet
             case rel => exact ⟨_, (false), (by first | rfl | (simp; done) | (simp [*]; done)), H', ⟨by have := HJ3.out; first | omega | exact Nat.le_refl _⟩, ⟨by (with_reducible repeat (first | refine blk_drewN ?_ _ | refine blk_drew ?_ | refine blk_alloc ?_ _)); exact BK302.out⟩, ⟨by repeat (first | (with_reducible first | exact HB.out | apply below_alloc | apply pw_below_drewN | apply below_drew1 | refine below_set ?_ (IsS53.ge HI296.out) | refine below_set ?_ GE302.out) | exact HB.out)⟩⟩
            ·rw [if_neg c37] at H
             have c37b0 : (t310 == (-1)) = false := beq_eq_false_iff_ne.mpr c37
             have c37b1 : (t310 != (-1)) = true := bne_iff_ne.mpr c37
             have H' := Aside0.mk H
             clear H
             go_wp2
             go_meet
             case rel => exact ⟨_, (true), (by first | rfl | (simp; done) | (simp [*]; done)), H', ⟨by have := HJ3.out; first | omega | exact Nat.le_refl _⟩, ⟨by (with_reducible repeat (first | refine blk_drewN ?_ _ | refine blk_drew ?_ | refine blk_alloc ?_ _)); exact BK302.out⟩, ⟨by repeat (first | (with_reducible first | exact HB.out | apply below_alloc | apply pw_below_drewN | apply below_drew1 | refine below_set ?_ (IsS53.ge HI296.out) | refine below_set ?_ GE302.out) | exact HB.out)⟩⟩
           ·rw [if_neg c36] at H
            have c36b0 : (t307 == (-1)) = false := beq_eq_false_iff_ne.mpr c36
            have c36b1 : (t307 != (-1)) = true := bne_iff_ne.mpr c36
            by_cases c38 : t310 = (-1)
            ·rw [if_pos c38] at H
             have c38b0 : (t310 == (-1)) = true := beq_iff_eq.mpr c38
             have c38b1 : (t310 != (-1)) = false := bne_eq_false_iff_eq.mpr c38
             clear c38
             have H' := Aside0.mk H
             clear H
             go_wp2
             go_meet
             case rel => exact ⟨_, (false), (by first | rfl | (simp; done) | (simp [*]; done)), H', ⟨by have := HJ3.out; first | omega | exact Nat.le_refl _⟩, ⟨by (with_reducible repeat (first | refine blk_drewN ?_ _ | refine blk_drew ?_ | refine blk_alloc ?_ _)); exact BK302.out⟩, ⟨by repeat (first | (with_reducible first | exact HB.out | apply below_alloc | apply pw_below_drewN | apply below_drew1 | refine below_set ?_ (IsS53.ge HI296.out) | refine below_set ?_ GE302.out) | exact HB.out)⟩⟩
            ·rw [if_neg c38] at H
             have c38b0 : (t310 == (-1)) = false := beq_eq_false_iff_ne.mpr c38
             have c38b1 : (t310 != (-1)) = true := bne_iff_ne.mpr c38
             have H' := Aside0.mk H
             clear H
             go_wp2
             go_meet
             case rel => exact ⟨_, (decide (t310 < t307)), (by first | rfl | (simp; done) | (simp [*]; done)), H', ⟨by have := HJ3.out; first | omega | exact Nat.le_refl _⟩, ⟨by (with_reducible repeat (first | refine blk_drewN ?_ _ | refine blk_drew ?_ | refine blk_alloc ?_ _)); exact BK302.out⟩, ⟨by repeat (first | (with_reducible first | exact HB.out | apply below_alloc | apply pw_below_drewN | apply below_drew1 | refine below_set ?_ (IsS53.ge HI296.out) | refine below_set ?_ GE302.out) | exact HB.out)⟩⟩
          ·rw [if_neg c35] at H
           have c35b0 : (t312 == 0) = false := beq_eq_false_iff_ne.mpr c35
           have c35b1 : (t312 != 0) = true := bne_iff_ne.mpr c35
           have H' := Aside0.mk H
           clear H
           go_wp2
           go_meet
           case rel => exact ⟨_, (true), (by first | rfl | (simp; done) | (simp [*]; done)), H', ⟨by have := HJ3.out; first | omega | exact Nat.le_refl _⟩, ⟨by (with_reducible repeat (first | refine blk_drewN ?_ _ | refine blk_drew ?_ | refine blk_alloc ?_ _)); exact BK302.out⟩, ⟨by repeat (first | (with_reducible first | exact HB.out | apply below_alloc | apply pw_below_drewN | apply below_drew1 | refine below_set ?_ (IsS53.ge HI296.out) | refine below_set ?_ GE302.out) | exact HB.out)⟩⟩
         ·rw [if_neg c34] at H
          have c34b0 : (t309 == 0) = false := beq_eq_false_iff_ne.mpr c34
          have c34b1 : (t309 != 0) = true := bne_iff_ne.mpr c34
          (first | rw [c34b0] | (simp only [i64_w, i32_w]; rw [c34b0]) | skip)
          have H' := Aside0.mk H
          clear H
          go_wp2
          go_meet
          case rel => exact ⟨_, (true), (by first | rfl | (simp; done) | (simp [*]; done)), H', ⟨by have := HJ3.out; first | omega | exact Nat.le_refl _⟩, ⟨by (with_reducible repeat (first | refine blk_drewN ?_ _ | refine blk_drew ?_ | refine blk_alloc ?_ _)); exact BK302.out⟩, ⟨by repeat (first | (with_reducible first | exact HB.out | apply below_alloc | apply pw_below_drewN | apply below_drew1 | refine below_set ?_ (IsS53.ge HI296.out) | refine below_set ?_ GE302.out) | exact HB.out)⟩⟩
        case rest =>
         clear HC21
         try clear c1
         try clear p1
         try clear q1
         try clear hx1
         try clear c2
         try clear p2
         try clear c3
         try clear c4
         try clear c6
         try clear p6
         try clear c7
         try clear c7b0
         try clear c7b1
         try clear c8
         try clear c9
         try clear c10
         try clear c11
         try clear c13
         try clear c14
         try clear c14b0
         try clear c14b1
         try clear c14b2
         try clear c16
         try clear c16b0
         try clear c17
         try clear c17b0
         try clear p18
         try clear q18
         try clear hx18
         try clear hf18
         try clear c20
         try clear c25
         try clear c34
         try clear c34b0
         try clear c34b1
         try clear c35
         try clear c35b0
         try clear c35b1
         try clear c36
         try clear c36b0
         try clear c36b1
         try clear c37
         try clear c37b0
         try clear c37b1
         try clear c38
         try clear c38b0
         try clear c38b1
         try clear hcz26_0
         try clear hcz26_1
         try clear hcz26_2
         try clear hcz26_3
         try clear hcz30_0
         try clear hcz30_1
         try clear hcz30_2
         try clear hcz30_3
         try clear hcz32_0
         try clear hcz32_1
         try clear hcz32_2
         try clear hcz32_3
         try clear hfz26_0
         try clear hfz26_1
         try clear hfz26_2
         try clear hfz26_3
         try clear hfz30_0
         try clear hfz30_1
         try clear hfz30_2
         try clear hfz30_3
         try clear hfz32_0
         try clear hfz32_1
         try clear hfz32_2
         try clear hfz32_3
         try clear hx18_0
         try clear p18
         try clear p2
         try clear q18
         obtain ⟨kq, x83_20, rfl, HA, HJ20, BK302, HB⟩ := hcut
         cases kq with
         | zero => exact absurd HA.out (by simp [awardingbodylaw27_MonitorBetter.j1])
         | succ kj20 =>
          have H := HA.out
          clear HA
          simp only [awardingbodylaw27_MonitorBetter.j1] at H
          by_cases c39 : x83_20 = true
          ·subst c39
           have H1 : (none) = some r := by rw [if_pos rfl] at H; exact H
           clear H
           have H := H1
           clear H1
           exact absurd H (by simp)
          ·replace c39 := Bool.eq_false_iff.mpr c39
           subst c39
           have H1 : (if t307 = (-1) then (awardingbodylaw27_MonitorBetter.j2 kj20 l1 t308 (l1.length : Int)) else (awardingbodylaw27_MonitorBetter.j2 kj20 l1 t308 t307)) = some r := by rw [if_neg (show ¬ (false = true) by decide)] at H; exact H
           clear H
           have H := H1
           clear H1
           have HC40 := Aside0.mk H
           clear H
           go_upto_if 86 with (fail)
           go_cut [15] (fun v15 wc => ∃ (kq : Nat) (x15_39 : Int), v15 = .int .i64 x15_39 ∧ Aside0 (awardingbodylaw27_MonitorBetter.j2 kq l1 t308 x15_39 = some r) ∧ Aside0 (kq ≤ kj20) ∧ Aside0 (wc.heap[gb302]? = some (.cells #[.int .i64 t297, .int .i64 t298, .int .i64 t299, .int .i64 t300] 24 (0, 0))) ∧ Aside0 (Below w.heap.size w wc))
           case first =>
            have H := HC40.out
            clear HC40
            by_cases c41 : t307 = (-1)
            ·rw [if_pos c41] at H
             have c41b0 : (t307 == (-1)) = true := beq_iff_eq.mpr c41
             have c41b1 : (t307 != (-1)) = false := bne_eq_false_iff_eq.mpr c41
             clear c41
             (first | rw [c41b0] | (simp only [i64_w, i32_w]; rw [c41b0]) | skip)
             have H' := Aside0.mk H
             clear H
             go_wp2
             go_meet
             case rel => exact ⟨_, ((l1.length : Int)), (by first | rfl | (simp; done) | (simp [*]; done)), H', ⟨by have := HJ3.out; have := HJ20.out; first | omega | exact Nat.le_refl _⟩, ⟨by (with_reducible repeat (first | refine blk_drewN ?_ _ | refine blk_drew ?_ | refine blk_alloc ?_ _)); exact BK302.out⟩, ⟨by repeat (first | (with_reducible first | exact HB.out | apply below_alloc | apply pw_below_drewN | apply below_drew1 | refine below_set ?_ GE302.out) | exact HB.out)⟩⟩
            ·rw [if_neg c41] at H
             have c41b0 : (t307 == (-1)) = false := beq_eq_false_iff_ne.mpr c41
             have c41b1 : (t307 != (-1)) = true := bne_iff_ne.mpr c41
             (first | rw [c41b0] | (simp only [i64_w, i32_w]; rw [c41b0]) | skip)
             have H' := Aside0.mk H
             clear H
             go_wp2
             go_meet
             case rel => exact ⟨_, (t307), (by first | rfl | (simp; done) | (simp [*]; done)), H', ⟨by have := HJ3.out; have := HJ20.out; first | omega | exact Nat.le_refl _⟩, ⟨by (with_reducible repeat (first | refine blk_drewN ?_ _ | refine blk_drew ?_ | refine blk_alloc ?_ _)); exact BK302.out⟩, ⟨by repeat (first | (with_reducible first | exact HB.out | apply below_alloc | apply pw_below_drewN | apply below_drew1 | refine below_set ?_ GE302.out) | exact HB.out)⟩⟩
           case rest =>
            clear HC40
            try clear c1
            try clear p1
            try clear q1
            try clear hx1
            try clear c2
            try clear p2
            try clear c3
            try clear c4
            try clear c6
            try clear p6
            try clear c7
            try clear c7b0
            try clear c7b1
            try clear c8
            try clear c9
            try clear c10
            try clear c11
            try clear c13
            try clear c14
            try clear c14b0
            try clear c14b1
            try clear c14b2
            try clear c16
            try clear c16b0
            try clear c17
            try clear c17b0
            try clear p18
            try clear q18
            try clear hx18
            try clear hf18
            try clear c20
            try clear c25
            try clear c34
            try clear c34b0
            try clear c34b1
            try clear c35
            try clear c35b0
            try clear c35b1
            try clear c36
            try clear c36b0
            try clear c36b1
            try clear c37
            try clear c37b0
            try clear c37b1
            try clear c38
            try clear c38b0
            try clear c38b1
            try clear c39
            try clear c41
            try clear c41b0
            try clear c41b1
            try clear hcz26_0
            try clear hcz26_1
            try clear hcz26_2
            try clear hcz26_3
            try clear hcz30_0
            try clear hcz30_1
            try clear hcz30_2
            try clear hcz30_3
            try clear hcz32_0
            try clear hcz32_1
            try clear hcz32_2
            try clear hcz32_3
            try clear hfz26_0
            try clear hfz26_1
            try clear hfz26_2
            try clear hfz26_3
            try clear hfz30_0
            try clear hfz30_1
            try clear hfz30_2
            try clear hfz30_3
            try clear hfz32_0
            try clear hfz32_1
            try clear hfz32_2
            try clear hfz32_3
            try clear hx18_0
            try clear p1
            try clear p18
            try clear p2
            try clear p6
            try clear q1
            try clear q18
            obtain ⟨kq, x15_39, rfl, HA, HJ39, BK302, HB⟩ := hcut
            cases kq with
            | zero => exact absurd HA.out (by simp [awardingbodylaw27_MonitorBetter.j2])
            | succ kj39 =>
             have H := HA.out
             clear HA
             simp only [awardingbodylaw27_MonitorBetter.j2] at H
             have H' := Aside0.mk H
             clear H
             go_wp2
             go_loopg [16] kj39 (fun kq v16 w' => ∃ (x16_4 : Int), v16 = .int .i64 x16_4 ∧ Aside0 (awardingbodylaw27_MonitorBetter.l0 kq l1 t308 x15_39 x16_4 = some r) ∧ Aside0 (kq ≤ kj39) ∧ Aside0 (w'.heap[gb302]? = some (.cells #[.int .i64 t297, .int .i64 t298, .int .i64 t299, .int .i64 t300] 24 (0, 0))) ∧ Aside0 (Below w.heap.size w w'))
             case atStart => exact ⟨(0), (by first | rfl | (simp; done) | (simp [*]; done)), H', ⟨Nat.le_refl _⟩, ⟨by (with_reducible repeat (first | refine blk_drewN ?_ _ | refine blk_drew ?_ | refine blk_alloc ?_ _)); exact BK302.out⟩, ⟨by repeat (first | (with_reducible first | exact HB.out | apply below_alloc | apply pw_below_drewN | apply below_drew1 | refine below_set ?_ GE302.out) | exact HB.out)⟩⟩
             case round =>
              clear H'
              try clear c1
              try clear p1
              try clear q1
              try clear hx1
              try clear c2
              try clear p2
              try clear c3
              try clear c4
              try clear c6
              try clear p6
              try clear c7
              try clear c7b0
              try clear c7b1
              try clear c8
              try clear c9
              try clear c10
              try clear c11
              try clear c13
              try clear c14
              try clear c14b0
              try clear c14b1
              try clear c14b2
              try clear c16
              try clear c16b0
              try clear c17
              try clear c17b0
              try clear p18
              try clear q18
              try clear hx18
              try clear hf18
              try clear c20
              try clear c25
              try clear c34
              try clear c34b0
              try clear c34b1
              try clear c35
              try clear c35b0
              try clear c35b1
              try clear c36
              try clear c36b0
              try clear c36b1
              try clear c37
              try clear c37b0
              try clear c37b1
              try clear c38
              try clear c38b0
              try clear c38b1
              try clear c39
              try clear c41
              try clear c41b0
              try clear c41b1
              try clear hcz26_0
              try clear hcz26_1
              try clear hcz26_2
              try clear hcz26_3
              try clear hcz30_0
              try clear hcz30_1
              try clear hcz30_2
              try clear hcz30_3
              try clear hcz32_0
              try clear hcz32_1
              try clear hcz32_2
              try clear hcz32_3
              try clear hfz26_0
              try clear hfz26_1
              try clear hfz26_2
              try clear hfz26_3
              try clear hfz30_0
              try clear hfz30_1
              try clear hfz30_2
              try clear hfz30_3
              try clear hfz32_0
              try clear hfz32_1
              try clear hfz32_2
              try clear hfz32_3
              try clear hx18_0
              try clear p1
              try clear p18
              try clear p2
              try clear p6
              try clear q1
              try clear q18
              obtain ⟨x16_4, rfl, HA, HK4, BK302, HB⟩ := hrel
              cases gk with
              | zero => exact absurd HA.out (by simp [awardingbodylaw27_MonitorBetter.l0])
              | succ k4 =>
               have H := HA.out
               clear HA
               simp only [awardingbodylaw27_MonitorBetter.l0] at H
               by_cases c42 : x16_4 < x15_39
               ·rw [if_pos c42] at H
                have c42b0 : decide (x16_4 < x15_39) = true := decide_eq_true c42
                clear c42
                by_cases c43 : 0 ≤ x16_4
                ·rw [if_pos c43] at H
                 have c43b0 : decide (0 ≤ x16_4) = true := decide_eq_true c43
                 clear c43
                 by_cases c44 : x16_4 < (l1.length : Int)
                 ·rw [if_pos c44] at H
                  have c44b0 : decide (x16_4 < (l1.length : Int)) = true := decide_eq_true c44
                  clear c44
                  obtain ⟨bq45, hbq45⟩ : ∃ b_ : Bool, b_ = (rdOf false l1 x16_4) := ⟨_, rfl⟩
                  replace H : (if bq45 = true then (if x16_4 > t308 then (none) else (awardingbodylaw27_MonitorBetter.l0 k4 l1 t308 x15_39 (wrap64 (x16_4 + 1)))) else (awardingbodylaw27_MonitorBetter.l0 k4 l1 t308 x15_39 (wrap64 (x16_4 + 1)))) = some r := by rw [← hbq45] at H; exact H
                  have Nbq45 := Aside0.mk hbq45
                  clear hbq45
                  by_cases c46 : bq45 = true
                  ·subst c46
                   (try rw [← Nbq45.out] at A5)
                   (try rw [← Nbq45.out] at A9)
                   (try rw [← Nbq45.out] at A11)
                   (try rw [← Nbq45.out] at A12)
                   (try rw [← Nbq45.out] at A19)
                   (try rw [← Nbq45.out] at A20)
                   have H1 : (if x16_4 > t308 then (none) else (awardingbodylaw27_MonitorBetter.l0 k4 l1 t308 x15_39 (wrap64 (x16_4 + 1)))) = some r := by rw [if_pos rfl] at H; exact H
                   clear H
                   have H := H1
                   clear H1
                   by_cases c47 : x16_4 > t308
                   ·rw [if_pos c47] at H
                    exact absurd H (by simp)
                   ·rw [if_neg c47] at H
                    have c47b0 : decide (t308 < x16_4) = false := decide_eq_false c47
                    clear c47
                    have H' := Aside0.mk H
                    clear H
                    have p313 : 0 ≤ (x16_4 : Int) := of_decide_eq_true (by first | (with_reducible assumption) | assumption)
                    have q313 : x16_4 < (l1.length : Int) := of_decide_eq_true (by first | (with_reducible assumption) | assumption)
                    obtain ⟨ad313, e313, hx313_0⟩ := Kd.at_bool HR1.out x16_4 p313 q313
                    (try rw [← Nbq45.out] at hx313_0)
                    (try rw [← Nbq45.out] at hw313_0)
                    cases e313
                    replace hx313_0 := (HB.out.cell (World.block_lt_of_cell? w _ hx313_0)).trans hx313_0
                    replace p313 := eq_true p313
                    replace q313 := eq_true q313
                    go_wp2
                    go_roundg k4
                    case measure => have := HJ3.out; have := HJ20.out; have := HJ39.out; have := HK4.out; omega
                    case rel => exact ⟨(wrap64 (x16_4 + 1)), (by first | rfl | (simp; done) | (simp [*]; done)), H', ⟨by have := HJ3.out; have := HJ20.out; have := HJ39.out; have := HK4.out; omega⟩, ⟨by (with_reducible repeat (first | refine blk_drewN ?_ _ | refine blk_drew ?_ | refine blk_alloc ?_ _)); exact BK302.out⟩, ⟨by repeat (first | (with_reducible first | exact HB.out | apply below_alloc | apply pw_below_drewN | apply below_drew1 | refine below_set ?_ GE302.out) | exact HB.out)⟩⟩
                  ·replace c46 := Bool.eq_false_iff.mpr c46
                   subst c46
                   (try rw [← Nbq45.out] at A5)
                   (try rw [← Nbq45.out] at A9)
                   (try rw [← Nbq45.out] at A11)
                   (try rw [← Nbq45.out] at A12)
                   (try rw [← Nbq45.out] at A19)
                   (try rw [← Nbq45.out] at A20)
                   have H1 : (awardingbodylaw27_MonitorBetter.l0 k4 l1 t308 x15_39 (wrap64 (x16_4 + 1))) = some r := by rw [if_neg (show ¬ (false = true) by decide)] at H; exact H
                   clear H
                   have H := H1
                   clear H1
                   have H' := Aside0.mk H
                   clear H
                   have p313 : 0 ≤ (x16_4 : Int) := of_decide_eq_true (by first | (with_reducible assumption) | assumption)
                   have q313 : x16_4 < (l1.length : Int) := of_decide_eq_true (by first | (with_reducible assumption) | assumption)
                   obtain ⟨ad313, e313, hx313_0⟩ := Kd.at_bool HR1.out x16_4 p313 q313
                   (try rw [← Nbq45.out] at hx313_0)
                   (try rw [← Nbq45.out] at hw313_0)
                   cases e313
                   replace hx313_0 := (HB.out.cell (World.block_lt_of_cell? w _ hx313_0)).trans hx313_0
                   replace p313 := eq_true p313
                   replace q313 := eq_true q313
                   go_wp2
                   go_roundg k4
                   case measure => have := HJ3.out; have := HJ20.out; have := HJ39.out; have := HK4.out; omega
                   case rel => exact ⟨(wrap64 (x16_4 + 1)), (by first | rfl | (simp; done) | (simp [*]; done)), H', ⟨by have := HJ3.out; have := HJ20.out; have := HJ39.out; have := HK4.out; omega⟩, ⟨by (with_reducible repeat (first | refine blk_drewN ?_ _ | refine blk_drew ?_ | refine blk_alloc ?_ _)); exact BK302.out⟩, ⟨by repeat (first | (with_reducible first | exact HB.out | apply below_alloc | apply pw_below_drewN | apply below_drew1 | refine below_set ?_ GE302.out) | exact HB.out)⟩⟩
                 ·rw [if_neg c44] at H
                  exact absurd H (by simp)
                ·rw [if_neg c43] at H
                 exact absurd H (by simp)
               ·rw [if_neg c42] at H
                have c42b0 : decide (x16_4 < x15_39) = false := decide_eq_false c42
                clear c42
                by_cases c48 : t308 = (-1)
                ·rw [if_pos c48] at H
                 have c48b0 : (t308 == (-1)) = true := beq_iff_eq.mpr c48
                 have c48b1 : (t308 != (-1)) = false := bne_eq_false_iff_eq.mpr c48
                 clear c48
                 replace H := Option.bind_eq_some_iff.mp H
                 obtain ⟨t314, A490, H⟩ := H
                 replace H : (some t314) = some r := H
                 have A49 := Aside0.mk A490
                 clear A490
                 obtain rfl := Option.some.inj H
                 go_wp2_with (first | (go_at_call 9; (with_reducible refine (awardingbodylaw27_sane.calls k4  t314 _ A49.out).mono ?_); rintro e w50 ⟨rfl, hb⟩; have n0_ := Aside0.mk (blk_below (g := gb302) (o := .cells #[.int .i64 t297, .int .i64 t298, .int .i64 t299, .int .i64 t300] 24 (0, 0)) (by (with_reducible repeat (first | refine blk_drewN ?_ _ | refine blk_drew ?_ | refine blk_alloc ?_ _)); exact BK302.out) hb); have n1_ := Aside0.mk (below_step (by repeat (first | (with_reducible first | exact HB.out | apply below_alloc | apply pw_below_drewN | apply below_drew1 | refine below_set ?_ GE302.out) | exact HB.out)) hb); clear BK302 HB; have BK302 := n0_; have HB := n1_; clear n0_ n1_; (try clear hb); (try clear hb2); (try clear hk); (try clear hi)))
                 go_ret
                 exact ⟨by first | rfl | (simp [errW_none, errW_some] <;> rfl) | (simp only [← hji15]; first | rfl | (simp [errW_none, errW_some] <;> rfl)) | (simp [*, errW_none, errW_some] <;> rfl), by repeat (first | (with_reducible first | exact HB.out | apply below_alloc | apply pw_below_drewN | apply below_drew1 | refine below_set ?_ GE302.out) | exact HB.out)⟩
                ·rw [if_neg c48] at H
                 have c48b0 : (t308 == (-1)) = false := beq_eq_false_iff_ne.mpr c48
                 have c48b1 : (t308 != (-1)) = true := bne_iff_ne.mpr c48
                 by_cases c51 : t308 < x15_39
                 ·rw [if_pos c51] at H
                  have c51b0 : decide (t308 < x15_39) = true := decide_eq_true c51
                  clear c51
                  by_cases c52 : 0 ≤ t308
                  ·rw [if_pos c52] at H
                   have c52b0 : decide (0 ≤ t308) = true := decide_eq_true c52
                   clear c52
                   by_cases c53 : t308 < (l1.length : Int)
                   ·rw [if_pos c53] at H
                    have c53b0 : decide (t308 < (l1.length : Int)) = true := decide_eq_true c53
                    clear c53
                    obtain ⟨bq54, hbq54⟩ : ∃ b_ : Bool, b_ = (rdOf false l1 t308) := ⟨_, rfl⟩
                    replace H : (if bq54 = true then ((awardingbodylaw27_sane.f k4).bind fun t316 => (some t316)) else (none)) = some r := by rw [← hbq54] at H; exact H
                    have Nbq54 := Aside0.mk hbq54
                    clear hbq54
                    by_cases c55 : bq54 = true
                    ·subst c55
                     (try rw [← Nbq54.out] at A9)
                     (try rw [← Nbq54.out] at A11)
                     (try rw [← Nbq54.out] at A12)
                     (try rw [← Nbq54.out] at A19)
                     (try rw [← Nbq54.out] at A20)
                     (try rw [← Nbq54.out] at A49)
                     have H1 : ((awardingbodylaw27_sane.f k4).bind fun t316 => (some t316)) = some r := by rw [if_pos rfl] at H; exact H
                     clear H
                     have H := H1
                     clear H1
                     replace H := Option.bind_eq_some_iff.mp H
                     obtain ⟨t316, A560, H⟩ := H
                     replace H : (some t316) = some r := H
                     have A56 := Aside0.mk A560
                     clear A560
                     obtain rfl := Option.some.inj H
                     have p315 : 0 ≤ (t308 : Int) := of_decide_eq_true (by first | (with_reducible assumption) | assumption)
                     have q315 : t308 < (l1.length : Int) := of_decide_eq_true (by first | (with_reducible assumption) | assumption)
                     obtain ⟨ad315, e315, hx315_0⟩ := Kd.at_bool HR1.out t308 p315 q315
                     (try rw [← Nbq54.out] at hx315_0)
                     (try rw [← Nbq54.out] at hw315_0)
                     cases e315
                     replace hx315_0 := (HB.out.cell (World.block_lt_of_cell? w _ hx315_0)).trans hx315_0
                     replace p315 := eq_true p315
                     replace q315 := eq_true q315
                     go_wp2_with (first | (go_at_call 9; (with_reducible refine (awardingbodylaw27_sane.calls k4  t316 _ A56.out).mono ?_); rintro e w57 ⟨rfl, hb⟩; have n0_ := Aside0.mk (blk_below (g := gb302) (o := .cells #[.int .i64 t297, .int .i64 t298, .int .i64 t299, .int .i64 t300] 24 (0, 0)) (by (with_reducible repeat (first | refine blk_drewN ?_ _ | refine blk_drew ?_ | refine blk_alloc ?_ _)); exact BK302.out) hb); have n1_ := Aside0.mk (below_step (by repeat (first | (with_reducible first | exact HB.out | apply below_alloc | apply pw_below_drewN | apply below_drew1 | refine below_set ?_ GE302.out) | exact HB.out)) hb); clear BK302 HB; have BK302 := n0_; have HB := n1_; clear n0_ n1_; (try clear hb); (try clear hb2); (try clear hk); (try clear hi)))
                     go_ret
                     exact ⟨by first | rfl | (simp [errW_none, errW_some] <;> rfl) | (simp only [← hji15]; first | rfl | (simp [errW_none, errW_some] <;> rfl)) | (simp [*, errW_none, errW_some] <;> rfl), by repeat (first | (with_reducible first | exact HB.out | apply below_alloc | apply pw_below_drewN | apply below_drew1 | refine below_set ?_ GE302.out) | exact HB.out)⟩
                    ·replace c55 := Bool.eq_false_iff.mpr c55
                     subst c55
                     (try rw [← Nbq54.out] at A11)
                     (try rw [← Nbq54.out] at A12)
                     (try rw [← Nbq54.out] at A19)
                     (try rw [← Nbq54.out] at A20)
                     (try rw [← Nbq54.out] at A49)
                     (try rw [← Nbq54.out] at A56)
                     have H1 : (none) = some r := by rw [if_neg (show ¬ (false = true) by decide)] at H; exact H
                     clear H
                     have H := H1
                     clear H1
                     exact absurd H (by simp)
                   ·rw [if_neg c53] at H
                    exact absurd H (by simp)
                  ·rw [if_neg c52] at H
                   exact absurd H (by simp)
                 ·rw [if_neg c51] at H
                  exact absurd H (by simp)
       ·rw [if_neg c17] at H
        exact absurd H (by simp)
      ·rw [if_neg c16] at H
       exact absurd H (by simp)
    ·rw [if_neg c13] at H
     exact absurd H (by simp)

/-- THE ONE PURE STATEMENT of awardingbodylaw27_MonitorBetter: yours. -/
def awardingbodylaw27_MonitorBetter.Pure : Prop := ∀ (l0 : List Int) (l1 : List Bool) (a2 : Int), l0.length ≤ maxLen → l0.length * 8 ≤ 140737488351232 → (∀ x ∈ l0, (Lit.int .i64 x).wf = true) → l1.length ≤ maxLen → l1.length * 1 ≤ 140737488351232 → (Lit.int .u8 a2).wf = true → ∃ k, awardingbodylaw27_MonitorBetter.f k l0 l1 a2 = some true
theorem awardingbodylaw27_MonitorBetter.walk (P : awardingbodylaw27_MonitorBetter.Pure) (a0 : Option Addr) (len0 cap0 : Nat) (z0 : List Int) (a1 : Option Addr) (len1 cap1 : Nat) (z1 : List Bool) (a2 : Int) (w : World) (w0 : (a0 = none ∧ len0 = 0 ∧ cap0 = 0 ∧ z0 = []) ∨ ∃ x, a0 = some x ∧ len0 ≤ cap0 ∧ cap0 ≤ maxLen ∧ z0.length = cap0 ∧ (∀ i, i < z0.length → w.cell? (x.add i) = some (.int .i64 (z0.getD i 0))) ∧ ∀ n ∈ z0, (Lit.int .i64 n).wf = true) (y0 : len0 * 8 ≤ 140737488351232) (w1 : len1 = z1.length ∧ Kd.C Kd.bool w a1 z1.length z1 ∧ z1.length ≤ maxLen ∧ z1.length ≤ cap1) (y1 : len1 * 1 ≤ 140737488351232) (w2 : (Lit.int .u8 a2).wf = true) :
  Calls Try.prog 4 #[.slice a0 len0 cap0, .slice a1 len1 cap1, .int .u8 a2] w fun e w' => e = .returned (.bool true) ∧ Below w.heap.size w w' := by
 obtain ⟨l0, rfl, hr0, hm0, hw0, hc0⟩ := ReadsInt.ofRowC w0
 obtain ⟨l1, rfl, hr1, hm1, hc1⟩ : ∃ l : List Bool, len1 = l.length ∧ Kd.C Kd.bool w a1 l.length l ∧ l.length ≤ maxLen ∧ l.length ≤ cap1 := ⟨z1, w1⟩
 obtain ⟨k, h⟩ := P l0 l1 a2 hm0 y0 hw0 hm1 y1 w2
 refine (awardingbodylaw27_MonitorBetter.calls k _ _ l0 _ _ l1 a2 true w (Kd.C_of_reads (d := (0 : Int)) (h1 := fun _ => rfl) hr0) hc0 hr1 hc1 h).mono ?_
 rintro e w' ⟨rfl, hd⟩
 exact ⟨rfl, hd⟩

end Go.Proofs.Ytdcfjmkeakkfjaa.Print
