-- Printed by a program of this session (wip/own_print.py) out of the translation; Lean checks it.
import Derived.Test.YtdcfjmkeakkfjaaPrint0
import Derived.Test.YtdcfjmkeakkfjaaPrint1
import Derived.Test.YtdcfjmkeakkfjaaPrint2
import Derived.Test.YtdcfjmkeakkfjaaPrint8
import Derived.Test.YtdcfjmkeakkfjaaPrint9
namespace Go.Proofs.Ytdcfjmkeakkfjaa.Print
open Go.RowKit Go.Proofs.YtdcfjmkeakkfjaaW.PrintWords Go.Proofs.YtdcfjmkeakkfjaaW.PrintLast Go.Proofs.YtdcfjmkeakkfjaaW.PrintMore
attribute [local go_sem] max2_int min2_int max_two min_two max_three min_three max_four min_four   -- for this text's walks alone
set_option linter.unusedVariables false
set_option linter.unusedSimpArgs false

/-! ### awardingbodylaw27_MonitorTolerance: function 6 -/
mutual
def awardingbodylaw27_MonitorTolerance.j0 : Nat → List Int → List Int → List Int → Int → Bool → Option (Bool)
  | 0, _, _, _, _, _ => none
  | k + 1, x0, x1, x2, x3, x32 => if x32 = true then ((awardingbodylaw27_sane.f k).bind fun t336 => (some t336)) else ((awardingbodymark_Roll.f x0).bind fun bt337 => ((awardingbodymark_Dice_Monitor.f k bt337.1 bt337.2).bind fun bt340 => (awardingbodylaw27_MonitorTolerance.l0 k x1 x2 ([] : List Int) ([] : List Int) (x1.length : Int) 0 bt340.1 bt340.2.1 bt340.2.2.1 bt340.2.2.2.1 (mn (wrap64 (bt340.1 + (Int.tmod (wrap64 (x3)) 5))) 200) (mn (wrap64 (bt340.2.1 + (Int.tmod (wrap64 (x3)) 7))) 200) bt340.2.2.1 bt340.2.2.2.1)))
def awardingbodylaw27_MonitorTolerance.l0 : Nat → List Int → List Int → List Int → List Int → Int → Int → Int → Int → Int → Int → Int → Int → Int → Int → Option (Bool)
  | 0, _, _, _, _, _, _, _, _, _, _, _, _, _, _ => none
  | k + 1, x1, x2, x11, x12, x55, x56, x346000, x346001, x346002, x346003, x347000, x347001, x347002, x347003 => if x56 < x55 then (if 0 ≤ x56 then (if x56 < (x1.length : Int) then ((some (([wrap64 (Int.tmod (rd x1 x56) 9)] : List Int) : List Int)).bind fun y348 => (if x11.length + y348.length < 17592186044416 then (if x56 < (x2.length : Int) then ((some (([wrap64 (Int.tmod (rd x2 x56) 9)] : List Int) : List Int)).bind fun y355 => (if x12.length + y355.length < 17592186044416 then (awardingbodylaw27_MonitorTolerance.l0 k x1 x2 (x11 ++ y348) (x12 ++ y355) x55 (wrap64 (x56 + 1)) x346000 x346001 x346002 x346003 x347000 x347001 x347002 x347003) else (none))) else (none)) else (none))) else (none)) else (none)) else (awardingbodylaw27_MonitorTolerance.l1 k x11 x12 ([] : List Int) ([] : List Int) (wrap64 ((x11.length : Int) - 1)) x346000 x346001 x346002 x346003 x347000 x347001 x347002 x347003)
def awardingbodylaw27_MonitorTolerance.l1 : Nat → List Int → List Int → List Int → List Int → Int → Int → Int → Int → Int → Int → Int → Int → Int → Option (Bool)
  | 0, _, _, _, _, _, _, _, _, _, _, _, _, _ => none
  | k + 1, x11, x12, x13, x14, x16, x346000, x346001, x346002, x346003, x347000, x347001, x347002, x347003 => if x16 ≥ 0 then (if 0 ≤ x16 then (if x16 < (x11.length : Int) then ((some (([rd x11 x16] : List Int) : List Int)).bind fun y362 => (if x13.length + y362.length < 17592186044416 then (if x16 < (x12.length : Int) then ((some (([rd x12 x16] : List Int) : List Int)).bind fun y369 => (if x14.length + y369.length < 17592186044416 then (awardingbodylaw27_MonitorTolerance.l1 k x11 x12 (x13 ++ y362) (x14 ++ y369) (wrap64 (x16 - 1)) x346000 x346001 x346002 x346003 x347000 x347001 x347002 x347003) else (none))) else (none)) else (none))) else (none)) else (none)) else ((monitor_Good.f k x346000 x346001 x346002 x346003 x11 x12).bind fun t375 => ((monitor_Good.f k x346000 x346001 x346002 x346003 x11 x11).bind fun t376 => (if t376 = true then ((monitor_Good.f k x346000 x346001 x346002 x346003 x12 x11).bind fun t377 => (if (t375 == t377) = true then ((monitor_Good.f k x346000 x346001 x346002 x346003 x13 x14).bind fun t378 => (if (t375 == t378) = true then (if t375 = true then ((monitor_Good.f k x347000 x347001 x347002 x347003 x11 x12).bind fun t379 => (if t379 = true then ((awardingbodylaw27_sane.f k).bind fun t380 => (some t380)) else (none))) else ((awardingbodylaw27_sane.f k).bind fun t381 => (some t381))) else (none))) else (none))) else (none))))
end
def awardingbodylaw27_MonitorTolerance.f (k : Nat) (l0 : List Int) (l1 : List Int) (l2 : List Int) (a3 : Int) : Option (Bool) := (awardingbodymark_Light.f l0).bind fun t335 => (if t335 = true then (if (l1.length : Int) > 24 then (awardingbodylaw27_MonitorTolerance.j0 k l0 l1 l2 a3 true) else (awardingbodylaw27_MonitorTolerance.j0 k l0 l1 l2 a3 ((l1.length : Int) != (l2.length : Int)))) else (awardingbodylaw27_MonitorTolerance.j0 k l0 l1 l2 a3 true))
theorem awardingbodylaw27_MonitorTolerance.mono_l : ∀ k, (∀ y0 y1 y2 y3 y4, LeO (awardingbodylaw27_MonitorTolerance.j0 k y0 y1 y2 y3 y4) (awardingbodylaw27_MonitorTolerance.j0 (k + 1) y0 y1 y2 y3 y4)) ∧ (∀ y0 y1 y2 y3 y4 y5 y6 y7 y8 y9 y10 y11 y12 y13, LeO (awardingbodylaw27_MonitorTolerance.l0 k y0 y1 y2 y3 y4 y5 y6 y7 y8 y9 y10 y11 y12 y13) (awardingbodylaw27_MonitorTolerance.l0 (k + 1) y0 y1 y2 y3 y4 y5 y6 y7 y8 y9 y10 y11 y12 y13)) ∧ (∀ y0 y1 y2 y3 y4 y5 y6 y7 y8 y9 y10 y11 y12, LeO (awardingbodylaw27_MonitorTolerance.l1 k y0 y1 y2 y3 y4 y5 y6 y7 y8 y9 y10 y11 y12) (awardingbodylaw27_MonitorTolerance.l1 (k + 1) y0 y1 y2 y3 y4 y5 y6 y7 y8 y9 y10 y11 y12))
  | 0 => ⟨fun _ _ _ _ _ r h => by simp [awardingbodylaw27_MonitorTolerance.j0] at h, fun _ _ _ _ _ _ _ _ _ _ _ _ _ _ r h => by simp [awardingbodylaw27_MonitorTolerance.l0] at h, fun _ _ _ _ _ _ _ _ _ _ _ _ _ r h => by simp [awardingbodylaw27_MonitorTolerance.l1] at h⟩
  | k + 1 => by
    obtain ⟨ih0, ih1, ih2⟩ := awardingbodylaw27_MonitorTolerance.mono_l k
    refine ⟨?_, ?_, ?_⟩
    · intro y0 y1 y2 y3 y4
      unfold awardingbodylaw27_MonitorTolerance.j0
      repeat' first
      | (with_reducible exact ih0 _ _ _ _ _)
      | (with_reducible exact ih1 _ _ _ _ _ _ _ _ _ _ _ _ _ _)
      | (with_reducible exact ih2 _ _ _ _ _ _ _ _ _ _ _ _ _)
      | (with_reducible exact awardingbodylaw27_sane.mono _)
      | (with_reducible exact awardingbodymark_Dice_Monitor.mono _ _ _)
      | (with_reducible exact monitor_Good.mono _ _ _ _ _ _ _)
      | (with_reducible exact LeO.refl _)
      | (with_reducible exact LeO.none _)
      | (with_reducible refine LeO.ite ?_ ?_)
      | (with_reducible refine LeO.bind ?_ (fun _ => ?_))
      | exact ih0 _ _ _ _ _
      | exact ih1 _ _ _ _ _ _ _ _ _ _ _ _ _ _
      | exact ih2 _ _ _ _ _ _ _ _ _ _ _ _ _
      | exact awardingbodylaw27_sane.mono _
      | exact awardingbodymark_Dice_Monitor.mono _ _ _
      | exact monitor_Good.mono _ _ _ _ _ _ _
      | exact LeO.none _
      | refine LeO.ite ?_ ?_
      | refine LeO.bind ?_ (fun _ => ?_)
    · intro y0 y1 y2 y3 y4 y5 y6 y7 y8 y9 y10 y11 y12 y13
      unfold awardingbodylaw27_MonitorTolerance.l0
      repeat' first
      | (with_reducible exact ih0 _ _ _ _ _)
      | (with_reducible exact ih1 _ _ _ _ _ _ _ _ _ _ _ _ _ _)
      | (with_reducible exact ih2 _ _ _ _ _ _ _ _ _ _ _ _ _)
      | (with_reducible exact awardingbodylaw27_sane.mono _)
      | (with_reducible exact awardingbodymark_Dice_Monitor.mono _ _ _)
      | (with_reducible exact monitor_Good.mono _ _ _ _ _ _ _)
      | (with_reducible exact LeO.refl _)
      | (with_reducible exact LeO.none _)
      | (with_reducible refine LeO.ite ?_ ?_)
      | (with_reducible refine LeO.bind ?_ (fun _ => ?_))
      | exact ih0 _ _ _ _ _
      | exact ih1 _ _ _ _ _ _ _ _ _ _ _ _ _ _
      | exact ih2 _ _ _ _ _ _ _ _ _ _ _ _ _
      | exact awardingbodylaw27_sane.mono _
      | exact awardingbodymark_Dice_Monitor.mono _ _ _
      | exact monitor_Good.mono _ _ _ _ _ _ _
      | exact LeO.none _
      | refine LeO.ite ?_ ?_
      | refine LeO.bind ?_ (fun _ => ?_)
    · intro y0 y1 y2 y3 y4 y5 y6 y7 y8 y9 y10 y11 y12
      unfold awardingbodylaw27_MonitorTolerance.l1
      repeat' first
      | (with_reducible exact ih0 _ _ _ _ _)
      | (with_reducible exact ih1 _ _ _ _ _ _ _ _ _ _ _ _ _ _)
      | (with_reducible exact ih2 _ _ _ _ _ _ _ _ _ _ _ _ _)
      | (with_reducible exact awardingbodylaw27_sane.mono _)
      | (with_reducible exact awardingbodymark_Dice_Monitor.mono _ _ _)
      | (with_reducible exact monitor_Good.mono _ _ _ _ _ _ _)
      | (with_reducible exact LeO.refl _)
      | (with_reducible exact LeO.none _)
      | (with_reducible refine LeO.ite ?_ ?_)
      | (with_reducible refine LeO.bind ?_ (fun _ => ?_))
      | exact ih0 _ _ _ _ _
      | exact ih1 _ _ _ _ _ _ _ _ _ _ _ _ _ _
      | exact ih2 _ _ _ _ _ _ _ _ _ _ _ _ _
      | exact awardingbodylaw27_sane.mono _
      | exact awardingbodymark_Dice_Monitor.mono _ _ _
      | exact monitor_Good.mono _ _ _ _ _ _ _
      | exact LeO.none _
      | refine LeO.ite ?_ ?_
      | refine LeO.bind ?_ (fun _ => ?_)
theorem awardingbodylaw27_MonitorTolerance.mono : ∀ a0 a1 a2 a3 k, LeO (awardingbodylaw27_MonitorTolerance.f k a0 a1 a2 a3) (awardingbodylaw27_MonitorTolerance.f (k + 1) a0 a1 a2 a3) := by
  intro a0 a1 a2 a3 k
  obtain ⟨ih0, ih1, ih2⟩ := awardingbodylaw27_MonitorTolerance.mono_l k
  unfold awardingbodylaw27_MonitorTolerance.f
  repeat' first
      | (with_reducible exact ih0 _ _ _ _ _)
      | (with_reducible exact ih1 _ _ _ _ _ _ _ _ _ _ _ _ _ _)
      | (with_reducible exact ih2 _ _ _ _ _ _ _ _ _ _ _ _ _)
      | (with_reducible exact awardingbodylaw27_sane.mono _)
      | (with_reducible exact awardingbodymark_Dice_Monitor.mono _ _ _)
      | (with_reducible exact monitor_Good.mono _ _ _ _ _ _ _)
      | (with_reducible exact LeO.refl _)
      | (with_reducible exact LeO.none _)
      | (with_reducible refine LeO.ite ?_ ?_)
      | (with_reducible refine LeO.bind ?_ (fun _ => ?_))
      | exact ih0 _ _ _ _ _
      | exact ih1 _ _ _ _ _ _ _ _ _ _ _ _ _ _
      | exact ih2 _ _ _ _ _ _ _ _ _ _ _ _ _
      | exact awardingbodylaw27_sane.mono _
      | exact awardingbodymark_Dice_Monitor.mono _ _ _
      | exact monitor_Good.mono _ _ _ _ _ _ _
      | exact LeO.none _
      | refine LeO.ite ?_ ?_
      | refine LeO.bind ?_ (fun _ => ?_)
def awardingbodylaw27_MonitorTolerance.T5 : Bool × List (List Nat × List Nat) := (true, [([], []), ([0], [0]), ([], []), ([2], [2]), ([3], [3]), ([1, 4], [1, 4]), ([5], [5]), ([], []), ([7], [7]), ([], []), ([9], [9]), ([10], [10]), ([8, 11], [8, 11]), ([12], [12]), ([0, 1, 2, 3, 4, 5, 6], []), ([14, 6, 0, 1, 2, 3, 4, 5, 6], [6, 14]), ([0, 1, 2, 3, 4, 5, 6, 7, 8, 9, 10, 11, 12, 13, 14, 15], []), ([16, 13, 15, 0, 1, 2, 3, 4, 5, 6, 7, 8, 9, 10, 11, 12, 13, 14, 15], [13, 16])])
def awardingbodylaw27_MonitorTolerance.B5 : List Nat := [0, 1, 0, 4, 12, 31, 63, 0, 128, 0, 512, 1536, 3968, 8064, 127, 16511, 65535, 131071]
theorem awardingbodylaw27_MonitorTolerance.tab5 : rtab .any (opsOf Try.f6 5) = awardingbodylaw27_MonitorTolerance.T5 := by kernel_rfl
theorem awardingbodylaw27_MonitorTolerance.bits5 : waitsOk awardingbodylaw27_MonitorTolerance.T5.2 awardingbodylaw27_MonitorTolerance.B5 = true := by kernel_rfl
def awardingbodylaw27_MonitorTolerance.T10 : Bool × List (List Nat × List Nat) := (true, [([], []), ([], []), ([], []), ([1, 2], [1, 2]), ([3], [3]), ([4], [4]), ([5], [5]), ([6], [6]), ([0, 7], [0, 7]), ([], []), ([], []), ([], []), ([10, 11], [10, 11]), ([12], [12]), ([13], [13]), ([14], [14]), ([15], [15]), ([9, 16, 8], [9, 16]), ([8, 17, 0, 1, 2, 3, 4, 5, 6, 7, 8], [0, 8]), ([17, 18, 0, 1, 2, 3, 4, 5, 6, 7, 8, 9, 10, 11, 12, 13, 14, 15, 16, 17, 18], [9, 17])])
def awardingbodylaw27_MonitorTolerance.B10 : List Nat := [0, 0, 0, 6, 14, 30, 62, 126, 255, 0, 0, 0, 3072, 7168, 15360, 31744, 64512, 131071, 262143, 524287]
theorem awardingbodylaw27_MonitorTolerance.tab10 : rtab .any (opsOf Try.f6 10) = awardingbodylaw27_MonitorTolerance.T10 := by kernel_rfl
theorem awardingbodylaw27_MonitorTolerance.bits10 : waitsOk awardingbodylaw27_MonitorTolerance.T10.2 awardingbodylaw27_MonitorTolerance.B10 = true := by kernel_rfl
def awardingbodylaw27_MonitorTolerance.T15 : Bool × List (List Nat × List Nat) := (true, [([], []), ([], []), ([], []), ([1, 2], [1, 2]), ([3], [3]), ([4], [4]), ([0, 5], [0, 5]), ([], []), ([], []), ([], []), ([8, 9], [8, 9]), ([10], [10]), ([11], [11]), ([7, 12, 6], [7, 12]), ([6, 13, 0, 1, 2, 3, 4, 5, 6], [0, 6]), ([13, 14, 0, 1, 2, 3, 4, 5, 6, 7, 8, 9, 10, 11, 12, 13, 14], [7, 13])])
def awardingbodylaw27_MonitorTolerance.B15 : List Nat := [0, 0, 0, 6, 14, 30, 63, 0, 0, 0, 768, 1792, 3840, 8191, 16383, 32767]
theorem awardingbodylaw27_MonitorTolerance.tab15 : rtab .any (opsOf Try.f6 15) = awardingbodylaw27_MonitorTolerance.T15 := by kernel_rfl
theorem awardingbodylaw27_MonitorTolerance.bits15 : waitsOk awardingbodylaw27_MonitorTolerance.T15.2 awardingbodylaw27_MonitorTolerance.B15 = true := by kernel_rfl
set_option maxHeartbeats 8000000 in
set_option maxRecDepth 100000 in
theorem awardingbodylaw27_MonitorTolerance.calls (k : Nat) (A0 : Option Addr) (c0 : Nat) (l0 : List Int) (A1 : Option Addr) (c1 : Nat) (l1 : List Int) (A2 : Option Addr) (c2 : Nat) (l2 : List Int) (a3 : Int) (r : Bool) (w : World) (hr0 : Kd.C (Kd.int .i64) w A0 l0.length l0) (hc0 : l0.length ≤ c0) (hr1 : Kd.C (Kd.int .u8) w A1 l1.length l1) (hc1 : l1.length ≤ c1) (hr2 : Kd.C (Kd.int .u8) w A2 l2.length l2) (hc2 : l2.length ≤ c2) (h : awardingbodylaw27_MonitorTolerance.f k l0 l1 l2 a3 = some r) :
    Calls Try.prog 6 #[.slice A0 l0.length c0, .slice A1 l1.length c1, .slice A2 l2.length c2, .int .u8 a3] w fun e w' => e = .returned (.bool r) ∧ Below w.heap.size w w' := by
 have hu24 := Try.underlying24
 have HR0 := Aside0.mk hr0
 have HC0 := Aside0.mk hc0
 clear hr0 hc0
 have HR1 := Aside0.mk hr1
 have HC1 := Aside0.mk hc1
 clear hr1 hc1
 have HR2 := Aside0.mk hr2
 have HC2 := Aside0.mk hc2
 clear hr2 hc2
 have HB := Aside0.mk (Below.refl w.heap.size w)
 have H : ((awardingbodymark_Light.f l0).bind fun t335 => (if t335 = true then (if (l1.length : Int) > 24 then (awardingbodylaw27_MonitorTolerance.j0 k l0 l1 l2 a3 true) else (awardingbodylaw27_MonitorTolerance.j0 k l0 l1 l2 a3 ((l1.length : Int) != (l2.length : Int)))) else (awardingbodylaw27_MonitorTolerance.j0 k l0 l1 l2 a3 true))) = some r := h
 clear h
 have HC5 := Aside0.mk H
 clear H
 go_enter Try.func6, Try.ntmps6
 go_upto_region 1 with (fail)
 go_cut [32] (fun v32 wc => ∃ (kq : Nat) (x32_4 : Bool), v32 = .bool x32_4 ∧ Aside0 (awardingbodylaw27_MonitorTolerance.j0 kq l0 l1 l2 a3 x32_4 = some r) ∧ Aside0 (kq ≤ k) ∧ Aside0 (Below w.heap.size w wc))
 case first =>
  have H := HC5.out
  clear HC5
  replace H := Option.bind_eq_some_iff.mp H
  obtain ⟨t335, A60, H⟩ := H
  replace H : (if t335 = true then (if (l1.length : Int) > 24 then (awardingbodylaw27_MonitorTolerance.j0 k l0 l1 l2 a3 true) else (awardingbodylaw27_MonitorTolerance.j0 k l0 l1 l2 a3 ((l1.length : Int) != (l2.length : Int)))) else (awardingbodylaw27_MonitorTolerance.j0 k l0 l1 l2 a3 true)) = some r := H
  have A6 := Aside0.mk A60
  clear A60
  by_cases c7 : t335 = true
  ·subst c7
   have H1 : (if (l1.length : Int) > 24 then (awardingbodylaw27_MonitorTolerance.j0 k l0 l1 l2 a3 true) else (awardingbodylaw27_MonitorTolerance.j0 k l0 l1 l2 a3 ((l1.length : Int) != (l2.length : Int)))) = some r := by rw [if_pos rfl] at H; exact H
   clear H
   have H := H1
   clear H1
   by_cases c8 : (l1.length : Int) > 24
   ·rw [if_pos c8] at H
    have c8b0 : decide (24 < (l1.length : Int)) = true := decide_eq_true c8
    have c8b1 : decide (24 < l1.length) = true := decide_eq_true (by omega)
    clear c8
    (first | rw [c8b0] | (simp only [i64_w, i32_w]; rw [c8b0]) | skip)
    have H' := Aside0.mk H
    clear H
    go_wp2_with (first | ((with_reducible refine gate_callee (f := 8) rfl ?_); refine goesL_ (some 19) rfl rfl Try.func8 (by kernel_rfl) rfl #[.slice A0 l0.length c0] rfl (by (try simp only [List.map_toArray, List.map_cons, List.map_nil]); first | done | rfl | (simp only [List.length_drop, List.length_take]; rfl)) ?_; (with_reducible refine (awardingbodymark_Light.calls _ _ l0 true _ ?side1 ?side2 A6.out).mono ?_); (case side1 => repeat (first | exact (Kd.C_below HR0.out HB.out) | (with_reducible refine Kd.C_alloc ?_ _) | (with_reducible refine Kd.C_drewN ?_ _) | (with_reducible refine Kd.C_drew ?_))); (case side2 => exact HC0.out); rintro e w' ⟨rfl, ⟨nd, rfl⟩⟩; refine ⟨_, rfl, ?_⟩))
    go_meet
    case rel => exact ⟨_, (true), (by first | rfl | (simp; done) | (simp [*]; done)), H', ⟨by first | omega | exact Nat.le_refl _⟩, ⟨by repeat (first | (with_reducible first | exact HB.out | apply below_alloc | apply pw_below_drewN | apply below_drew1) | exact HB.out)⟩⟩
   ·rw [if_neg c8] at H
    have c8b0 : decide (24 < (l1.length : Int)) = false := decide_eq_false c8
    have c8b1 : decide (24 < l1.length) = false := decide_eq_false (by omega)
    clear c8
    (first | rw [c8b0] | (simp only [i64_w, i32_w]; rw [c8b0]) | skip)
    have H' := Aside0.mk H
    clear H
    go_wp2_with (first | ((with_reducible refine gate_callee (f := 8) rfl ?_); refine goesL_ (some 19) rfl rfl Try.func8 (by kernel_rfl) rfl #[.slice A0 l0.length c0] rfl (by (try simp only [List.map_toArray, List.map_cons, List.map_nil]); first | done | rfl | (simp only [List.length_drop, List.length_take]; rfl)) ?_; (with_reducible refine (awardingbodymark_Light.calls _ _ l0 true _ ?side1 ?side2 A6.out).mono ?_); (case side1 => repeat (first | exact (Kd.C_below HR0.out HB.out) | (with_reducible refine Kd.C_alloc ?_ _) | (with_reducible refine Kd.C_drewN ?_ _) | (with_reducible refine Kd.C_drew ?_))); (case side2 => exact HC0.out); rintro e w' ⟨rfl, ⟨nd, rfl⟩⟩; refine ⟨_, rfl, ?_⟩))
    go_meet
    case rel => exact ⟨_, (((l1.length : Int) != (l2.length : Int))), (by first | rfl | (simp; done) | (simp [*]; done)), H', ⟨by first | omega | exact Nat.le_refl _⟩, ⟨by repeat (first | (with_reducible first | exact HB.out | apply below_alloc | apply pw_below_drewN | apply below_drew1) | exact HB.out)⟩⟩
  ·replace c7 := Bool.eq_false_iff.mpr c7
   subst c7
   have H1 : (awardingbodylaw27_MonitorTolerance.j0 k l0 l1 l2 a3 true) = some r := by rw [if_neg (show ¬ (false = true) by decide)] at H; exact H
   clear H
   have H := H1
   clear H1
   have H' := Aside0.mk H
   clear H
   go_wp2_with (first | ((with_reducible refine gate_callee (f := 8) rfl ?_); refine goesL_ (some 19) rfl rfl Try.func8 (by kernel_rfl) rfl #[.slice A0 l0.length c0] rfl (by (try simp only [List.map_toArray, List.map_cons, List.map_nil]); first | done | rfl | (simp only [List.length_drop, List.length_take]; rfl)) ?_; (with_reducible refine (awardingbodymark_Light.calls _ _ l0 false _ ?side1 ?side2 A6.out).mono ?_); (case side1 => repeat (first | exact (Kd.C_below HR0.out HB.out) | (with_reducible refine Kd.C_alloc ?_ _) | (with_reducible refine Kd.C_drewN ?_ _) | (with_reducible refine Kd.C_drew ?_))); (case side2 => exact HC0.out); rintro e w' ⟨rfl, ⟨nd, rfl⟩⟩; refine ⟨_, rfl, ?_⟩))
   go_meet
   case rel => exact ⟨_, (true), (by first | rfl | (simp; done) | (simp [*]; done)), H', ⟨by first | omega | exact Nat.le_refl _⟩, ⟨by repeat (first | (with_reducible first | exact HB.out | apply below_alloc | apply pw_below_drewN | apply below_drew1) | exact HB.out)⟩⟩
 case rest =>
  clear HC5
  try clear c1
  try clear c2
  try clear p2
  try clear c6
  try clear c7
  try clear c8
  try clear c8b0
  try clear c8b1
  obtain ⟨kq, x32_4, rfl, HA, HJ4, HB⟩ := hcut
  cases kq with
  | zero => exact absurd HA.out (by simp [awardingbodylaw27_MonitorTolerance.j0])
  | succ kj4 =>
   have H := HA.out
   clear HA
   simp only [awardingbodylaw27_MonitorTolerance.j0] at H
   by_cases c9 : x32_4 = true
   ·subst c9
    have H1 : ((awardingbodylaw27_sane.f kj4).bind fun t336 => (some t336)) = some r := by rw [if_pos rfl] at H; exact H
    clear H
    have H := H1
    clear H1
    replace H := Option.bind_eq_some_iff.mp H
    obtain ⟨t336, A100, H⟩ := H
    replace H : (some t336) = some r := H
    have A10 := Aside0.mk A100
    clear A100
    obtain rfl := Option.some.inj H
    go_wp2_with (first | ((with_reducible refine gate_callee (f := 9) rfl ?_); refine goesL_ (some 33) rfl rfl Try.func9 (by kernel_rfl) rfl #[] rfl (by (try simp only [List.map_toArray, List.map_cons, List.map_nil]); first | done | rfl | (simp only [List.length_drop, List.length_take]; rfl)) ?_; (with_reducible refine (awardingbodylaw27_sane.calls kj4  t336 _ A10.out).mono ?_); rintro e w11 ⟨rfl, hb⟩; refine ⟨_, rfl, ?_⟩; have n0_ := Aside0.mk (below_step (by repeat (first | (with_reducible first | exact HB.out | apply below_alloc | apply pw_below_drewN | apply below_drew1) | exact HB.out)) hb); clear HB; have HB := n0_; clear n0_; (try clear hb); (try clear hb2); (try clear hk); (try clear hi)))
    go_ret
    exact ⟨by first | rfl | (simp [errW_none, errW_some] <;> rfl) | (simp [*, errW_none, errW_some] <;> rfl), by repeat (first | (with_reducible first | exact HB.out | apply below_alloc | apply pw_below_drewN | apply below_drew1) | exact HB.out)⟩
   ·replace c9 := Bool.eq_false_iff.mpr c9
    subst c9
    have H1 : ((awardingbodymark_Roll.f l0).bind fun bt337 => ((awardingbodymark_Dice_Monitor.f kj4 bt337.1 bt337.2).bind fun bt340 => (awardingbodylaw27_MonitorTolerance.l0 kj4 l1 l2 ([] : List Int) ([] : List Int) (l1.length : Int) 0 bt340.1 bt340.2.1 bt340.2.2.1 bt340.2.2.2.1 (mn (wrap64 (bt340.1 + (Int.tmod (wrap64 (a3)) 5))) 200) (mn (wrap64 (bt340.2.1 + (Int.tmod (wrap64 (a3)) 7))) 200) bt340.2.2.1 bt340.2.2.2.1))) = some r := by rw [if_neg (show ¬ (false = true) by decide)] at H; exact H
    clear H
    have H := H1
    clear H1
    replace H := Option.bind_eq_some_iff.mp H
    obtain ⟨⟨t337, t338⟩, A120, H⟩ := H
    replace H : ((awardingbodymark_Dice_Monitor.f kj4 t337 t338).bind fun bt340 => (awardingbodylaw27_MonitorTolerance.l0 kj4 l1 l2 ([] : List Int) ([] : List Int) (l1.length : Int) 0 bt340.1 bt340.2.1 bt340.2.2.1 bt340.2.2.2.1 (mn (wrap64 (bt340.1 + (Int.tmod (wrap64 (a3)) 5))) 200) (mn (wrap64 (bt340.2.1 + (Int.tmod (wrap64 (a3)) 7))) 200) bt340.2.2.1 bt340.2.2.2.1)) = some r := H
    have A12 := Aside0.mk A120
    clear A120
    replace H := Option.bind_eq_some_iff.mp H
    obtain ⟨⟨t340, t341, t342, t343, t344⟩, A130, H⟩ := H
    replace H : (awardingbodylaw27_MonitorTolerance.l0 kj4 l1 l2 ([] : List Int) ([] : List Int) (l1.length : Int) 0 t340 t341 t342 t343 (mn (wrap64 (t340 + (Int.tmod (wrap64 (a3)) 5))) 200) (mn (wrap64 (t341 + (Int.tmod (wrap64 (a3)) 7))) 200) t342 t343) = some r := H
    have A13 := Aside0.mk A130
    clear A130
    obtain ⟨ji14, hji14⟩ : ∃ j_ : Int, (mn (wrap64 (t340 + (Int.tmod (wrap64 (a3)) 5))) 200) = j_ := ⟨_, rfl⟩
    replace H : (awardingbodylaw27_MonitorTolerance.l0 kj4 l1 l2 ([] : List Int) ([] : List Int) (l1.length : Int) 0 t340 t341 t342 t343 ji14 (mn (wrap64 (t341 + (Int.tmod (wrap64 (a3)) 7))) 200) t342 t343) = some r := by first | (rw [hji14] at H; exact H) | (simp only [hji14] at H ⊢; exact H)
    (try rw [hji14] at A12)
    (try rw [hji14] at A13)
    have hji14_ : (if 200 < (wrap64 (t340 + (Int.tmod (wrap64 (a3)) 5))) then 200 else (wrap64 (t340 + (Int.tmod (wrap64 (a3)) 5)))) = ji14 := hji14
    obtain ⟨ji15, hji15⟩ : ∃ j_ : Int, (mn (wrap64 (t341 + (Int.tmod (wrap64 (a3)) 7))) 200) = j_ := ⟨_, rfl⟩
    replace H : (awardingbodylaw27_MonitorTolerance.l0 kj4 l1 l2 ([] : List Int) ([] : List Int) (l1.length : Int) 0 t340 t341 t342 t343 ji14 ji15 t342 t343) = some r := by first | (rw [hji15] at H; exact H) | (simp only [hji15] at H ⊢; exact H)
    (try rw [hji15] at A12)
    (try rw [hji15] at A13)
    have hji15_ : (if 200 < (wrap64 (t341 + (Int.tmod (wrap64 (a3)) 7))) then 200 else (wrap64 (t341 + (Int.tmod (wrap64 (a3)) 7)))) = ji15 := hji15
    have H' := Aside0.mk H
    clear H
    try go_wp2_with (first | ((with_reducible refine gate_callee (f := 10) rfl ?_); refine goesL_ (some 35) rfl rfl Try.func10 (by kernel_rfl) rfl #[.slice A0 l0.length c0] rfl (by (try simp only [List.map_toArray, List.map_cons, List.map_nil]); first | done | rfl | (simp only [List.length_drop, List.length_take]; rfl)) ?_; (with_reducible refine (awardingbodymark_Roll.calls _ _ l0 t337 t338 w _ ?side1 ?side2 ?side3 A12.out).mono ?_); (case side1 => repeat (first | (with_reducible first | exact HB.out | apply below_alloc | apply pw_below_drewN | apply below_drew1) | exact HB.out)); (case side2 => exact HR0.out); (case side3 => exact HC0.out); rintro e w16 ⟨g339, rfl, hi, hb, hb2⟩; refine ⟨_, rfl, ?_⟩; have n0_ := Aside0.mk (hb); have n1_ := Aside0.mk (hi); clear HB; have HB := n0_; have HI339 := n1_; clear n0_ n1_; (try clear hb); (try clear hb2); (try clear hk); (try clear hi)) | ((with_reducible refine gate_callee (f := 11) rfl ?_); refine goesL_ (some 36) rfl rfl Try.func11 (by kernel_rfl) rfl #[.pointer (some ⟨g339, 0, none⟩)] rfl (by (try simp only [List.map_toArray, List.map_cons, List.map_nil]); first | done | rfl | (simp only [List.length_drop, List.length_take]; rfl)) ?_; (with_reducible refine (awardingbodymark_Dice_Monitor.calls kj4 g339 t337 t338 t340 t341 t342 t343 t344 w _ ?side1 ?side2 A13.out).mono ?_); (case side1 => repeat (first | (with_reducible first | exact HI339.out | apply IsS53.alloc | apply IsS53.drewN | apply IsS53.drew | apply IsS53.set_1) | exact HI339.out)); (case side2 => repeat (first | (with_reducible first | exact HB.out | apply below_alloc | apply pw_below_drewN | apply below_drew1 | refine below_set ?_ (IsS53.ge HI339.out)) | exact HB.out)); rintro e w17 ⟨rfl, hi, hb, hk⟩; refine ⟨_, rfl, ?_⟩; have n0_ := Aside0.mk (hb); have n1_ := Aside0.mk (hi); clear HB HI339; have HB := n0_; have HI339 := n1_; clear n0_ n1_; (try clear hb); (try clear hb2); (try clear hk); (try clear hi)) | ((with_reducible refine gate_dst (N := 9) rfl ?_); (try (refine gate_guard (by rfl) ?_; dsimp only)); refine box_event ?hg (N := 9) ?hd (cs := #[.int .i64 0, .int .i64 0, .int .i64 0, .int .i64 0]) (t := 24) ?hr ?_; (case hd => rfl); (case hg => rfl); (case hr => first | (go_simp; done) | (go_simp; rfl)); intro gb345 hg w18 hbox hb; have n0_ := Aside0.mk (IsS53.below (by repeat (first | (with_reducible first | exact HI339.out | apply IsS53.alloc | apply IsS53.drewN | apply IsS53.drew | apply IsS53.set_1) | exact HI339.out)) hb); have n1_ := Aside0.mk (below_step (by repeat (first | (with_reducible first | exact HB.out | apply below_alloc | apply pw_below_drewN | apply below_drew1 | refine below_set ?_ (IsS53.ge HI339.out)) | exact HB.out)) hb); have n2_ := Aside0.mk (hbox); have n3_ := Aside0.mk ((by rw [hg]; exact (below_size (by repeat (first | (with_reducible first | exact HB.out | apply below_alloc | apply pw_below_drewN | apply below_drew1 | refine below_set ?_ (IsS53.ge HI339.out)) | exact HB.out))) : w.heap.size ≤ gb345)); have n4_ := Aside0.mk ((by rw [hg]; exact (below_size (by repeat (first | (with_reducible first | exact HB.out | apply below_alloc | apply pw_below_drewN | apply below_drew1 | refine below_set ?_ (IsS53.ge HI339.out)) | exact HB.out))) : w.heap.size ≤ gb345)); have n5_ := Aside0.mk ((by rw [hg]; exact Nat.ne_of_lt (IsS53.lt (show IsS53 w _ g339 t337 t344 from by repeat (first | (with_reducible first | exact HI339.out | apply IsS53.alloc | apply IsS53.drewN | apply IsS53.drew | apply IsS53.set_1) | exact HI339.out))) : g339 ≠ gb345)); have n6_ := Aside0.mk ((by rw [hg]; exact Nat.ne_of_gt (IsS53.lt (show IsS53 w _ g339 t337 t344 from by repeat (first | (with_reducible first | exact HI339.out | apply IsS53.alloc | apply IsS53.drewN | apply IsS53.drew | apply IsS53.set_1) | exact HI339.out))) : gb345 ≠ g339)); clear HI339 HB; have HI339 := n0_; have HB := n1_; have BK345 := n2_; have GW345 := n3_; have GE345 := n4_; have NB339_345 := n5_; have NB345_339 := n6_; clear n0_ n1_ n2_ n3_ n4_ n5_ n6_ hb hbox hg; have hnb19 := NB345_339.out; have hnc19 := NB339_345.out; have hcz20_0 : w18.cell? ⟨gb345, 0, none⟩ = some (.int .i64 0) := (blk_cell BK345.out 0).trans rfl; have hcz20_1 : w18.cell? ⟨gb345, 1, none⟩ = some (.int .i64 0) := (blk_cell BK345.out 1).trans rfl; have hcz20_2 : w18.cell? ⟨gb345, 2, none⟩ = some (.int .i64 0) := (blk_cell BK345.out 2).trans rfl; have hcz20_3 : w18.cell? ⟨gb345, 3, none⟩ = some (.int .i64 0) := (blk_cell BK345.out 3).trans rfl; have hfz20_0 := blk_frozen BK345.out 0; have hfz20_1 := blk_frozen BK345.out 1; have hfz20_2 := blk_frozen BK345.out 2; have hfz20_3 := blk_frozen BK345.out 3) | ((with_reducible refine gate_dst (N := 10) rfl ?_); (try (refine gate_guard (by rfl) ?_; dsimp only)); refine box_event ?hg (N := 10) ?hd (cs := #[.int .i64 0, .int .i64 0, .int .i64 0, .int .i64 0]) (t := 24) ?hr ?_; (case hd => rfl); (case hg => rfl); (case hr => first | (go_simp; done) | (go_simp; rfl)); intro gb346 hg w21 hbox hb; have n0_ := Aside0.mk (IsS53.below (show IsS53 w ((((w18.setCell ⟨gb345, 0, none⟩ (.int .i64 t340)).setCell ⟨gb345, 1, none⟩ (.int .i64 t341)).setCell ⟨gb345, 2, none⟩ (.int .i64 t342)).setCell ⟨gb345, 3, none⟩ (.int .i64 t343)) g339 t337 t344 from by repeat (first | (with_reducible first | exact HI339.out | apply IsS53.alloc | apply IsS53.drewN | apply IsS53.drew | apply IsS53.set_1 | refine IsS53.far ?_ NB339_345.out _) | exact HI339.out)) hb); have n1_ := Aside0.mk (blk_below (g := gb345) (o := .cells #[.int .i64 t340, .int .i64 t341, .int .i64 t342, .int .i64 t343] 24 (0, 0)) (by (with_reducible repeat (first | refine blk_drewN ?_ _ | refine blk_drew ?_ | refine blk_alloc ?_ _)); refine blk_put (cs := #[.int .i64 t340, .int .i64 t341, .int .i64 t342, .int .i64 0]) ?_ 3 _ rfl; (with_reducible repeat (first | refine blk_drewN ?_ _ | refine blk_drew ?_ | refine blk_alloc ?_ _)); refine blk_put (cs := #[.int .i64 t340, .int .i64 t341, .int .i64 0, .int .i64 0]) ?_ 2 _ rfl; (with_reducible repeat (first | refine blk_drewN ?_ _ | refine blk_drew ?_ | refine blk_alloc ?_ _)); refine blk_put (cs := #[.int .i64 t340, .int .i64 0, .int .i64 0, .int .i64 0]) ?_ 1 _ rfl; (with_reducible repeat (first | refine blk_drewN ?_ _ | refine blk_drew ?_ | refine blk_alloc ?_ _)); refine blk_put (cs := #[.int .i64 0, .int .i64 0, .int .i64 0, .int .i64 0]) ?_ 0 _ rfl; (with_reducible repeat (first | refine blk_drewN ?_ _ | refine blk_drew ?_ | refine blk_alloc ?_ _)); exact BK345.out) hb); have n2_ := Aside0.mk (below_step (by repeat (first | (with_reducible first | exact HB.out | apply below_alloc | apply pw_below_drewN | apply below_drew1 | refine below_set ?_ (IsS53.ge HI339.out) | refine below_set ?_ GE345.out) | exact HB.out)) hb); have n3_ := Aside0.mk (hbox); have n4_ := Aside0.mk ((by rw [hg]; exact (below_size (by repeat (first | (with_reducible first | exact HB.out | apply below_alloc | apply pw_below_drewN | apply below_drew1 | refine below_set ?_ (IsS53.ge HI339.out) | refine below_set ?_ GE345.out) | exact HB.out))) : w.heap.size ≤ gb346)); have n5_ := Aside0.mk ((by rw [hg]; exact (below_size (by repeat (first | (with_reducible first | exact HB.out | apply below_alloc | apply pw_below_drewN | apply below_drew1 | refine below_set ?_ (IsS53.ge HI339.out) | refine below_set ?_ GE345.out) | exact HB.out))) : w.heap.size ≤ gb346)); have n6_ := Aside0.mk ((by rw [hg]; exact Nat.ne_of_lt (blk_lt (g := gb345) (o := .cells #[.int .i64 t340, .int .i64 t341, .int .i64 t342, .int .i64 t343] 24 (0, 0)) (by (with_reducible repeat (first | refine blk_drewN ?_ _ | refine blk_drew ?_ | refine blk_alloc ?_ _)); refine blk_put (cs := #[.int .i64 t340, .int .i64 t341, .int .i64 t342, .int .i64 0]) ?_ 3 _ rfl; (with_reducible repeat (first | refine blk_drewN ?_ _ | refine blk_drew ?_ | refine blk_alloc ?_ _)); refine blk_put (cs := #[.int .i64 t340, .int .i64 t341, .int .i64 0, .int .i64 0]) ?_ 2 _ rfl; (with_reducible repeat (first | refine blk_drewN ?_ _ | refine blk_drew ?_ | refine blk_alloc ?_ _)); refine blk_put (cs := #[.int .i64 t340, .int .i64 0, .int .i64 0, .int .i64 0]) ?_ 1 _ rfl; (with_reducible repeat (first | refine blk_drewN ?_ _ | refine blk_drew ?_ | refine blk_alloc ?_ _)); refine blk_put (cs := #[.int .i64 0, .int .i64 0, .int .i64 0, .int .i64 0]) ?_ 0 _ rfl; (with_reducible repeat (first | refine blk_drewN ?_ _ | refine blk_drew ?_ | refine blk_alloc ?_ _)); exact BK345.out)) : gb345 ≠ gb346)); have n7_ := Aside0.mk ((by rw [hg]; exact Nat.ne_of_gt (blk_lt (g := gb345) (o := .cells #[.int .i64 t340, .int .i64 t341, .int .i64 t342, .int .i64 t343] 24 (0, 0)) (by (with_reducible repeat (first | refine blk_drewN ?_ _ | refine blk_drew ?_ | refine blk_alloc ?_ _)); refine blk_put (cs := #[.int .i64 t340, .int .i64 t341, .int .i64 t342, .int .i64 0]) ?_ 3 _ rfl; (with_reducible repeat (first | refine blk_drewN ?_ _ | refine blk_drew ?_ | refine blk_alloc ?_ _)); refine blk_put (cs := #[.int .i64 t340, .int .i64 t341, .int .i64 0, .int .i64 0]) ?_ 2 _ rfl; (with_reducible repeat (first | refine blk_drewN ?_ _ | refine blk_drew ?_ | refine blk_alloc ?_ _)); refine blk_put (cs := #[.int .i64 t340, .int .i64 0, .int .i64 0, .int .i64 0]) ?_ 1 _ rfl; (with_reducible repeat (first | refine blk_drewN ?_ _ | refine blk_drew ?_ | refine blk_alloc ?_ _)); refine blk_put (cs := #[.int .i64 0, .int .i64 0, .int .i64 0, .int .i64 0]) ?_ 0 _ rfl; (with_reducible repeat (first | refine blk_drewN ?_ _ | refine blk_drew ?_ | refine blk_alloc ?_ _)); exact BK345.out)) : gb346 ≠ gb345)); have n8_ := Aside0.mk ((by rw [hg]; exact Nat.ne_of_lt (IsS53.lt (show IsS53 w _ g339 t337 t344 from by repeat (first | (with_reducible first | exact HI339.out | apply IsS53.alloc | apply IsS53.drewN | apply IsS53.drew | apply IsS53.set_1 | refine IsS53.far ?_ NB339_345.out _) | exact HI339.out))) : g339 ≠ gb346)); have n9_ := Aside0.mk ((by rw [hg]; exact Nat.ne_of_gt (IsS53.lt (show IsS53 w _ g339 t337 t344 from by repeat (first | (with_reducible first | exact HI339.out | apply IsS53.alloc | apply IsS53.drewN | apply IsS53.drew | apply IsS53.set_1 | refine IsS53.far ?_ NB339_345.out _) | exact HI339.out))) : gb346 ≠ g339)); clear HI339 BK345 HB; have HI339 := n0_; have BK345 := n1_; have HB := n2_; have BK346 := n3_; have GW346 := n4_; have GE346 := n5_; have NB345_346 := n6_; have NB346_345 := n7_; have NB339_346 := n8_; have NB346_339 := n9_; clear n0_ n1_ n2_ n3_ n4_ n5_ n6_ n7_ n8_ n9_ hb hbox hg; have hnb22 := NB346_345.out; have hnc22 := NB345_346.out; have hnb23 := NB346_339.out; have hnc23 := NB339_346.out; have hcz24_0 : w21.cell? ⟨gb346, 0, none⟩ = some (.int .i64 0) := (blk_cell BK346.out 0).trans rfl; have hcz24_1 : w21.cell? ⟨gb346, 1, none⟩ = some (.int .i64 0) := (blk_cell BK346.out 1).trans rfl; have hcz24_2 : w21.cell? ⟨gb346, 2, none⟩ = some (.int .i64 0) := (blk_cell BK346.out 2).trans rfl; have hcz24_3 : w21.cell? ⟨gb346, 3, none⟩ = some (.int .i64 0) := (blk_cell BK346.out 3).trans rfl; have hfz24_0 := blk_frozen BK346.out 0; have hfz24_1 := blk_frozen BK346.out 1; have hfz24_2 := blk_frozen BK346.out 2; have hfz24_3 := blk_frozen BK346.out 3))
    have n0_ : Aside0 (((((w21.setCell ⟨gb346, 0, none⟩ (.int .i64 t340)).setCell ⟨gb346, 1, none⟩ (.int .i64 t341)).setCell ⟨gb346, 2, none⟩ (.int .i64 t342)).setCell ⟨gb346, 3, none⟩ (.int .i64 t343)).heap[gb345]? = some (.cells #[.int .i64 t340, .int .i64 t341, .int .i64 t342, .int .i64 t343] 24 (0, 0))) := ⟨by (with_reducible repeat (first | refine blk_drewN ?_ _ | refine blk_drew ?_ | refine blk_alloc ?_ _)); refine blk_far ?_ NB345_346.out _; (with_reducible repeat (first | refine blk_drewN ?_ _ | refine blk_drew ?_ | refine blk_alloc ?_ _)); refine blk_far ?_ NB345_346.out _; (with_reducible repeat (first | refine blk_drewN ?_ _ | refine blk_drew ?_ | refine blk_alloc ?_ _)); refine blk_far ?_ NB345_346.out _; (with_reducible repeat (first | refine blk_drewN ?_ _ | refine blk_drew ?_ | refine blk_alloc ?_ _)); refine blk_far ?_ NB345_346.out _; (with_reducible repeat (first | refine blk_drewN ?_ _ | refine blk_drew ?_ | refine blk_alloc ?_ _)); exact BK345.out⟩
    have n1_ : Aside0 (((((w21.setCell ⟨gb346, 0, none⟩ (.int .i64 t340)).setCell ⟨gb346, 1, none⟩ (.int .i64 t341)).setCell ⟨gb346, 2, none⟩ (.int .i64 t342)).setCell ⟨gb346, 3, none⟩ (.int .i64 t343)).heap[gb346]? = some (.cells #[.int .i64 t340, .int .i64 t341, .int .i64 t342, .int .i64 t343] 24 (0, 0))) := ⟨by (with_reducible repeat (first | refine blk_drewN ?_ _ | refine blk_drew ?_ | refine blk_alloc ?_ _)); refine blk_put (cs := #[.int .i64 t340, .int .i64 t341, .int .i64 t342, .int .i64 0]) ?_ 3 _ rfl; (with_reducible repeat (first | refine blk_drewN ?_ _ | refine blk_drew ?_ | refine blk_alloc ?_ _)); refine blk_put (cs := #[.int .i64 t340, .int .i64 t341, .int .i64 0, .int .i64 0]) ?_ 2 _ rfl; (with_reducible repeat (first | refine blk_drewN ?_ _ | refine blk_drew ?_ | refine blk_alloc ?_ _)); refine blk_put (cs := #[.int .i64 t340, .int .i64 0, .int .i64 0, .int .i64 0]) ?_ 1 _ rfl; (with_reducible repeat (first | refine blk_drewN ?_ _ | refine blk_drew ?_ | refine blk_alloc ?_ _)); refine blk_put (cs := #[.int .i64 0, .int .i64 0, .int .i64 0, .int .i64 0]) ?_ 0 _ rfl; (with_reducible repeat (first | refine blk_drewN ?_ _ | refine blk_drew ?_ | refine blk_alloc ?_ _)); exact BK346.out⟩
    have n2_ : Aside0 (IsS53 w ((((w21.setCell ⟨gb346, 0, none⟩ (.int .i64 t340)).setCell ⟨gb346, 1, none⟩ (.int .i64 t341)).setCell ⟨gb346, 2, none⟩ (.int .i64 t342)).setCell ⟨gb346, 3, none⟩ (.int .i64 t343)) g339 t337 t344) := ⟨by repeat (first | (with_reducible first | exact HI339.out | apply IsS53.alloc | apply IsS53.drewN | apply IsS53.drew | apply IsS53.set_1 | refine IsS53.far ?_ NB339_345.out _ | refine IsS53.far ?_ NB339_346.out _) | exact HI339.out)⟩
    have n3_ : Aside0 (Below w.heap.size w ((((w21.setCell ⟨gb346, 0, none⟩ (.int .i64 t340)).setCell ⟨gb346, 1, none⟩ (.int .i64 t341)).setCell ⟨gb346, 2, none⟩ (.int .i64 t342)).setCell ⟨gb346, 3, none⟩ (.int .i64 t343))) := ⟨by repeat (first | (with_reducible first | exact HB.out | apply below_alloc | apply pw_below_drewN | apply below_drew1 | refine below_set ?_ (IsS53.ge HI339.out) | refine below_set ?_ GE345.out | refine below_set ?_ GE346.out) | exact HB.out)⟩
    (try clear BK345)
    (try clear BK346)
    (try clear HI339)
    (try clear HB)
    generalize ((((w21.setCell ⟨gb346, 0, none⟩ (.int .i64 t340)).setCell ⟨gb346, 1, none⟩ (.int .i64 t341)).setCell ⟨gb346, 2, none⟩ (.int .i64 t342)).setCell ⟨gb346, 3, none⟩ (.int .i64 t343)) = w25 at n0_ n1_ n2_ n3_ ⊢
    have BK345 := n0_
    have BK346 := n1_
    have HI339 := n2_
    have HB := n3_
    clear n0_ n1_ n2_ n3_
    have n0_ := Aside0.mk (blk_drew BK345.out)
    have n1_ := Aside0.mk (blk_drew BK346.out)
    have n2_ := Aside0.mk (IsS53.drew HI339.out)
    have n3_ := Aside0.mk (below_drew1 HB.out)
    clear BK345 BK346 HI339 HB
    have BK345 := n0_
    have BK346 := n1_
    have HI339 := n2_
    have HB := n3_
    clear n0_ n1_ n2_ n3_
    refine start_ (n := 18) (S := fun w' => w'.cell? ⟨gb345, 0, none⟩ = some (.int .i64 t340) ∧ w'.cell? ⟨gb345, 1, none⟩ = some (.int .i64 t341) ∧ w'.cell? ⟨gb345, 2, none⟩ = some (.int .i64 t342) ∧ w'.cell? ⟨gb345, 3, none⟩ = some (.int .i64 t343)) (ds := []) #[false, false, false, false, false, false, false, false, false, false, false, false, false, false, false, false, false, false] (by kernel_rfl) rfl rfl ⟨(blk_cell BK345.out 0).trans rfl, (blk_cell BK345.out 1).trans rfl, (blk_cell BK345.out 2).trans rfl, (blk_cell BK345.out 3).trans rfl⟩ (fun hHeld => ?_); refine with_tabW awardingbodylaw27_MonitorTolerance.tab5 awardingbodylaw27_MonitorTolerance.bits5 (fun HT_ HW_ => ?_)
    generalize w25.drew = w26 at BK345 BK346 HI339 HB hHeld ⊢
    refine pure_ (i := 0) (N := some 38) (v := ?_) (a' := ?_) #[true, false, false, false, false, false, false, false, false, false, false, false, false, false, false, false, false, false] rfl rfl (any_of HT_.out (by kernel_rfl)) (fun _ _ _ h => h) (Or.inl ⟨by rfl, ?_⟩) ?_ ?_
    rotate_left
    ·intro w'
     go_simp
     with_reducible rfl
    rotate_left
    ·simp only [Act.put, List.setIfInBounds_toArray, List.set_cons_zero, List.set_cons_succ, i64_w, i32_w]
     rfl
    refine pure_ (i := 2) (N := some 40) (v := ?_) (a' := ?_) #[true, false, true, false, false, false, false, false, false, false, false, false, false, false, false, false, false, false] rfl rfl (any_of HT_.out (by kernel_rfl)) (fun _ _ _ h => h) (Or.inl ⟨by rfl, ?_⟩) ?_ ?_
    rotate_left
    ·intro w'
     go_simp
     with_reducible rfl
    rotate_left
    ·simp only [Act.put, List.setIfInBounds_toArray, List.set_cons_zero, List.set_cons_succ, i64_w, i32_w]
     rfl
    refine pure_ (i := 3) (N := some 41) (v := ?_) (a' := ?_) #[true, false, true, true, false, false, false, false, false, false, false, false, false, false, false, false, false, false] rfl rfl (any_of HT_.out (by kernel_rfl)) (fun _ _ _ h => h) (Or.inl ⟨by rfl, ?_⟩) ?_ ?_
    rotate_left
    ·intro w'
     go_simp
     with_reducible rfl
    rotate_left
    ·simp only [Act.put, List.setIfInBounds_toArray, List.set_cons_zero, List.set_cons_succ, i64_w, i32_w]
     rfl
    refine pure_ (i := 4) (N := some 42) (v := ?_) (a' := ?_) #[true, false, true, true, true, false, false, false, false, false, false, false, false, false, false, false, false, false] rfl rfl (any_of HT_.out (by kernel_rfl)) (fun _ _ _ h => h) (Or.inl ⟨by rfl, ?_⟩) ?_ ?_
    rotate_left
    ·intro w'
     go_simp
     with_reducible rfl
    rotate_left
    ·simp only [Act.put, List.setIfInBounds_toArray, List.set_cons_zero, List.set_cons_succ, i64_w, i32_w]
     rfl
    refine pure_ (i := 7) (N := some 45) (v := ?_) (a' := ?_) #[true, false, true, true, true, false, false, true, false, false, false, false, false, false, false, false, false, false] rfl rfl (any_of HT_.out (by kernel_rfl)) (fun _ _ _ h => h) (Or.inl ⟨by rfl, ?_⟩) ?_ ?_
    rotate_left
    ·intro w'
     go_simp
     with_reducible rfl
    rotate_left
    ·simp only [Act.put, List.setIfInBounds_toArray, List.set_cons_zero, List.set_cons_succ, i64_w, i32_w]
     rfl
    refine pure_ (i := 9) (N := some 47) (v := ?_) (a' := ?_) #[true, false, true, true, true, false, false, true, false, true, false, false, false, false, false, false, false, false] rfl rfl (any_of HT_.out (by kernel_rfl)) (fun _ _ _ h => h) (Or.inl ⟨by rfl, ?_⟩) ?_ ?_
    rotate_left
    ·intro w'
     go_simp
     with_reducible rfl
    rotate_left
    ·simp only [Act.put, List.setIfInBounds_toArray, List.set_cons_zero, List.set_cons_succ, i64_w, i32_w]
     rfl
    refine pure_ (i := 10) (N := some 48) (v := ?_) (a' := ?_) #[true, false, true, true, true, false, false, true, false, true, true, false, false, false, false, false, false, false] rfl rfl (any_of HT_.out (by kernel_rfl)) (fun _ _ _ h => h) (Or.inl ⟨by rfl, ?_⟩) ?_ ?_
    rotate_left
    ·intro w'
     go_simp
     with_reducible rfl
    rotate_left
    ·simp only [Act.put, List.setIfInBounds_toArray, List.set_cons_zero, List.set_cons_succ, i64_w, i32_w]
     rfl
    refine pure_ (i := 11) (N := some 49) (v := ?_) (a' := ?_) #[true, false, true, true, true, false, false, true, false, true, true, true, false, false, false, false, false, false] rfl rfl (any_of HT_.out (by kernel_rfl)) (fun _ _ _ h => h) (Or.inl ⟨by rfl, ?_⟩) ?_ ?_
    rotate_left
    ·intro w'
     go_simp
     with_reducible rfl
    rotate_left
    ·simp only [Act.put, List.setIfInBounds_toArray, List.set_cons_zero, List.set_cons_succ, i64_w, i32_w]
     rfl
    refine take_ (i := 1) (N := some 39) (v := ?_) (a' := ?_) #[true, true, true, true, true, false, false, true, false, true, true, true, false, false, false, false, false, false] rfl rfl (take_ofW HT_.out HW_.out (by kernel_rfl)) (fun _ _ _ h => h) (Or.inl ⟨by rfl, ?_⟩) hHeld ?_ ?_
    rotate_left
    ·rintro w' ⟨s0, s1, s2, s3⟩
     go_simp
     with_reducible rfl
    rotate_left
    ·simp only [Act.put, List.setIfInBounds_toArray, List.set_cons_zero, List.set_cons_succ, i64_w, i32_w]
     rfl
    refine pure_ (i := 5) (N := some 43) (v := ?_) (a' := ?_) #[true, true, true, true, true, true, false, true, false, true, true, true, false, false, false, false, false, false] rfl rfl (any_of HT_.out (by kernel_rfl)) (fun _ _ _ h => h) (Or.inl ⟨by rfl, ?_⟩) ?_ ?_
    rotate_left
    ·intro w'
     go_simp
     with_reducible rfl
    rotate_left
    ·simp only [Act.put, List.setIfInBounds_toArray, List.set_cons_zero, List.set_cons_succ, i64_w, i32_w]
     rfl
    refine pure_ (i := 6) (N := some 44) (v := ?_) (a' := ?_) #[true, true, true, true, true, true, true, true, false, true, true, true, false, false, false, false, false, false] rfl rfl (any_of HT_.out (by kernel_rfl)) (fun _ _ _ h => h) (Or.inl ⟨by rfl, ?_⟩) ?_ ?_
    rotate_left
    ·intro w'
     go_simp
     with_reducible rfl
    rotate_left
    ·simp only [Act.put, List.setIfInBounds_toArray, List.set_cons_zero, List.set_cons_succ, i64_w, i32_w]
     rfl
    refine pure_ (i := 14) (N := some 52) (v := ?_) (a' := ?_) #[true, true, true, true, true, true, true, true, false, true, true, true, false, false, true, false, false, false] rfl rfl (any_of HT_.out (by kernel_rfl)) (fun _ _ _ h => h) (Or.inl ⟨by rfl, ?_⟩) ?_ ?_
    rotate_left
    ·intro w'
     go_simp
     with_reducible rfl
    rotate_left
    ·simp only [Act.put, List.setIfInBounds_toArray, List.set_cons_zero, List.set_cons_succ, i64_w, i32_w]
     rfl
    refine take_ (i := 8) (N := some 46) (v := ?_) (a' := ?_) #[true, true, true, true, true, true, true, true, true, true, true, true, false, false, true, false, false, false] rfl rfl (take_ofW HT_.out HW_.out (by kernel_rfl)) (fun _ _ _ h => h) (Or.inl ⟨by rfl, ?_⟩) hHeld ?_ ?_
    rotate_left
    ·rintro w' ⟨s0, s1, s2, s3⟩
     go_simp
     with_reducible rfl
    rotate_left
    ·simp only [Act.put, List.setIfInBounds_toArray, List.set_cons_zero, List.set_cons_succ, i64_w, i32_w]
     rfl
    refine pure_ (i := 12) (N := some 50) (v := ?_) (a' := ?_) #[true, true, true, true, true, true, true, true, true, true, true, true, true, false, true, false, false, false] rfl rfl (any_of HT_.out (by kernel_rfl)) (fun _ _ _ h => h) (Or.inl ⟨by rfl, ?_⟩) ?_ ?_
    rotate_left
    ·intro w'
     go_simp
     with_reducible rfl
    rotate_left
    ·simp only [Act.put, List.setIfInBounds_toArray, List.set_cons_zero, List.set_cons_succ, i64_w, i32_w]
     rfl
    refine pure_ (i := 13) (N := some 51) (v := ?_) (a' := ?_) #[true, true, true, true, true, true, true, true, true, true, true, true, true, true, true, false, false, false] rfl rfl (any_of HT_.out (by kernel_rfl)) (fun _ _ _ h => h) (Or.inl ⟨by rfl, ?_⟩) ?_ ?_
    rotate_left
    ·intro w'
     go_simp
     with_reducible rfl
    rotate_left
    ·simp only [Act.put, List.setIfInBounds_toArray, List.set_cons_zero, List.set_cons_succ, i64_w, i32_w]
     rfl
    refine one_ (i := 15) (N := none) #[true, true, true, true, true, true, true, true, true, true, true, true, true, true, true, true, false, false] rfl rfl (one_of HT_.out (by kernel_rfl)) (by decide) (fun K hK => ?_)
    have hs27 : w26.cell? ⟨gb346, 0, none⟩ = some (.int .i64 t340) := (blk_cell BK346.out 0).trans rfl
    have hfs27 := blk_frozen BK346.out 0
    have hns27_0 := NB345_346.out
    have hms27_0 := NB346_345.out
    refine skip_ (w1 := ?_) (by rfl) rfl ?_ ?_
    rotate_left
    ·go_simp
     rfl
    refine hK.out _ _ ⟨((cell_far (p := ⟨gb346, _, none⟩) NB345_346.out _).trans (hHeld.1)), ((cell_far (p := ⟨gb346, _, none⟩) NB345_346.out _).trans (hHeld.2.1)), ((cell_far (p := ⟨gb346, _, none⟩) NB345_346.out _).trans (hHeld.2.2.1)), ((cell_far (p := ⟨gb346, _, none⟩) NB345_346.out _).trans (hHeld.2.2.2))⟩ (fun hHeld => ?_)
    clear hK K
    refine pure_ (i := 16) (N := some 53) (v := ?_) (a' := ?_) #[true, true, true, true, true, true, true, true, true, true, true, true, true, true, true, true, true, false] rfl rfl (any_of HT_.out (by kernel_rfl)) (fun _ _ _ h => h) (Or.inl ⟨by rfl, ?_⟩) ?_ ?_
    rotate_left
    ·intro w'
     go_simp
     with_reducible rfl
    rotate_left
    ·simp only [Act.put, List.setIfInBounds_toArray, List.set_cons_zero, List.set_cons_succ, i64_w, i32_w]
     rfl
    refine one_ (i := 17) (N := none) #[true, true, true, true, true, true, true, true, true, true, true, true, true, true, true, true, true, true] rfl rfl (one_of HT_.out (by kernel_rfl)) (by decide) (fun K hK => ?_)
    have hs28 : w26.cell? ⟨gb346, 1, none⟩ = some (.int .i64 t341) := (blk_cell BK346.out 1).trans rfl
    have hfs28 := blk_frozen BK346.out 1
    have hns28_0 := NB345_346.out
    have hms28_0 := NB346_345.out
    refine skip_ (w1 := ?_) (by rfl) rfl ?_ ?_
    rotate_left
    ·go_simp
     rfl
    refine hK.out _ _ ⟨((cell_far (p := ⟨gb346, _, none⟩) NB345_346.out _).trans (hHeld.1)), ((cell_far (p := ⟨gb346, _, none⟩) NB345_346.out _).trans (hHeld.2.1)), ((cell_far (p := ⟨gb346, _, none⟩) NB345_346.out _).trans (hHeld.2.2.1)), ((cell_far (p := ⟨gb346, _, none⟩) NB345_346.out _).trans (hHeld.2.2.2))⟩ (fun hHeld => ?_)
    clear hK K
    refine done_ (done_of HT_.out (by kernel_rfl)) ?_
    try go_wp2
    go_loopg [11, 12, 56] kj4 (fun kq v11 v12 v56 w' => ∃ (x11_2 : List Int) (x12_2 : List Int) (x56_2 : Int), v56 = .int .i64 x56_2 ∧ Aside0 (awardingbodylaw27_MonitorTolerance.l0 kq l1 l2 x11_2 x12_2 (l1.length : Int) x56_2 t340 t341 t342 t343 ji14 ji15 t342 t343 = some r) ∧ Aside0 (kq ≤ kj4) ∧ Aside0 (Kd.R (Kd.int .i64) 3 w' w.heap.size (fun k_ => some k_ ≠ (v12 : Value).ownBlock) v11 x11_2) ∧ Aside0 (Kd.R (Kd.int .i64) 3 w' w.heap.size (fun k_ => some k_ ≠ (v11 : Value).ownBlock) v12 x12_2) ∧ Aside0 (w'.heap[gb345]? = some (.cells #[.int .i64 t340, .int .i64 t341, .int .i64 t342, .int .i64 t343] 24 (0, 0))) ∧ Aside0 (w'.heap[gb346]? = some (.cells #[.int .i64 ji14, .int .i64 ji15, .int .i64 t342, .int .i64 t343] 24 (0, 0))) ∧ Aside0 (Below w.heap.size w w'))
    case atStart => exact ⟨(([] : List Int)), (([] : List Int)), (0), (by first | rfl | (simp; done) | (simp [*]; done)), H', ⟨Nat.le_refl _⟩, ⟨by first | exact Kd.R_nil _ _ _ _ _ | exact Kd.N_nil _ _ _ _ _ | exact Kd.V_nil _ _ _ _ _ | exact Kd.Q_nil _ _ _ _ _ | exact Kd.S_nil _ _ _ _ _⟩, ⟨by first | exact Kd.R_nil _ _ _ _ _ | exact Kd.N_nil _ _ _ _ _ | exact Kd.V_nil _ _ _ _ _ | exact Kd.Q_nil _ _ _ _ _ | exact Kd.S_nil _ _ _ _ _⟩, ⟨by (with_reducible repeat (first | refine blk_drewN ?_ _ | refine blk_drew ?_ | refine blk_alloc ?_ _)); refine blk_far ?_ NB345_346.out _; (with_reducible repeat (first | refine blk_drewN ?_ _ | refine blk_drew ?_ | refine blk_alloc ?_ _)); refine blk_far ?_ NB345_346.out _; (with_reducible repeat (first | refine blk_drewN ?_ _ | refine blk_drew ?_ | refine blk_alloc ?_ _)); exact BK345.out⟩, ⟨by (with_reducible repeat (first | refine blk_drewN ?_ _ | refine blk_drew ?_ | refine blk_alloc ?_ _)); refine blk_put (cs := #[.int .i64 ji14, .int .i64 t341, .int .i64 t342, .int .i64 t343]) ?_ 1 _ rfl; (with_reducible repeat (first | refine blk_drewN ?_ _ | refine blk_drew ?_ | refine blk_alloc ?_ _)); refine blk_put (cs := #[.int .i64 t340, .int .i64 t341, .int .i64 t342, .int .i64 t343]) ?_ 0 _ rfl; (with_reducible repeat (first | refine blk_drewN ?_ _ | refine blk_drew ?_ | refine blk_alloc ?_ _)); exact BK346.out⟩, ⟨by repeat (first | (with_reducible first | exact HB.out | apply below_alloc | apply pw_below_drewN | apply below_drew1 | refine below_set ?_ (IsS53.ge HI339.out) | refine below_set ?_ GE345.out | refine below_set ?_ GE346.out) | exact HB.out)⟩⟩
    case round =>
     clear H'
     try clear c1
     try clear c2
     try clear p2
     try clear c6
     try clear p6
     try clear c7
     try clear c8
     try clear c8b0
     try clear c8b1
     try clear c9
     try clear c10
     try clear c11
     try clear c19
     try clear c22
     try clear c23
     try clear hcz20_0
     try clear hcz20_1
     try clear hcz20_2
     try clear hcz20_3
     try clear hcz24_0
     try clear hcz24_1
     try clear hcz24_2
     try clear hcz24_3
     try clear hfz20_0
     try clear hfz20_1
     try clear hfz20_2
     try clear hfz20_3
     try clear hfz24_0
     try clear hfz24_1
     try clear hfz24_2
     try clear hfz24_3
     try clear p2
     obtain ⟨x11_2, x12_2, x56_2, rfl, HA, HK2, HO_11, HO_12, BK345, BK346, HB⟩ := hrel
     cases gk with
     | zero => exact absurd HA.out (by simp [awardingbodylaw27_MonitorTolerance.l0])
     | succ k2 =>
      have H := HA.out
      clear HA
      simp only [awardingbodylaw27_MonitorTolerance.l0] at H
      by_cases c29 : x56_2 < (l1.length : Int)
      ·rw [if_pos c29] at H
       have c29b0 : decide (x56_2 < (l1.length : Int)) = true := decide_eq_true c29
       clear c29
       by_cases c30 : 0 ≤ x56_2
       ·rw [if_pos c30] at H
        have c30b0 : decide (0 ≤ x56_2) = true := decide_eq_true c30
        clear c30
        by_cases c31 : x56_2 < (l1.length : Int)
        ·rw [if_pos c31] at H
         have c31b0 : decide (x56_2 < (l1.length : Int)) = true := decide_eq_true c31
         clear c31
         obtain ⟨y348, hy348⟩ : ∃ y_ : List Int, y_ = (([wrap64 (Int.tmod (rd l1 x56_2) 9)] : List Int)) := ⟨_, rfl⟩
         replace H : (if x11_2.length + y348.length < 17592186044416 then (if x56_2 < (l2.length : Int) then ((some (([wrap64 (Int.tmod (rd l2 x56_2) 9)] : List Int) : List Int)).bind fun y355 => (if x12_2.length + y355.length < 17592186044416 then (awardingbodylaw27_MonitorTolerance.l0 k2 l1 l2 (x11_2 ++ y348) (x12_2 ++ y355) (l1.length : Int) (wrap64 (x56_2 + 1)) t340 t341 t342 t343 ji14 ji15 t342 t343) else (none))) else (none)) else (none)) = some r := by first | (rw [hy348]; with_reducible exact H) | (have H2_ := (Option.bind_some _ _).symm.trans H; rw [hy348]; with_reducible exact H2_) | (have H2_ := (Option.bind_some _ _).symm.trans H; with_reducible exact H2_) | with_reducible exact H | (rw [hy348]; exact H) | exact H
         have Ny348 := Aside0.mk hy348
         clear hy348
         by_cases c32 : x11_2.length + y348.length < 17592186044416
         ·rw [if_pos c32] at H
          have LMc32 := Aside0.mk c32
          clear c32
          obtain ⟨y351, hy351⟩ : ∃ y_ : List Int, y_ = (x11_2 ++ y348) := ⟨_, rfl⟩
          replace H : (if x56_2 < (l2.length : Int) then ((some (([wrap64 (Int.tmod (rd l2 x56_2) 9)] : List Int) : List Int)).bind fun y355 => (if x12_2.length + y355.length < 17592186044416 then (awardingbodylaw27_MonitorTolerance.l0 k2 l1 l2 y351 (x12_2 ++ y355) (l1.length : Int) (wrap64 (x56_2 + 1)) t340 t341 t342 t343 ji14 ji15 t342 t343) else (none))) else (none)) = some r := by first | (rw [hy351]; with_reducible exact H) | (have H2_ := (Option.bind_some _ _).symm.trans H; rw [hy351]; with_reducible exact H2_) | (have H2_ := (Option.bind_some _ _).symm.trans H; with_reducible exact H2_) | with_reducible exact H | (rw [hy351]; exact H) | exact H
          have Ny351 := Aside0.mk hy351
          clear hy351
          by_cases c33 : x56_2 < (l2.length : Int)
          ·rw [if_pos c33] at H
           have c33b0 : decide (x56_2 < (l2.length : Int)) = true := decide_eq_true c33
           clear c33
           obtain ⟨y355, hy355⟩ : ∃ y_ : List Int, y_ = (([wrap64 (Int.tmod (rd l2 x56_2) 9)] : List Int)) := ⟨_, rfl⟩
           replace H : (if x12_2.length + y355.length < 17592186044416 then (awardingbodylaw27_MonitorTolerance.l0 k2 l1 l2 y351 (x12_2 ++ y355) (l1.length : Int) (wrap64 (x56_2 + 1)) t340 t341 t342 t343 ji14 ji15 t342 t343) else (none)) = some r := by first | (rw [hy355]; with_reducible exact H) | (have H2_ := (Option.bind_some _ _).symm.trans H; rw [hy355]; with_reducible exact H2_) | (have H2_ := (Option.bind_some _ _).symm.trans H; with_reducible exact H2_) | with_reducible exact H | (rw [hy355]; exact H) | exact H
           have Ny355 := Aside0.mk hy355
           clear hy355
           by_cases c34 : x12_2.length + y355.length < 17592186044416
           ·rw [if_pos c34] at H
            have LMc34 := Aside0.mk c34
            clear c34
            obtain ⟨y358, hy358⟩ : ∃ y_ : List Int, y_ = (x12_2 ++ y355) := ⟨_, rfl⟩
            replace H : (awardingbodylaw27_MonitorTolerance.l0 k2 l1 l2 y351 y358 (l1.length : Int) (wrap64 (x56_2 + 1)) t340 t341 t342 t343 ji14 ji15 t342 t343) = some r := by first | (rw [hy358]; with_reducible exact H) | (have H2_ := (Option.bind_some _ _).symm.trans H; rw [hy358]; with_reducible exact H2_) | (have H2_ := (Option.bind_some _ _).symm.trans H; with_reducible exact H2_) | with_reducible exact H | (rw [hy358]; exact H) | exact H
            have Ny358 := Aside0.mk hy358
            clear hy358
            have H' := Aside0.mk H
            clear H
            obtain ⟨Ao35, co35, eo35⟩ := Kd.R_slice HO_11.out
            subst eo35
            obtain ⟨Ao36, co36, eo36⟩ := Kd.R_slice HO_12.out
            subst eo36
            try go_wp2
            have n0_ := Aside0.mk (Kd.R_drew HO_11.out)
            have n1_ := Aside0.mk (Kd.R_drew HO_12.out)
            have n2_ := Aside0.mk (blk_drew BK345.out)
            have n3_ := Aside0.mk (blk_drew BK346.out)
            have n4_ := Aside0.mk (below_drew1 HB.out)
            clear HO_11 HO_12 BK345 BK346 HB
            have HO_11 := n0_
            have HO_12 := n1_
            have BK345 := n2_
            have BK346 := n3_
            have HB := n4_
            clear n0_ n1_ n2_ n3_ n4_
            have p347 : 0 ≤ (x56_2 : Int) := of_decide_eq_true (by first | (with_reducible assumption) | assumption)
            have q347 : x56_2 < (l1.length : Int) := of_decide_eq_true (by first | (with_reducible assumption) | assumption)
            obtain ⟨ad347, e347, hx347_0⟩ := Kd.at_int HR1.out x56_2 p347 q347
            have hw347_0 := hx347_0
            cases e347
            replace hx347_0 := (HB.out.cell (World.block_lt_of_cell? w _ hx347_0)).trans hx347_0
            replace p347 := eq_true p347
            replace q347 := eq_true q347
            have p354 : 0 ≤ (x56_2 : Int) := of_decide_eq_true (by first | (with_reducible assumption) | assumption)
            have q354 : x56_2 < (l2.length : Int) := of_decide_eq_true (by first | (with_reducible assumption) | assumption)
            obtain ⟨ad354, e354, hx354_0⟩ := Kd.at_int HR2.out x56_2 p354 q354
            have hw354_0 := hx354_0
            cases e354
            replace hx354_0 := (HB.out.cell (World.block_lt_of_cell? w _ hx354_0)).trans hx354_0
            replace p354 := eq_true p354
            replace q354 := eq_true q354
            refine start_ (n := 20) (S := fun w' => w'.cell? (ad347.add (x56_2).toNat) = some (.int .u8 (rd l1 x56_2)) ∧ w'.cell? (ad354.add (x56_2).toNat) = some (.int .u8 (rd l2 x56_2))) (ds := []) #[false, false, false, false, false, false, false, false, false, false, false, false, false, false, false, false, false, false, false, false] (by kernel_rfl) rfl rfl ⟨((HB.out.cell (World.block_lt_of_cell? w _ hw347_0)).trans hw347_0), ((HB.out.cell (World.block_lt_of_cell? w _ hw354_0)).trans hw354_0)⟩ (fun hHeld => ?_); refine with_tabW awardingbodylaw27_MonitorTolerance.tab10 awardingbodylaw27_MonitorTolerance.bits10 (fun HT_ HW_ => ?_)
            generalize wr.drew = w37 at HO_11 HO_12 BK345 BK346 HB hx347_0 hx354_0 hHeld ⊢
            refine pure_ (i := 0) (N := some 59) (v := ?_) (a' := ?_) #[true, false, false, false, false, false, false, false, false, false, false, false, false, false, false, false, false, false, false, false] rfl rfl (any_of HT_.out (by kernel_rfl)) (fun _ _ _ h => h) (Or.inl ⟨by rfl, ?_⟩) ?_ ?_
            rotate_left
            ·intro w'
             go_simp
             with_reducible rfl
            rotate_left
            ·simp only [Act.put, List.setIfInBounds_toArray, List.set_cons_zero, List.set_cons_succ, i64_w, i32_w]
             rfl
            refine pure_ (i := 1) (N := some 60) (v := ?_) (a' := ?_) #[true, true, false, false, false, false, false, false, false, false, false, false, false, false, false, false, false, false, false, false] rfl rfl (any_of HT_.out (by kernel_rfl)) (fun _ _ _ h => h) (Or.inl ⟨by rfl, ?_⟩) ?_ ?_
            rotate_left
            ·intro w'
             go_simp
             with_reducible rfl
            rotate_left
            ·simp only [Act.put, List.setIfInBounds_toArray, List.set_cons_zero, List.set_cons_succ, i64_w, i32_w]
             rfl
            refine pure_ (i := 2) (N := some 61) (v := ?_) (a' := ?_) #[true, true, true, false, false, false, false, false, false, false, false, false, false, false, false, false, false, false, false, false] rfl rfl (any_of HT_.out (by kernel_rfl)) (fun _ _ _ h => h) (Or.inl ⟨by rfl, ?_⟩) ?_ ?_
            rotate_left
            ·intro w'
             go_simp
             with_reducible rfl
            rotate_left
            ·simp only [Act.put, List.setIfInBounds_toArray, List.set_cons_zero, List.set_cons_succ, i64_w, i32_w]
             rfl
            refine pure_ (i := 3) (N := some 62) (v := ?_) (a' := ?_) #[true, true, true, true, false, false, false, false, false, false, false, false, false, false, false, false, false, false, false, false] rfl rfl (any_of HT_.out (by kernel_rfl)) (fun _ _ _ h => h) (Or.inl ⟨by rfl, ?_⟩) ?_ ?_
            rotate_left
            ·intro w'
             go_simp
             with_reducible rfl
            rotate_left
            ·simp only [Act.put, List.setIfInBounds_toArray, List.set_cons_zero, List.set_cons_succ, i64_w, i32_w]
             rfl
            refine pure_ (i := 9) (N := some 68) (v := ?_) (a' := ?_) #[true, true, true, true, false, false, false, false, false, true, false, false, false, false, false, false, false, false, false, false] rfl rfl (any_of HT_.out (by kernel_rfl)) (fun _ _ _ h => h) (Or.inl ⟨by rfl, ?_⟩) ?_ ?_
            rotate_left
            ·intro w'
             go_simp
             with_reducible rfl
            rotate_left
            ·simp only [Act.put, List.setIfInBounds_toArray, List.set_cons_zero, List.set_cons_succ, i64_w, i32_w]
             rfl
            refine pure_ (i := 10) (N := some 69) (v := ?_) (a' := ?_) #[true, true, true, true, false, false, false, false, false, true, true, false, false, false, false, false, false, false, false, false] rfl rfl (any_of HT_.out (by kernel_rfl)) (fun _ _ _ h => h) (Or.inl ⟨by rfl, ?_⟩) ?_ ?_
            rotate_left
            ·intro w'
             go_simp
             with_reducible rfl
            rotate_left
            ·simp only [Act.put, List.setIfInBounds_toArray, List.set_cons_zero, List.set_cons_succ, i64_w, i32_w]
             rfl
            refine pure_ (i := 11) (N := some 70) (v := ?_) (a' := ?_) #[true, true, true, true, false, false, false, false, false, true, true, true, false, false, false, false, false, false, false, false] rfl rfl (any_of HT_.out (by kernel_rfl)) (fun _ _ _ h => h) (Or.inl ⟨by rfl, ?_⟩) ?_ ?_
            rotate_left
            ·intro w'
             go_simp
             with_reducible rfl
            rotate_left
            ·simp only [Act.put, List.setIfInBounds_toArray, List.set_cons_zero, List.set_cons_succ, i64_w, i32_w]
             rfl
            refine pure_ (i := 12) (N := some 71) (v := ?_) (a' := ?_) #[true, true, true, true, false, false, false, false, false, true, true, true, true, false, false, false, false, false, false, false] rfl rfl (any_of HT_.out (by kernel_rfl)) (fun _ _ _ h => h) (Or.inl ⟨by rfl, ?_⟩) ?_ ?_
            rotate_left
            ·intro w'
             go_simp
             with_reducible rfl
            rotate_left
            ·simp only [Act.put, List.setIfInBounds_toArray, List.set_cons_zero, List.set_cons_succ, i64_w, i32_w]
             rfl
            refine take_ (i := 4) (N := some 63) (v := ?_) (a' := ?_) #[true, true, true, true, true, false, false, false, false, true, true, true, true, false, false, false, false, false, false, false] rfl rfl (take_ofW HT_.out HW_.out (by kernel_rfl)) (fun _ _ _ h => h) (Or.inl ⟨by rfl, ?_⟩) hHeld ?_ ?_
            rotate_left
            ·rintro w' ⟨s0, s1⟩
             go_simp
             with_reducible rfl
            rotate_left
            ·simp only [Act.put, List.setIfInBounds_toArray, List.set_cons_zero, List.set_cons_succ, i64_w, i32_w]
             rfl
            refine pure_ (i := 5) (N := some 64) (v := ?_) (a' := ?_) #[true, true, true, true, true, true, false, false, false, true, true, true, true, false, false, false, false, false, false, false] rfl rfl (any_of HT_.out (by kernel_rfl)) (fun _ _ _ h => h) (Or.inl ⟨by rfl, ?_⟩) ?_ ?_
            rotate_left
            ·intro w'
             go_simp
             with_reducible rfl
            rotate_left
            ·simp only [Act.put, List.setIfInBounds_toArray, List.set_cons_zero, List.set_cons_succ, i64_w, i32_w]
             rfl
            refine pure_ (i := 6) (N := some 65) (v := ?_) (a' := ?_) #[true, true, true, true, true, true, true, false, false, true, true, true, true, false, false, false, false, false, false, false] rfl rfl (any_of HT_.out (by kernel_rfl)) (fun _ _ _ h => h) (Or.inl ⟨by rfl, ?_⟩) ?_ ?_
            rotate_left
            ·intro w'
             go_simp
             with_reducible rfl
            rotate_left
            ·simp only [Act.put, List.setIfInBounds_toArray, List.set_cons_zero, List.set_cons_succ, i64_w, i32_w]
             rfl
            refine take_ (i := 13) (N := some 72) (v := ?_) (a' := ?_) #[true, true, true, true, true, true, true, false, false, true, true, true, true, true, false, false, false, false, false, false] rfl rfl (take_ofW HT_.out HW_.out (by kernel_rfl)) (fun _ _ _ h => h) (Or.inl ⟨by rfl, ?_⟩) hHeld ?_ ?_
            rotate_left
            ·rintro w' ⟨s0, s1⟩
             go_simp
             with_reducible rfl
            rotate_left
            ·simp only [Act.put, List.setIfInBounds_toArray, List.set_cons_zero, List.set_cons_succ, i64_w, i32_w]
             rfl
            refine pure_ (i := 14) (N := some 73) (v := ?_) (a' := ?_) #[true, true, true, true, true, true, true, false, false, true, true, true, true, true, true, false, false, false, false, false] rfl rfl (any_of HT_.out (by kernel_rfl)) (fun _ _ _ h => h) (Or.inl ⟨by rfl, ?_⟩) ?_ ?_
            rotate_left
            ·intro w'
             go_simp
             with_reducible rfl
            rotate_left
            ·simp only [Act.put, List.setIfInBounds_toArray, List.set_cons_zero, List.set_cons_succ, i64_w, i32_w]
             rfl
            refine pure_ (i := 15) (N := some 74) (v := ?_) (a' := ?_) #[true, true, true, true, true, true, true, false, false, true, true, true, true, true, true, true, false, false, false, false] rfl rfl (any_of HT_.out (by kernel_rfl)) (fun _ _ _ h => h) (Or.inl ⟨by rfl, ?_⟩) ?_ ?_
            rotate_left
            ·intro w'
             go_simp
             with_reducible rfl
            rotate_left
            ·simp only [Act.put, List.setIfInBounds_toArray, List.set_cons_zero, List.set_cons_succ, i64_w, i32_w]
             rfl
            refine join_ (σ := Value × Value × Value) 3 #[true, true, true, true, true, true, true, true, true, true, true, true, true, true, true, true, true, false, false, false] (fun s_ => [(66, s_.1), (67, s_.2.1), (75, s_.2.2)]) (fun s_ w' => (w'.cell? (ad347.add (x56_2).toNat) = some (.int .u8 (rd l1 x56_2)) ∧ w'.cell? (ad354.add (x56_2).toNat) = some (.int .u8 (rd l2 x56_2))) ∧ (Kd.R (Kd.int .i64) 3 w' w.heap.size (fun k_ => some k_ ≠ (s_.2.1 : Value).ownBlock ∧ some k_ ≠ (s_.2.2 : Value).ownBlock ∧ some k_ ≠ (.slice Ao36 x12_2.length co36 : Value).ownBlock) s_.1 y348) ∧ (Kd.R (Kd.int .i64) 3 w' w.heap.size (fun k_ => some k_ ≠ (s_.1 : Value).ownBlock ∧ some k_ ≠ (s_.2.2 : Value).ownBlock ∧ some k_ ≠ (.slice Ao36 x12_2.length co36 : Value).ownBlock) s_.2.1 y351) ∧ (Kd.R (Kd.int .i64) 3 w' w.heap.size (fun k_ => some k_ ≠ (s_.1 : Value).ownBlock ∧ some k_ ≠ (s_.2.1 : Value).ownBlock ∧ some k_ ≠ (.slice Ao36 x12_2.length co36 : Value).ownBlock) s_.2.2 y355) ∧ (Kd.R (Kd.int .i64) 3 w' w.heap.size (fun k_ => some k_ ≠ (s_.1 : Value).ownBlock ∧ some k_ ≠ (s_.2.1 : Value).ownBlock ∧ some k_ ≠ (s_.2.2 : Value).ownBlock) (.slice Ao36 x12_2.length co36) x12_2) ∧ (w'.heap[gb345]? = some (.cells #[.int .i64 t340, .int .i64 t341, .int .i64 t342, .int .i64 t343] 24 (0, 0))) ∧ (w'.heap[gb346]? = some (.cells #[.int .i64 ji14, .int .i64 ji15, .int .i64 t342, .int .i64 t343] 24 (0, 0))) ∧ (Below w.heap.size w w')) ?_ ?_
            rotate_left
            ·intro hCont
             refine two_ (i := 7) (j := 16) (Ni := some 66) (Nj := some 75) #[true, true, true, true, true, true, true, true, false, true, true, true, true, true, true, true, false, false, false, false] #[true, true, true, true, true, true, true, false, false, true, true, true, true, true, true, true, true, false, false, false] rfl rfl rfl rfl (two_of HT_.out (by kernel_rfl)) (by decide) (by decide) (fun K hK => ?_) (fun K hK => ?_)
             ·skip
              refine Kd.R_lit_step (Kd.int .i64) _ 3 ?hg (N := 66) ?hd (xs := ([wrap64 (Int.tmod (rd l1 x56_2) 9)] : List Int)) (inner := [.int .i64 (wrap64 (Int.tmod (rd l1 x56_2) 9))]) (ok := fun _ => True) (okp := fun _ => True) ?hr ?hp (fun _ hk => hk) trivial (Below.refl _ _) (Nat.le_refl _) (by simp) ?_; (case hd => rfl); (case hg => rfl); (case hr => first | (go_simp; done) | (go_simp; rfl)); (case hp => exact (Reps.one (show Kd.M (Kd.int .i64) _ _ _ (wrap64 (Int.tmod (rd l1 x56_2) 9)) [.int .i64 (wrap64 (Int.tmod (rd l1 x56_2) 9))] from rfl) (Reps.none _ _)))
              intro v349 w38 ho39 hb hg_ hnew_
              clear hg_ hnew_
              (first | rw [← Ny348.out] at ho39 | (simp only [Int.reduceToNat] at ho39; rw [← Ny348.out] at ho39))
              have n0_ := Aside0.mk (Kd.R_elder' (by (with_reducible repeat (first | apply Kd.R_alloc | apply Kd.R_drewN | apply Kd.R_drew)); exact HO_11.out) (Kd.R_base ho39) hb)
              have n1_ := Aside0.mk (Kd.R_elder' (by (with_reducible repeat (first | apply Kd.R_alloc | apply Kd.R_drewN | apply Kd.R_drew)); exact HO_12.out) (Kd.R_base ho39) hb)
              have n2_ := Aside0.mk (Kd.R_lower (Kd.R_new' (Kd.R_new' ho39 (Kd.R_lt (by (with_reducible repeat (first | apply Kd.R_alloc | apply Kd.R_drewN | apply Kd.R_drew)); exact HO_11.out))) (Kd.R_lt (by (with_reducible repeat (first | apply Kd.R_alloc | apply Kd.R_drewN | apply Kd.R_drew)); exact HO_12.out))) (below_size (by repeat (first | (with_reducible first | exact HB.out | apply below_alloc | apply pw_below_drewN | apply below_drew1 | refine below_set ?_ GE345.out | refine below_set ?_ GE346.out) | exact HB.out))))
              have n3_ := Aside0.mk (blk_below (g := gb345) (o := .cells #[.int .i64 t340, .int .i64 t341, .int .i64 t342, .int .i64 t343] 24 (0, 0)) (by (with_reducible repeat (first | refine blk_drewN ?_ _ | refine blk_drew ?_ | refine blk_alloc ?_ _)); exact BK345.out) hb)
              have n4_ := Aside0.mk (blk_below (g := gb346) (o := .cells #[.int .i64 ji14, .int .i64 ji15, .int .i64 t342, .int .i64 t343] 24 (0, 0)) (by (with_reducible repeat (first | refine blk_drewN ?_ _ | refine blk_drew ?_ | refine blk_alloc ?_ _)); exact BK346.out) hb)
              have n5_ := Aside0.mk (below_step (by repeat (first | (with_reducible first | exact HB.out | apply below_alloc | apply pw_below_drewN | apply below_drew1 | refine below_set ?_ GE345.out | refine below_set ?_ GE346.out) | exact HB.out)) hb)
              clear HO_11 HO_12 BK345 BK346 HB
              have HO_11 := n0_
              have HO_12 := n1_
              have HO350 := n2_
              have BK345 := n3_
              have BK346 := n4_
              have HB := n5_
              clear n0_ n1_ n2_ n3_ n4_ n5_ hb ho39
              obtain ⟨Ao41, co41, eo41⟩ := Kd.R_slice HO350.out
              (first | subst eo41 | (injection eo41 with f1_ f2_ f3_; have f4_ := f1_.symm; have f5_ := f3_.symm; clear f1_ f2_ f3_; subst f4_; subst f5_))
              refine hK.out _ _ ⟨((HB.out.cell (World.block_lt_of_cell? w _ hw347_0)).trans hw347_0), ((HB.out.cell (World.block_lt_of_cell? w _ hw354_0)).trans hw354_0)⟩ (fun hHeld => ?_)
              clear hK K
              refine norm_ (a' := ?_) ?_ ?_
              rotate_left
              ·show Act.put _ (some 66) _ = _
               simp only [Act.put, List.setIfInBounds_toArray, List.set_cons_zero, List.set_cons_succ, i64_w, i32_w]
               rfl
              refine two_ (i := 8) (j := 16) (Ni := some 67) (Nj := some 75) #[true, true, true, true, true, true, true, true, true, true, true, true, true, true, true, true, false, false, false, false] #[true, true, true, true, true, true, true, true, false, true, true, true, true, true, true, true, true, false, false, false] rfl rfl rfl rfl (two_of HT_.out (by kernel_rfl)) (by decide) (by decide) (fun K hK => ?_) (fun K hK => ?_)
              ·skip
               refine Kd.R_append_rows_step (Kd.int .i64) (w0 := w) w.heap.size (by rfl) (.tmp 59) (.tmp 66) 22 3 (.int .i64 0) 8 rfl Try.underlying22 info3 rfl (by decide) (by omega) (.slice Ao35 x11_2.length co35) x11_2 y348 _ _ _ (fun k_ => some k_ ≠ (.slice Ao36 x12_2.length co36 : Value).ownBlock ∧ some k_ ≠ (.slice Ao41 y348.length co41 : Value).ownBlock) (fun _ => False) rfl rfl ?aO ?aR (fun _ _ h => h) (fun _ h => h.elim) ?aF ?aB ?aS ?aL ?_
               (case aR => repeat (first | exact (Kd.R_reads' HO350.out).2.2 | (with_reducible refine Kd.C_alloc ?_ _) | (with_reducible refine Kd.C_drewN ?_ _) | (with_reducible refine Kd.C_drew ?_)))
               (case aB => exact (by repeat (first | (with_reducible first | exact HB.out | apply below_alloc | apply pw_below_drewN | apply below_drew1 | refine below_set ?_ GE345.out | refine below_set ?_ GE346.out) | exact HB.out)))
               (case aF => exact (fun k_ hk => ⟨Kd.fresh' (Kd.R_lt (by (with_reducible repeat (first | apply Kd.R_alloc | apply Kd.R_drewN | apply Kd.R_drew)); exact HO_12.out)) k_ hk, Kd.fresh' (Kd.R_lt (by (with_reducible repeat (first | apply Kd.R_alloc | apply Kd.R_drewN | apply Kd.R_drew)); exact HO350.out)) k_ hk⟩))
               (case aO => exact (by (with_reducible repeat (first | apply Kd.R_alloc | apply Kd.R_drewN | apply Kd.R_drew)); exact HO_11.out))
               (case aS => exact (below_size (by repeat (first | (with_reducible first | exact HB.out | apply below_alloc | apply pw_below_drewN | apply below_drew1 | refine below_set ?_ GE345.out | refine below_set ?_ GE346.out) | exact HB.out))))
               (case aL => have := LMc32.out; omega)
               intro v352 w40 ho hb hg hat
               rw [← Ny351.out] at ho
               have HZ_HO_12 : ∀ k_, (.slice Ao36 x12_2.length co36 : Value).ownBlock = some k_ → some k_ ≠ (.slice Ao35 x11_2.length co35 : Value).ownBlock := fun k_ e_ => (HO_12.out.1 k_ e_).1
               have HZ_HO350 : ∀ k_, (.slice Ao41 y348.length co41 : Value).ownBlock = some k_ → some k_ ≠ (.slice Ao35 x11_2.length co35 : Value).ownBlock := fun k_ e_ => (HO350.out.1 k_ e_).1.2
               have n0_ := Aside0.mk (Kd.R_after (ok := (fun k_ => some k_ ≠ (.slice Ao41 y348.length co41 : Value).ownBlock)) (by (with_reducible repeat (first | apply Kd.R_alloc | apply Kd.R_drewN | apply Kd.R_drew)); exact Kd.R_mono HO_12.out (fun _ hk => ⟨hk.2, hk.1⟩)) hg hat)
               have n1_ := Aside0.mk (blk_grown (g := gb345) (o := .cells #[.int .i64 t340, .int .i64 t341, .int .i64 t342, .int .i64 t343] 24 (0, 0)) (by (with_reducible repeat (first | refine blk_drewN ?_ _ | refine blk_drew ?_ | refine blk_alloc ?_ _)); exact BK345.out) hg (Kd.R_ne HO_11.out BK345.out (by decide)))
               have n2_ := Aside0.mk (blk_grown (g := gb346) (o := .cells #[.int .i64 ji14, .int .i64 ji15, .int .i64 t342, .int .i64 t343] 24 (0, 0)) (by (with_reducible repeat (first | refine blk_drewN ?_ _ | refine blk_drew ?_ | refine blk_alloc ?_ _)); exact BK346.out) hg (Kd.R_ne HO_11.out BK346.out (by decide)))
               have n3_ := Aside0.mk (Kd.R_after (ok := (fun k_ => some k_ ≠ (.slice Ao36 x12_2.length co36 : Value).ownBlock)) (by (with_reducible repeat (first | apply Kd.R_alloc | apply Kd.R_drewN | apply Kd.R_drew)); exact Kd.R_mono HO350.out (fun _ hk => ⟨hk.2, hk.1.2⟩)) hg hat)
               have n4_ := Aside0.mk (hb)
               have n5_ := Aside0.mk (ho)
               clear HO_12 BK345 BK346 HO350 HB HO_11
               have HO_12 := n0_
               have BK345 := n1_
               have BK346 := n2_
               have HO350 := n3_
               have HB := n4_
               have HO353 := n5_
               clear n0_ n1_ n2_ n3_ n4_ n5_ ho hb hg hat
               refine hK.out _ _ ⟨((HB.out.cell (World.block_lt_of_cell? w _ hw347_0)).trans hw347_0), ((HB.out.cell (World.block_lt_of_cell? w _ hw354_0)).trans hw354_0)⟩ (fun hHeld => ?_)
               clear hK K
               refine norm_ (a' := ?_) ?_ ?_
               rotate_left
               ·show Act.put _ (some 67) _ = _
                simp only [Act.put, List.setIfInBounds_toArray, List.set_cons_zero, List.set_cons_succ, i64_w, i32_w]
                rfl
               refine one_ (i := 16) (N := some 75) #[true, true, true, true, true, true, true, true, true, true, true, true, true, true, true, true, true, false, false, false] rfl rfl (one_of HT_.out (by kernel_rfl)) (by decide) (fun K hK => ?_)
               refine Kd.R_lit_step (Kd.int .i64) _ 3 ?hg (N := 75) ?hd (xs := ([wrap64 (Int.tmod (rd l2 x56_2) 9)] : List Int)) (inner := [.int .i64 (wrap64 (Int.tmod (rd l2 x56_2) 9))]) (ok := fun _ => True) (okp := fun _ => True) ?hr ?hp (fun _ hk => hk) trivial (Below.refl _ _) (Nat.le_refl _) (by simp) ?_; (case hd => rfl); (case hg => rfl); (case hr => first | (go_simp; done) | (go_simp; rfl)); (case hp => exact (Reps.one (show Kd.M (Kd.int .i64) _ _ _ (wrap64 (Int.tmod (rd l2 x56_2) 9)) [.int .i64 (wrap64 (Int.tmod (rd l2 x56_2) 9))] from rfl) (Reps.none _ _)))
               intro v356 w42 ho43 hb hg_ hnew_
               clear hg_ hnew_
               (first | rw [← Ny355.out] at ho43 | (simp only [Int.reduceToNat] at ho43; rw [← Ny355.out] at ho43))
               have n0_ := Aside0.mk (Kd.R_elder' (by (with_reducible repeat (first | apply Kd.R_alloc | apply Kd.R_drewN | apply Kd.R_drew)); exact HO_12.out) (Kd.R_base ho43) hb)
               have n1_ := Aside0.mk (Kd.R_elder' (by (with_reducible repeat (first | apply Kd.R_alloc | apply Kd.R_drewN | apply Kd.R_drew)); exact HO350.out) (Kd.R_base ho43) hb)
               have n2_ := Aside0.mk (Kd.R_elder' (by (with_reducible repeat (first | apply Kd.R_alloc | apply Kd.R_drewN | apply Kd.R_drew)); exact HO353.out) (Kd.R_base ho43) hb)
               have n3_ := Aside0.mk (Kd.R_lower (Kd.R_new' (Kd.R_new' (Kd.R_new' ho43 (Kd.R_lt (by (with_reducible repeat (first | apply Kd.R_alloc | apply Kd.R_drewN | apply Kd.R_drew)); exact HO_12.out))) (Kd.R_lt (by (with_reducible repeat (first | apply Kd.R_alloc | apply Kd.R_drewN | apply Kd.R_drew)); exact HO350.out))) (Kd.R_lt (by (with_reducible repeat (first | apply Kd.R_alloc | apply Kd.R_drewN | apply Kd.R_drew)); exact HO353.out))) (below_size (by repeat (first | (with_reducible first | exact HB.out | apply below_alloc | apply pw_below_drewN | apply below_drew1 | refine below_set ?_ GE345.out | refine below_set ?_ GE346.out) | exact HB.out))))
               have n4_ := Aside0.mk (blk_below (g := gb345) (o := .cells #[.int .i64 t340, .int .i64 t341, .int .i64 t342, .int .i64 t343] 24 (0, 0)) (by (with_reducible repeat (first | refine blk_drewN ?_ _ | refine blk_drew ?_ | refine blk_alloc ?_ _)); exact BK345.out) hb)
               have n5_ := Aside0.mk (blk_below (g := gb346) (o := .cells #[.int .i64 ji14, .int .i64 ji15, .int .i64 t342, .int .i64 t343] 24 (0, 0)) (by (with_reducible repeat (first | refine blk_drewN ?_ _ | refine blk_drew ?_ | refine blk_alloc ?_ _)); exact BK346.out) hb)
               have n6_ := Aside0.mk (below_step (by repeat (first | (with_reducible first | exact HB.out | apply below_alloc | apply pw_below_drewN | apply below_drew1 | refine below_set ?_ GE345.out | refine below_set ?_ GE346.out) | exact HB.out)) hb)
               clear HO_12 HO350 HO353 BK345 BK346 HB
               have HO_12 := n0_
               have HO350 := n1_
               have HO353 := n2_
               have HO357 := n3_
               have BK345 := n4_
               have BK346 := n5_
               have HB := n6_
               clear n0_ n1_ n2_ n3_ n4_ n5_ n6_ hb ho43
               refine hK.out _ _ ⟨((HB.out.cell (World.block_lt_of_cell? w _ hw347_0)).trans hw347_0), ((HB.out.cell (World.block_lt_of_cell? w _ hw354_0)).trans hw354_0)⟩ (fun hHeld => ?_)
               clear hK K
               refine norm_ (a' := ?_) ?_ ?_
               rotate_left
               ·show Act.put _ (some 75) _ = _
                simp only [Act.put, List.setIfInBounds_toArray, List.set_cons_zero, List.set_cons_succ, i64_w, i32_w]
                rfl
               exact norm_ (by simp only [putAll, Act.put, List.setIfInBounds_toArray, List.set_cons_zero, List.set_cons_succ]) (hCont (.slice Ao41 y348.length co41, v352, v356) _ ⟨hHeld, (by (with_reducible repeat (first | apply Kd.R_alloc | apply Kd.R_drewN | apply Kd.R_drew)); exact Kd.R_mono HO350.out (fun _ hk => ⟨hk.1.2, ⟨hk.2, hk.1.1⟩⟩)), (by (with_reducible repeat (first | apply Kd.R_alloc | apply Kd.R_drewN | apply Kd.R_drew)); exact Kd.R_mono HO353.out (fun _ hk => ⟨hk.1.2, ⟨hk.2, hk.1.1⟩⟩)), (by (with_reducible repeat (first | apply Kd.R_alloc | apply Kd.R_drewN | apply Kd.R_drew)); exact Kd.R_mono HO357.out (fun _ hk => ⟨hk.1.2, ⟨hk.2, hk.1.1.2⟩⟩)), (by (with_reducible repeat (first | apply Kd.R_alloc | apply Kd.R_drewN | apply Kd.R_drew)); exact Kd.R_mono HO_12.out (fun _ hk => ⟨hk.1.1, ⟨hk.1.2, hk.2⟩⟩)), (by (with_reducible repeat (first | refine blk_drewN ?_ _ | refine blk_drew ?_ | refine blk_alloc ?_ _)); exact BK345.out), (by (with_reducible repeat (first | refine blk_drewN ?_ _ | refine blk_drew ?_ | refine blk_alloc ?_ _)); exact BK346.out), (by repeat (first | (with_reducible first | exact HB.out | apply below_alloc | apply pw_below_drewN | apply below_drew1 | refine below_set ?_ GE345.out | refine below_set ?_ GE346.out) | exact HB.out))⟩)
              ·skip
               refine Kd.R_lit_step (Kd.int .i64) _ 3 ?hg (N := 75) ?hd (xs := ([wrap64 (Int.tmod (rd l2 x56_2) 9)] : List Int)) (inner := [.int .i64 (wrap64 (Int.tmod (rd l2 x56_2) 9))]) (ok := fun _ => True) (okp := fun _ => True) ?hr ?hp (fun _ hk => hk) trivial (Below.refl _ _) (Nat.le_refl _) (by simp) ?_; (case hd => rfl); (case hg => rfl); (case hr => first | (go_simp; done) | (go_simp; rfl)); (case hp => exact (Reps.one (show Kd.M (Kd.int .i64) _ _ _ (wrap64 (Int.tmod (rd l2 x56_2) 9)) [.int .i64 (wrap64 (Int.tmod (rd l2 x56_2) 9))] from rfl) (Reps.none _ _)))
               intro v356 w40 ho41 hb hg_ hnew_
               clear hg_ hnew_
               (first | rw [← Ny355.out] at ho41 | (simp only [Int.reduceToNat] at ho41; rw [← Ny355.out] at ho41))
               have n0_ := Aside0.mk (Kd.R_elder' (by (with_reducible repeat (first | apply Kd.R_alloc | apply Kd.R_drewN | apply Kd.R_drew)); exact HO_11.out) (Kd.R_base ho41) hb)
               have n1_ := Aside0.mk (Kd.R_elder' (by (with_reducible repeat (first | apply Kd.R_alloc | apply Kd.R_drewN | apply Kd.R_drew)); exact HO_12.out) (Kd.R_base ho41) hb)
               have n2_ := Aside0.mk (Kd.R_elder' (by (with_reducible repeat (first | apply Kd.R_alloc | apply Kd.R_drewN | apply Kd.R_drew)); exact HO350.out) (Kd.R_base ho41) hb)
               have n3_ := Aside0.mk (Kd.R_lower (Kd.R_new' (Kd.R_new' (Kd.R_new' ho41 (Kd.R_lt (by (with_reducible repeat (first | apply Kd.R_alloc | apply Kd.R_drewN | apply Kd.R_drew)); exact HO_11.out))) (Kd.R_lt (by (with_reducible repeat (first | apply Kd.R_alloc | apply Kd.R_drewN | apply Kd.R_drew)); exact HO_12.out))) (Kd.R_lt (by (with_reducible repeat (first | apply Kd.R_alloc | apply Kd.R_drewN | apply Kd.R_drew)); exact HO350.out))) (below_size (by repeat (first | (with_reducible first | exact HB.out | apply below_alloc | apply pw_below_drewN | apply below_drew1 | refine below_set ?_ GE345.out | refine below_set ?_ GE346.out) | exact HB.out))))
               have n4_ := Aside0.mk (blk_below (g := gb345) (o := .cells #[.int .i64 t340, .int .i64 t341, .int .i64 t342, .int .i64 t343] 24 (0, 0)) (by (with_reducible repeat (first | refine blk_drewN ?_ _ | refine blk_drew ?_ | refine blk_alloc ?_ _)); exact BK345.out) hb)
               have n5_ := Aside0.mk (blk_below (g := gb346) (o := .cells #[.int .i64 ji14, .int .i64 ji15, .int .i64 t342, .int .i64 t343] 24 (0, 0)) (by (with_reducible repeat (first | refine blk_drewN ?_ _ | refine blk_drew ?_ | refine blk_alloc ?_ _)); exact BK346.out) hb)
               have n6_ := Aside0.mk (below_step (by repeat (first | (with_reducible first | exact HB.out | apply below_alloc | apply pw_below_drewN | apply below_drew1 | refine below_set ?_ GE345.out | refine below_set ?_ GE346.out) | exact HB.out)) hb)
               clear HO_11 HO_12 HO350 BK345 BK346 HB
               have HO_11 := n0_
               have HO_12 := n1_
               have HO350 := n2_
               have HO357 := n3_
               have BK345 := n4_
               have BK346 := n5_
               have HB := n6_
               clear n0_ n1_ n2_ n3_ n4_ n5_ n6_ hb ho41
               obtain ⟨Ao43, co43, eo43⟩ := Kd.R_slice HO350.out
               (first | subst eo43 | (injection eo43 with f1_ f2_ f3_; have f4_ := f1_.symm; have f5_ := f3_.symm; clear f1_ f2_ f3_; subst f4_; subst f5_))
               refine hK.out _ _ ⟨((HB.out.cell (World.block_lt_of_cell? w _ hw347_0)).trans hw347_0), ((HB.out.cell (World.block_lt_of_cell? w _ hw354_0)).trans hw354_0)⟩ (fun hHeld => ?_)
               clear hK K
               refine norm_ (a' := ?_) ?_ ?_
               rotate_left
               ·show Act.put _ (some 75) _ = _
                simp only [Act.put, List.setIfInBounds_toArray, List.set_cons_zero, List.set_cons_succ, i64_w, i32_w]
                rfl
               refine one_ (i := 8) (N := some 67) #[true, true, true, true, true, true, true, true, true, true, true, true, true, true, true, true, true, false, false, false] rfl rfl (one_of HT_.out (by kernel_rfl)) (by decide) (fun K hK => ?_)
               refine Kd.R_append_rows_step (Kd.int .i64) (w0 := w) w.heap.size (by rfl) (.tmp 59) (.tmp 66) 22 3 (.int .i64 0) 8 rfl Try.underlying22 info3 rfl (by decide) (by omega) (.slice Ao35 x11_2.length co35) x11_2 y348 _ _ _ (fun k_ => some k_ ≠ (.slice Ao36 x12_2.length co36 : Value).ownBlock ∧ some k_ ≠ (.slice Ao43 y348.length co43 : Value).ownBlock ∧ some k_ ≠ (v356 : Value).ownBlock) (fun _ => False) rfl rfl ?aO ?aR (fun _ _ h => h) (fun _ h => h.elim) ?aF ?aB ?aS ?aL ?_
               (case aR => repeat (first | exact (Kd.R_reads' HO350.out).2.2 | (with_reducible refine Kd.C_alloc ?_ _) | (with_reducible refine Kd.C_drewN ?_ _) | (with_reducible refine Kd.C_drew ?_)))
               (case aB => exact (by repeat (first | (with_reducible first | exact HB.out | apply below_alloc | apply pw_below_drewN | apply below_drew1 | refine below_set ?_ GE345.out | refine below_set ?_ GE346.out) | exact HB.out)))
               (case aF => exact (fun k_ hk => ⟨Kd.fresh' (Kd.R_lt (by (with_reducible repeat (first | apply Kd.R_alloc | apply Kd.R_drewN | apply Kd.R_drew)); exact HO_12.out)) k_ hk, Kd.fresh' (Kd.R_lt (by (with_reducible repeat (first | apply Kd.R_alloc | apply Kd.R_drewN | apply Kd.R_drew)); exact HO350.out)) k_ hk, Kd.fresh' (Kd.R_lt (by (with_reducible repeat (first | apply Kd.R_alloc | apply Kd.R_drewN | apply Kd.R_drew)); exact HO357.out)) k_ hk⟩))
               (case aO => exact (by (with_reducible repeat (first | apply Kd.R_alloc | apply Kd.R_drewN | apply Kd.R_drew)); exact Kd.R_mono HO_11.out (fun _ hk => ⟨hk.1.1, ⟨hk.1.2, hk.2⟩⟩)))
               (case aS => exact (below_size (by repeat (first | (with_reducible first | exact HB.out | apply below_alloc | apply pw_below_drewN | apply below_drew1 | refine below_set ?_ GE345.out | refine below_set ?_ GE346.out) | exact HB.out))))
               (case aL => have := LMc32.out; omega)
               intro v352 w42 ho hb hg hat
               rw [← Ny351.out] at ho
               have HZ_HO_12 : ∀ k_, (.slice Ao36 x12_2.length co36 : Value).ownBlock = some k_ → some k_ ≠ (.slice Ao35 x11_2.length co35 : Value).ownBlock := fun k_ e_ => (HO_12.out.1 k_ e_).1.1
               have HZ_HO350 : ∀ k_, (.slice Ao43 y348.length co43 : Value).ownBlock = some k_ → some k_ ≠ (.slice Ao35 x11_2.length co35 : Value).ownBlock := fun k_ e_ => (HO350.out.1 k_ e_).1.1.2
               have HZ_HO357 : ∀ k_, (v356 : Value).ownBlock = some k_ → some k_ ≠ (.slice Ao35 x11_2.length co35 : Value).ownBlock := fun k_ e_ => (HO357.out.1 k_ e_).1.1.2
               have n0_ := Aside0.mk (Kd.R_after (ok := (fun k_ => some k_ ≠ (.slice Ao43 y348.length co43 : Value).ownBlock ∧ some k_ ≠ (v356 : Value).ownBlock)) (by (with_reducible repeat (first | apply Kd.R_alloc | apply Kd.R_drewN | apply Kd.R_drew)); exact Kd.R_mono HO_12.out (fun _ hk => ⟨⟨hk.1.2, hk.2⟩, hk.1.1⟩)) hg hat)
               have n1_ := Aside0.mk (blk_grown (g := gb345) (o := .cells #[.int .i64 t340, .int .i64 t341, .int .i64 t342, .int .i64 t343] 24 (0, 0)) (by (with_reducible repeat (first | refine blk_drewN ?_ _ | refine blk_drew ?_ | refine blk_alloc ?_ _)); exact BK345.out) hg (Kd.R_ne HO_11.out BK345.out (by decide)))
               have n2_ := Aside0.mk (blk_grown (g := gb346) (o := .cells #[.int .i64 ji14, .int .i64 ji15, .int .i64 t342, .int .i64 t343] 24 (0, 0)) (by (with_reducible repeat (first | refine blk_drewN ?_ _ | refine blk_drew ?_ | refine blk_alloc ?_ _)); exact BK346.out) hg (Kd.R_ne HO_11.out BK346.out (by decide)))
               have n3_ := Aside0.mk (Kd.R_after (ok := (fun k_ => some k_ ≠ (.slice Ao36 x12_2.length co36 : Value).ownBlock ∧ some k_ ≠ (v356 : Value).ownBlock)) (by (with_reducible repeat (first | apply Kd.R_alloc | apply Kd.R_drewN | apply Kd.R_drew)); exact Kd.R_mono HO350.out (fun _ hk => ⟨⟨hk.1.2, hk.2⟩, hk.1.1.2⟩)) hg hat)
               have n4_ := Aside0.mk (Kd.R_after (ok := (fun k_ => some k_ ≠ (.slice Ao36 x12_2.length co36 : Value).ownBlock ∧ some k_ ≠ (.slice Ao43 y348.length co43 : Value).ownBlock)) (by (with_reducible repeat (first | apply Kd.R_alloc | apply Kd.R_drewN | apply Kd.R_drew)); exact Kd.R_mono HO357.out (fun _ hk => ⟨⟨hk.1.2, hk.2⟩, hk.1.1.2⟩)) hg hat)
               have n5_ := Aside0.mk (hb)
               have n6_ := Aside0.mk (ho)
               clear HO_12 BK345 BK346 HO350 HO357 HB HO_11
               have HO_12 := n0_
               have BK345 := n1_
               have BK346 := n2_
               have HO350 := n3_
               have HO357 := n4_
               have HB := n5_
               have HO353 := n6_
               clear n0_ n1_ n2_ n3_ n4_ n5_ n6_ ho hb hg hat
               refine hK.out _ _ ⟨((HB.out.cell (World.block_lt_of_cell? w _ hw347_0)).trans hw347_0), ((HB.out.cell (World.block_lt_of_cell? w _ hw354_0)).trans hw354_0)⟩ (fun hHeld => ?_)
               clear hK K
               refine norm_ (a' := ?_) ?_ ?_
               rotate_left
               ·show Act.put _ (some 67) _ = _
                simp only [Act.put, List.setIfInBounds_toArray, List.set_cons_zero, List.set_cons_succ, i64_w, i32_w]
                rfl
               exact norm_ (by simp only [putAll, Act.put, List.setIfInBounds_toArray, List.set_cons_zero, List.set_cons_succ]) (hCont (.slice Ao43 y348.length co43, v352, v356) _ ⟨hHeld, (by (with_reducible repeat (first | apply Kd.R_alloc | apply Kd.R_drewN | apply Kd.R_drew)); exact Kd.R_mono HO350.out (fun _ hk => ⟨hk.2, ⟨hk.1.2, hk.1.1⟩⟩)), (by (with_reducible repeat (first | apply Kd.R_alloc | apply Kd.R_drewN | apply Kd.R_drew)); exact Kd.R_mono HO353.out (fun _ hk => ⟨hk.2.1, ⟨hk.2.2, hk.1⟩⟩)), (by (with_reducible repeat (first | apply Kd.R_alloc | apply Kd.R_drewN | apply Kd.R_drew)); exact Kd.R_mono HO357.out (fun _ hk => ⟨hk.1.2, ⟨hk.2, hk.1.1⟩⟩)), (by (with_reducible repeat (first | apply Kd.R_alloc | apply Kd.R_drewN | apply Kd.R_drew)); exact Kd.R_mono HO_12.out (fun _ hk => ⟨hk.1.1, ⟨hk.2, hk.1.2⟩⟩)), (by (with_reducible repeat (first | refine blk_drewN ?_ _ | refine blk_drew ?_ | refine blk_alloc ?_ _)); exact BK345.out), (by (with_reducible repeat (first | refine blk_drewN ?_ _ | refine blk_drew ?_ | refine blk_alloc ?_ _)); exact BK346.out), (by repeat (first | (with_reducible first | exact HB.out | apply below_alloc | apply pw_below_drewN | apply below_drew1 | refine below_set ?_ GE345.out | refine below_set ?_ GE346.out) | exact HB.out))⟩)
             ·skip
              refine Kd.R_lit_step (Kd.int .i64) _ 3 ?hg (N := 75) ?hd (xs := ([wrap64 (Int.tmod (rd l2 x56_2) 9)] : List Int)) (inner := [.int .i64 (wrap64 (Int.tmod (rd l2 x56_2) 9))]) (ok := fun _ => True) (okp := fun _ => True) ?hr ?hp (fun _ hk => hk) trivial (Below.refl _ _) (Nat.le_refl _) (by simp) ?_; (case hd => rfl); (case hg => rfl); (case hr => first | (go_simp; done) | (go_simp; rfl)); (case hp => exact (Reps.one (show Kd.M (Kd.int .i64) _ _ _ (wrap64 (Int.tmod (rd l2 x56_2) 9)) [.int .i64 (wrap64 (Int.tmod (rd l2 x56_2) 9))] from rfl) (Reps.none _ _)))
              intro v356 w38 ho39 hb hg_ hnew_
              clear hg_ hnew_
              (first | rw [← Ny355.out] at ho39 | (simp only [Int.reduceToNat] at ho39; rw [← Ny355.out] at ho39))
              have n0_ := Aside0.mk (Kd.R_elder' (by (with_reducible repeat (first | apply Kd.R_alloc | apply Kd.R_drewN | apply Kd.R_drew)); exact HO_11.out) (Kd.R_base ho39) hb)
              have n1_ := Aside0.mk (Kd.R_elder' (by (with_reducible repeat (first | apply Kd.R_alloc | apply Kd.R_drewN | apply Kd.R_drew)); exact HO_12.out) (Kd.R_base ho39) hb)
              have n2_ := Aside0.mk (Kd.R_lower (Kd.R_new' (Kd.R_new' ho39 (Kd.R_lt (by (with_reducible repeat (first | apply Kd.R_alloc | apply Kd.R_drewN | apply Kd.R_drew)); exact HO_11.out))) (Kd.R_lt (by (with_reducible repeat (first | apply Kd.R_alloc | apply Kd.R_drewN | apply Kd.R_drew)); exact HO_12.out))) (below_size (by repeat (first | (with_reducible first | exact HB.out | apply below_alloc | apply pw_below_drewN | apply below_drew1 | refine below_set ?_ GE345.out | refine below_set ?_ GE346.out) | exact HB.out))))
              have n3_ := Aside0.mk (blk_below (g := gb345) (o := .cells #[.int .i64 t340, .int .i64 t341, .int .i64 t342, .int .i64 t343] 24 (0, 0)) (by (with_reducible repeat (first | refine blk_drewN ?_ _ | refine blk_drew ?_ | refine blk_alloc ?_ _)); exact BK345.out) hb)
              have n4_ := Aside0.mk (blk_below (g := gb346) (o := .cells #[.int .i64 ji14, .int .i64 ji15, .int .i64 t342, .int .i64 t343] 24 (0, 0)) (by (with_reducible repeat (first | refine blk_drewN ?_ _ | refine blk_drew ?_ | refine blk_alloc ?_ _)); exact BK346.out) hb)
              have n5_ := Aside0.mk (below_step (by repeat (first | (with_reducible first | exact HB.out | apply below_alloc | apply pw_below_drewN | apply below_drew1 | refine below_set ?_ GE345.out | refine below_set ?_ GE346.out) | exact HB.out)) hb)
              clear HO_11 HO_12 BK345 BK346 HB
              have HO_11 := n0_
              have HO_12 := n1_
              have HO357 := n2_
              have BK345 := n3_
              have BK346 := n4_
              have HB := n5_
              clear n0_ n1_ n2_ n3_ n4_ n5_ hb ho39
              refine hK.out _ _ ⟨((HB.out.cell (World.block_lt_of_cell? w _ hw347_0)).trans hw347_0), ((HB.out.cell (World.block_lt_of_cell? w _ hw354_0)).trans hw354_0)⟩ (fun hHeld => ?_)
              clear hK K
              refine norm_ (a' := ?_) ?_ ?_
              rotate_left
              ·show Act.put _ (some 75) _ = _
               simp only [Act.put, List.setIfInBounds_toArray, List.set_cons_zero, List.set_cons_succ, i64_w, i32_w]
               rfl
              refine one_ (i := 7) (N := some 66) #[true, true, true, true, true, true, true, true, false, true, true, true, true, true, true, true, true, false, false, false] rfl rfl (one_of HT_.out (by kernel_rfl)) (by decide) (fun K hK => ?_)
              refine Kd.R_lit_step (Kd.int .i64) _ 3 ?hg (N := 66) ?hd (xs := ([wrap64 (Int.tmod (rd l1 x56_2) 9)] : List Int)) (inner := [.int .i64 (wrap64 (Int.tmod (rd l1 x56_2) 9))]) (ok := fun _ => True) (okp := fun _ => True) ?hr ?hp (fun _ hk => hk) trivial (Below.refl _ _) (Nat.le_refl _) (by simp) ?_; (case hd => rfl); (case hg => rfl); (case hr => first | (go_simp; done) | (go_simp; rfl)); (case hp => exact (Reps.one (show Kd.M (Kd.int .i64) _ _ _ (wrap64 (Int.tmod (rd l1 x56_2) 9)) [.int .i64 (wrap64 (Int.tmod (rd l1 x56_2) 9))] from rfl) (Reps.none _ _)))
              intro v349 w40 ho41 hb hg_ hnew_
              clear hg_ hnew_
              (first | rw [← Ny348.out] at ho41 | (simp only [Int.reduceToNat] at ho41; rw [← Ny348.out] at ho41))
              have n0_ := Aside0.mk (Kd.R_elder' (by (with_reducible repeat (first | apply Kd.R_alloc | apply Kd.R_drewN | apply Kd.R_drew)); exact HO_11.out) (Kd.R_base ho41) hb)
              have n1_ := Aside0.mk (Kd.R_elder' (by (with_reducible repeat (first | apply Kd.R_alloc | apply Kd.R_drewN | apply Kd.R_drew)); exact HO_12.out) (Kd.R_base ho41) hb)
              have n2_ := Aside0.mk (Kd.R_elder' (by (with_reducible repeat (first | apply Kd.R_alloc | apply Kd.R_drewN | apply Kd.R_drew)); exact HO357.out) (Kd.R_base ho41) hb)
              have n3_ := Aside0.mk (Kd.R_lower (Kd.R_new' (Kd.R_new' (Kd.R_new' ho41 (Kd.R_lt (by (with_reducible repeat (first | apply Kd.R_alloc | apply Kd.R_drewN | apply Kd.R_drew)); exact HO_11.out))) (Kd.R_lt (by (with_reducible repeat (first | apply Kd.R_alloc | apply Kd.R_drewN | apply Kd.R_drew)); exact HO_12.out))) (Kd.R_lt (by (with_reducible repeat (first | apply Kd.R_alloc | apply Kd.R_drewN | apply Kd.R_drew)); exact HO357.out))) (below_size (by repeat (first | (with_reducible first | exact HB.out | apply below_alloc | apply pw_below_drewN | apply below_drew1 | refine below_set ?_ GE345.out | refine below_set ?_ GE346.out) | exact HB.out))))
              have n4_ := Aside0.mk (blk_below (g := gb345) (o := .cells #[.int .i64 t340, .int .i64 t341, .int .i64 t342, .int .i64 t343] 24 (0, 0)) (by (with_reducible repeat (first | refine blk_drewN ?_ _ | refine blk_drew ?_ | refine blk_alloc ?_ _)); exact BK345.out) hb)
              have n5_ := Aside0.mk (blk_below (g := gb346) (o := .cells #[.int .i64 ji14, .int .i64 ji15, .int .i64 t342, .int .i64 t343] 24 (0, 0)) (by (with_reducible repeat (first | refine blk_drewN ?_ _ | refine blk_drew ?_ | refine blk_alloc ?_ _)); exact BK346.out) hb)
              have n6_ := Aside0.mk (below_step (by repeat (first | (with_reducible first | exact HB.out | apply below_alloc | apply pw_below_drewN | apply below_drew1 | refine below_set ?_ GE345.out | refine below_set ?_ GE346.out) | exact HB.out)) hb)
              clear HO_11 HO_12 HO357 BK345 BK346 HB
              have HO_11 := n0_
              have HO_12 := n1_
              have HO357 := n2_
              have HO350 := n3_
              have BK345 := n4_
              have BK346 := n5_
              have HB := n6_
              clear n0_ n1_ n2_ n3_ n4_ n5_ n6_ hb ho41
              obtain ⟨Ao43, co43, eo43⟩ := Kd.R_slice HO350.out
              (first | subst eo43 | (injection eo43 with f1_ f2_ f3_; have f4_ := f1_.symm; have f5_ := f3_.symm; clear f1_ f2_ f3_; subst f4_; subst f5_))
              refine hK.out _ _ ⟨((HB.out.cell (World.block_lt_of_cell? w _ hw347_0)).trans hw347_0), ((HB.out.cell (World.block_lt_of_cell? w _ hw354_0)).trans hw354_0)⟩ (fun hHeld => ?_)
              clear hK K
              refine norm_ (a' := ?_) ?_ ?_
              rotate_left
              ·show Act.put _ (some 66) _ = _
               simp only [Act.put, List.setIfInBounds_toArray, List.set_cons_zero, List.set_cons_succ, i64_w, i32_w]
               rfl
              refine one_ (i := 8) (N := some 67) #[true, true, true, true, true, true, true, true, true, true, true, true, true, true, true, true, true, false, false, false] rfl rfl (one_of HT_.out (by kernel_rfl)) (by decide) (fun K hK => ?_)
              refine Kd.R_append_rows_step (Kd.int .i64) (w0 := w) w.heap.size (by rfl) (.tmp 59) (.tmp 66) 22 3 (.int .i64 0) 8 rfl Try.underlying22 info3 rfl (by decide) (by omega) (.slice Ao35 x11_2.length co35) x11_2 y348 _ _ _ (fun k_ => some k_ ≠ (.slice Ao36 x12_2.length co36 : Value).ownBlock ∧ some k_ ≠ (v356 : Value).ownBlock ∧ some k_ ≠ (.slice Ao43 y348.length co43 : Value).ownBlock) (fun _ => False) rfl rfl ?aO ?aR (fun _ _ h => h) (fun _ h => h.elim) ?aF ?aB ?aS ?aL ?_
              (case aR => repeat (first | exact (Kd.R_reads' HO350.out).2.2 | (with_reducible refine Kd.C_alloc ?_ _) | (with_reducible refine Kd.C_drewN ?_ _) | (with_reducible refine Kd.C_drew ?_)))
              (case aB => exact (by repeat (first | (with_reducible first | exact HB.out | apply below_alloc | apply pw_below_drewN | apply below_drew1 | refine below_set ?_ GE345.out | refine below_set ?_ GE346.out) | exact HB.out)))
              (case aF => exact (fun k_ hk => ⟨Kd.fresh' (Kd.R_lt (by (with_reducible repeat (first | apply Kd.R_alloc | apply Kd.R_drewN | apply Kd.R_drew)); exact HO_12.out)) k_ hk, Kd.fresh' (Kd.R_lt (by (with_reducible repeat (first | apply Kd.R_alloc | apply Kd.R_drewN | apply Kd.R_drew)); exact HO357.out)) k_ hk, Kd.fresh' (Kd.R_lt (by (with_reducible repeat (first | apply Kd.R_alloc | apply Kd.R_drewN | apply Kd.R_drew)); exact HO350.out)) k_ hk⟩))
              (case aO => exact (by (with_reducible repeat (first | apply Kd.R_alloc | apply Kd.R_drewN | apply Kd.R_drew)); exact Kd.R_mono HO_11.out (fun _ hk => ⟨hk.1.1, ⟨hk.1.2, hk.2⟩⟩)))
              (case aS => exact (below_size (by repeat (first | (with_reducible first | exact HB.out | apply below_alloc | apply pw_below_drewN | apply below_drew1 | refine below_set ?_ GE345.out | refine below_set ?_ GE346.out) | exact HB.out))))
              (case aL => have := LMc32.out; omega)
              intro v352 w42 ho hb hg hat
              rw [← Ny351.out] at ho
              have HZ_HO_12 : ∀ k_, (.slice Ao36 x12_2.length co36 : Value).ownBlock = some k_ → some k_ ≠ (.slice Ao35 x11_2.length co35 : Value).ownBlock := fun k_ e_ => (HO_12.out.1 k_ e_).1.1
              have HZ_HO357 : ∀ k_, (v356 : Value).ownBlock = some k_ → some k_ ≠ (.slice Ao35 x11_2.length co35 : Value).ownBlock := fun k_ e_ => (HO357.out.1 k_ e_).1.1.2
              have HZ_HO350 : ∀ k_, (.slice Ao43 y348.length co43 : Value).ownBlock = some k_ → some k_ ≠ (.slice Ao35 x11_2.length co35 : Value).ownBlock := fun k_ e_ => (HO350.out.1 k_ e_).1.1.2
              have n0_ := Aside0.mk (Kd.R_after (ok := (fun k_ => some k_ ≠ (v356 : Value).ownBlock ∧ some k_ ≠ (.slice Ao43 y348.length co43 : Value).ownBlock)) (by (with_reducible repeat (first | apply Kd.R_alloc | apply Kd.R_drewN | apply Kd.R_drew)); exact Kd.R_mono HO_12.out (fun _ hk => ⟨⟨hk.1.2, hk.2⟩, hk.1.1⟩)) hg hat)
              have n1_ := Aside0.mk (blk_grown (g := gb345) (o := .cells #[.int .i64 t340, .int .i64 t341, .int .i64 t342, .int .i64 t343] 24 (0, 0)) (by (with_reducible repeat (first | refine blk_drewN ?_ _ | refine blk_drew ?_ | refine blk_alloc ?_ _)); exact BK345.out) hg (Kd.R_ne HO_11.out BK345.out (by decide)))
              have n2_ := Aside0.mk (blk_grown (g := gb346) (o := .cells #[.int .i64 ji14, .int .i64 ji15, .int .i64 t342, .int .i64 t343] 24 (0, 0)) (by (with_reducible repeat (first | refine blk_drewN ?_ _ | refine blk_drew ?_ | refine blk_alloc ?_ _)); exact BK346.out) hg (Kd.R_ne HO_11.out BK346.out (by decide)))
              have n3_ := Aside0.mk (Kd.R_after (ok := (fun k_ => some k_ ≠ (.slice Ao36 x12_2.length co36 : Value).ownBlock ∧ some k_ ≠ (.slice Ao43 y348.length co43 : Value).ownBlock)) (by (with_reducible repeat (first | apply Kd.R_alloc | apply Kd.R_drewN | apply Kd.R_drew)); exact Kd.R_mono HO357.out (fun _ hk => ⟨⟨hk.1.2, hk.2⟩, hk.1.1.2⟩)) hg hat)
              have n4_ := Aside0.mk (Kd.R_after (ok := (fun k_ => some k_ ≠ (.slice Ao36 x12_2.length co36 : Value).ownBlock ∧ some k_ ≠ (v356 : Value).ownBlock)) (by (with_reducible repeat (first | apply Kd.R_alloc | apply Kd.R_drewN | apply Kd.R_drew)); exact Kd.R_mono HO350.out (fun _ hk => ⟨⟨hk.1.2, hk.2⟩, hk.1.1.2⟩)) hg hat)
              have n5_ := Aside0.mk (hb)
              have n6_ := Aside0.mk (ho)
              clear HO_12 BK345 BK346 HO357 HO350 HB HO_11
              have HO_12 := n0_
              have BK345 := n1_
              have BK346 := n2_
              have HO357 := n3_
              have HO350 := n4_
              have HB := n5_
              have HO353 := n6_
              clear n0_ n1_ n2_ n3_ n4_ n5_ n6_ ho hb hg hat
              refine hK.out _ _ ⟨((HB.out.cell (World.block_lt_of_cell? w _ hw347_0)).trans hw347_0), ((HB.out.cell (World.block_lt_of_cell? w _ hw354_0)).trans hw354_0)⟩ (fun hHeld => ?_)
              clear hK K
              refine norm_ (a' := ?_) ?_ ?_
              rotate_left
              ·show Act.put _ (some 67) _ = _
               simp only [Act.put, List.setIfInBounds_toArray, List.set_cons_zero, List.set_cons_succ, i64_w, i32_w]
               rfl
              exact norm_ (by simp only [putAll, Act.put, List.setIfInBounds_toArray, List.set_cons_zero, List.set_cons_succ]) (hCont (.slice Ao43 y348.length co43, v352, v356) _ ⟨hHeld, (by (with_reducible repeat (first | apply Kd.R_alloc | apply Kd.R_drewN | apply Kd.R_drew)); exact Kd.R_mono HO350.out (fun _ hk => ⟨hk.2, ⟨hk.1.2, hk.1.1⟩⟩)), (by (with_reducible repeat (first | apply Kd.R_alloc | apply Kd.R_drewN | apply Kd.R_drew)); exact Kd.R_mono HO353.out (fun _ hk => ⟨hk.2.2, ⟨hk.2.1, hk.1⟩⟩)), (by (with_reducible repeat (first | apply Kd.R_alloc | apply Kd.R_drewN | apply Kd.R_drew)); exact Kd.R_mono HO357.out (fun _ hk => ⟨hk.1.2, ⟨hk.2, hk.1.1⟩⟩)), (by (with_reducible repeat (first | apply Kd.R_alloc | apply Kd.R_drewN | apply Kd.R_drew)); exact Kd.R_mono HO_12.out (fun _ hk => ⟨hk.1.2, ⟨hk.2, hk.1.1⟩⟩)), (by (with_reducible repeat (first | refine blk_drewN ?_ _ | refine blk_drew ?_ | refine blk_alloc ?_ _)); exact BK345.out), (by (with_reducible repeat (first | refine blk_drewN ?_ _ | refine blk_drew ?_ | refine blk_alloc ?_ _)); exact BK346.out), (by repeat (first | (with_reducible first | exact HB.out | apply below_alloc | apply pw_below_drewN | apply below_drew1 | refine below_set ?_ GE345.out | refine below_set ?_ GE346.out) | exact HB.out))⟩)
            rintro ⟨v349, v352, v356⟩ w44 ⟨hS_, h0_, h1_, h2_, h3_, h4_, h5_, h6_⟩
            have n0_ : Aside0 (Kd.R (Kd.int .i64) 3 w44 w.heap.size (fun k_ => some k_ ≠ (v352 : Value).ownBlock ∧ some k_ ≠ (v356 : Value).ownBlock ∧ some k_ ≠ (.slice Ao36 x12_2.length co36 : Value).ownBlock) v349 y348) := ⟨h0_⟩
            have n1_ : Aside0 (Kd.R (Kd.int .i64) 3 w44 w.heap.size (fun k_ => some k_ ≠ (v349 : Value).ownBlock ∧ some k_ ≠ (v356 : Value).ownBlock ∧ some k_ ≠ (.slice Ao36 x12_2.length co36 : Value).ownBlock) v352 y351) := ⟨h1_⟩
            have n2_ : Aside0 (Kd.R (Kd.int .i64) 3 w44 w.heap.size (fun k_ => some k_ ≠ (v349 : Value).ownBlock ∧ some k_ ≠ (v352 : Value).ownBlock ∧ some k_ ≠ (.slice Ao36 x12_2.length co36 : Value).ownBlock) v356 y355) := ⟨h2_⟩
            have n3_ : Aside0 (Kd.R (Kd.int .i64) 3 w44 w.heap.size (fun k_ => some k_ ≠ (v349 : Value).ownBlock ∧ some k_ ≠ (v352 : Value).ownBlock ∧ some k_ ≠ (v356 : Value).ownBlock) (.slice Ao36 x12_2.length co36) x12_2) := ⟨h3_⟩
            have n4_ : Aside0 (w44.heap[gb345]? = some (.cells #[.int .i64 t340, .int .i64 t341, .int .i64 t342, .int .i64 t343] 24 (0, 0))) := ⟨h4_⟩
            have n5_ : Aside0 (w44.heap[gb346]? = some (.cells #[.int .i64 ji14, .int .i64 ji15, .int .i64 t342, .int .i64 t343] 24 (0, 0))) := ⟨h5_⟩
            have n6_ : Aside0 (Below w.heap.size w w44) := ⟨h6_⟩
            clear HO_11 HO_12 BK345 BK346 HB h0_ h1_ h2_ h3_ h4_ h5_ h6_
            have HO350 := n0_
            have HO353 := n1_
            have HO357 := n2_
            have HO_12 := n3_
            have BK345 := n4_
            have BK346 := n5_
            have HB := n6_
            clear n0_ n1_ n2_ n3_ n4_ n5_ n6_
            have hHeld : w44.cell? (ad347.add (x56_2).toNat) = some (.int .u8 (rd l1 x56_2)) ∧ w44.cell? (ad354.add (x56_2).toNat) = some (.int .u8 (rd l2 x56_2)) := hS_
            obtain ⟨Ao46, co46, eo46⟩ := Kd.R_slice HO357.out
            (first | subst eo46 | (injection eo46 with f1_ f2_ f3_; have f4_ := f1_.symm; have f5_ := f3_.symm; clear f1_ f2_ f3_; subst f4_; subst f5_))
            refine norm_ (a' := ?_) ?_ ?_
            rotate_left
            ·simp only [putAll, Act.put, List.setIfInBounds_toArray, List.set_cons_zero, List.set_cons_succ]
             rfl
            refine one_ (i := 17) (N := some 76) #[true, true, true, true, true, true, true, true, true, true, true, true, true, true, true, true, true, true, false, false] rfl rfl (one_of HT_.out (by kernel_rfl)) (by decide) (fun K hK => ?_)
            refine Kd.R_append_rows_step (Kd.int .i64) (w0 := w) w.heap.size (by rfl) (.tmp 68) (.tmp 75) 22 3 (.int .i64 0) 8 rfl Try.underlying22 info3 rfl (by decide) (by omega) (.slice Ao36 x12_2.length co36) x12_2 y355 _ _ _ (fun k_ => some k_ ≠ (v349 : Value).ownBlock ∧ some k_ ≠ (v352 : Value).ownBlock ∧ some k_ ≠ (.slice Ao46 y355.length co46 : Value).ownBlock) (fun _ => False) rfl rfl ?aO ?aR (fun _ _ h => h) (fun _ h => h.elim) ?aF ?aB ?aS ?aL ?_
            (case aR => repeat (first | exact (Kd.R_reads' HO357.out).2.2 | (with_reducible refine Kd.C_alloc ?_ _) | (with_reducible refine Kd.C_drewN ?_ _) | (with_reducible refine Kd.C_drew ?_)))
            (case aB => exact (by repeat (first | (with_reducible first | exact HB.out | apply below_alloc | apply pw_below_drewN | apply below_drew1 | refine below_set ?_ GE345.out | refine below_set ?_ GE346.out) | exact HB.out)))
            (case aF => exact (fun k_ hk => ⟨Kd.fresh' (Kd.R_lt (by (with_reducible repeat (first | apply Kd.R_alloc | apply Kd.R_drewN | apply Kd.R_drew)); exact HO350.out)) k_ hk, Kd.fresh' (Kd.R_lt (by (with_reducible repeat (first | apply Kd.R_alloc | apply Kd.R_drewN | apply Kd.R_drew)); exact HO353.out)) k_ hk, Kd.fresh' (Kd.R_lt (by (with_reducible repeat (first | apply Kd.R_alloc | apply Kd.R_drewN | apply Kd.R_drew)); exact HO357.out)) k_ hk⟩))
            (case aO => exact (by (with_reducible repeat (first | apply Kd.R_alloc | apply Kd.R_drewN | apply Kd.R_drew)); exact HO_12.out))
            (case aS => exact (below_size (by repeat (first | (with_reducible first | exact HB.out | apply below_alloc | apply pw_below_drewN | apply below_drew1 | refine below_set ?_ GE345.out | refine below_set ?_ GE346.out) | exact HB.out))))
            (case aL => have := LMc34.out; omega)
            intro v359 w45 ho hb hg hat
            rw [← Ny358.out] at ho
            have HZ_HO350 : ∀ k_, (v349 : Value).ownBlock = some k_ → some k_ ≠ (.slice Ao36 x12_2.length co36 : Value).ownBlock := fun k_ e_ => (HO350.out.1 k_ e_).2.2
            have HZ_HO353 : ∀ k_, (v352 : Value).ownBlock = some k_ → some k_ ≠ (.slice Ao36 x12_2.length co36 : Value).ownBlock := fun k_ e_ => (HO353.out.1 k_ e_).2.2
            have HZ_HO357 : ∀ k_, (.slice Ao46 y355.length co46 : Value).ownBlock = some k_ → some k_ ≠ (.slice Ao36 x12_2.length co36 : Value).ownBlock := fun k_ e_ => (HO357.out.1 k_ e_).2.2
            have n0_ := Aside0.mk (blk_grown (g := gb345) (o := .cells #[.int .i64 t340, .int .i64 t341, .int .i64 t342, .int .i64 t343] 24 (0, 0)) (by (with_reducible repeat (first | refine blk_drewN ?_ _ | refine blk_drew ?_ | refine blk_alloc ?_ _)); exact BK345.out) hg (Kd.R_ne HO_12.out BK345.out (by decide)))
            have n1_ := Aside0.mk (blk_grown (g := gb346) (o := .cells #[.int .i64 ji14, .int .i64 ji15, .int .i64 t342, .int .i64 t343] 24 (0, 0)) (by (with_reducible repeat (first | refine blk_drewN ?_ _ | refine blk_drew ?_ | refine blk_alloc ?_ _)); exact BK346.out) hg (Kd.R_ne HO_12.out BK346.out (by decide)))
            have n2_ := Aside0.mk (Kd.R_after (ok := (fun k_ => some k_ ≠ (v352 : Value).ownBlock ∧ some k_ ≠ (.slice Ao46 y355.length co46 : Value).ownBlock)) (by (with_reducible repeat (first | apply Kd.R_alloc | apply Kd.R_drewN | apply Kd.R_drew)); exact Kd.R_mono HO350.out (fun _ hk => ⟨⟨hk.1, hk.2.1⟩, hk.2.2⟩)) hg hat)
            have n3_ := Aside0.mk (Kd.R_after (ok := (fun k_ => some k_ ≠ (v349 : Value).ownBlock ∧ some k_ ≠ (.slice Ao46 y355.length co46 : Value).ownBlock)) (by (with_reducible repeat (first | apply Kd.R_alloc | apply Kd.R_drewN | apply Kd.R_drew)); exact Kd.R_mono HO353.out (fun _ hk => ⟨⟨hk.1, hk.2.1⟩, hk.2.2⟩)) hg hat)
            have n4_ := Aside0.mk (Kd.R_after (ok := (fun k_ => some k_ ≠ (v349 : Value).ownBlock ∧ some k_ ≠ (v352 : Value).ownBlock)) (by (with_reducible repeat (first | apply Kd.R_alloc | apply Kd.R_drewN | apply Kd.R_drew)); exact Kd.R_mono HO357.out (fun _ hk => ⟨⟨hk.1, hk.2.1⟩, hk.2.2⟩)) hg hat)
            have n5_ := Aside0.mk (hb)
            have n6_ := Aside0.mk (ho)
            clear BK345 BK346 HO350 HO353 HO357 HB HO_12
            have BK345 := n0_
            have BK346 := n1_
            have HO350 := n2_
            have HO353 := n3_
            have HO357 := n4_
            have HB := n5_
            have HO360 := n6_
            clear n0_ n1_ n2_ n3_ n4_ n5_ n6_ ho hb hg hat
            refine hK.out _ _ ⟨((HB.out.cell (World.block_lt_of_cell? w _ hw347_0)).trans hw347_0), ((HB.out.cell (World.block_lt_of_cell? w _ hw354_0)).trans hw354_0)⟩ (fun hHeld => ?_)
            clear hK K
            refine norm_ (a' := ?_) ?_ ?_
            rotate_left
            ·show Act.put _ (some 76) _ = _
             simp only [Act.put, List.setIfInBounds_toArray, List.set_cons_zero, List.set_cons_succ, i64_w, i32_w]
             rfl
            refine pure_ (i := 18) (N := some 11) (v := ?_) (a' := ?_) #[true, true, true, true, true, true, true, true, true, true, true, true, true, true, true, true, true, true, true, false] rfl rfl (any_of HT_.out (by kernel_rfl)) (fun _ _ _ h => h) (Or.inl ⟨by rfl, ?_⟩) ?_ ?_
            rotate_left
            ·intro w'
             go_simp
             with_reducible rfl
            rotate_left
            ·simp only [Act.put, List.setIfInBounds_toArray, List.set_cons_zero, List.set_cons_succ, i64_w, i32_w]
             rfl
            refine pure_ (i := 19) (N := some 12) (v := ?_) (a' := ?_) #[true, true, true, true, true, true, true, true, true, true, true, true, true, true, true, true, true, true, true, true] rfl rfl (any_of HT_.out (by kernel_rfl)) (fun _ _ _ h => h) (Or.inl ⟨by rfl, ?_⟩) ?_ ?_
            rotate_left
            ·intro w'
             go_simp
             with_reducible rfl
            rotate_left
            ·simp only [Act.put, List.setIfInBounds_toArray, List.set_cons_zero, List.set_cons_succ, i64_w, i32_w]
             rfl
            refine done_ (done_of HT_.out (by kernel_rfl)) ?_
            try go_wp2
            go_roundg k2
            case measure => have := HJ4.out; have := HK2.out; omega
            case rel => exact ⟨(y351), (y358), (wrap64 (x56_2 + 1)), (by first | rfl | (simp; done) | (simp [*]; done)), H', ⟨by have := HJ4.out; have := HK2.out; omega⟩, ⟨by (with_reducible repeat (first | apply Kd.R_alloc | apply Kd.R_drewN | apply Kd.R_drew)); exact Kd.R_mono HO353.out (fun _ hk => hk.2)⟩, ⟨by (with_reducible repeat (first | apply Kd.R_alloc | apply Kd.R_drewN | apply Kd.R_drew)); exact Kd.R_mono HO360.out (fun _ hk => hk.2.1)⟩, ⟨by (with_reducible repeat (first | refine blk_drewN ?_ _ | refine blk_drew ?_ | refine blk_alloc ?_ _)); exact BK345.out⟩, ⟨by (with_reducible repeat (first | refine blk_drewN ?_ _ | refine blk_drew ?_ | refine blk_alloc ?_ _)); exact BK346.out⟩, ⟨by repeat (first | (with_reducible first | exact HB.out | apply below_alloc | apply pw_below_drewN | apply below_drew1 | refine below_set ?_ GE345.out | refine below_set ?_ GE346.out) | exact HB.out)⟩⟩
           ·rw [if_neg c34] at H
            exact absurd H (by simp)
          ·rw [if_neg c33] at H
           exact absurd H (by simp)
         ·rw [if_neg c32] at H
          exact absurd H (by simp)
        ·rw [if_neg c31] at H
         exact absurd H (by simp)
       ·rw [if_neg c30] at H
        exact absurd H (by simp)
      ·rw [if_neg c29] at H
       have c29b0 : decide (x56_2 < (l1.length : Int)) = false := decide_eq_false c29
       clear c29
       have H' := Aside0.mk H
       clear H
       obtain ⟨Ao47, co47, eo47⟩ := Kd.R_slice HO_11.out
       subst eo47
       go_wp2
       go_loopg [13, 14, 16] k2 (fun kq v13 v14 v16 w' => ∃ (x13_3 : List Int) (x14_3 : List Int) (x16_3 : Int), v16 = .int .i64 x16_3 ∧ Aside0 (awardingbodylaw27_MonitorTolerance.l1 kq x11_2 x12_2 x13_3 x14_3 x16_3 t340 t341 t342 t343 ji14 ji15 t342 t343 = some r) ∧ Aside0 (kq ≤ k2) ∧ Aside0 (Kd.R (Kd.int .i64) 3 w' w.heap.size (fun k_ => some k_ ≠ (u12 : Value).ownBlock ∧ some k_ ≠ (v13 : Value).ownBlock ∧ some k_ ≠ (v14 : Value).ownBlock) (.slice Ao47 x11_2.length co47) x11_2) ∧ Aside0 (Kd.R (Kd.int .i64) 3 w' w.heap.size (fun k_ => some k_ ≠ ((.slice Ao47 x11_2.length co47) : Value).ownBlock ∧ some k_ ≠ (v13 : Value).ownBlock ∧ some k_ ≠ (v14 : Value).ownBlock) u12 x12_2) ∧ Aside0 (Kd.R (Kd.int .i64) 3 w' w.heap.size (fun k_ => some k_ ≠ ((.slice Ao47 x11_2.length co47) : Value).ownBlock ∧ some k_ ≠ (u12 : Value).ownBlock ∧ some k_ ≠ (v14 : Value).ownBlock) v13 x13_3) ∧ Aside0 (Kd.R (Kd.int .i64) 3 w' w.heap.size (fun k_ => some k_ ≠ ((.slice Ao47 x11_2.length co47) : Value).ownBlock ∧ some k_ ≠ (u12 : Value).ownBlock ∧ some k_ ≠ (v13 : Value).ownBlock) v14 x14_3) ∧ Aside0 (w'.heap[gb345]? = some (.cells #[.int .i64 t340, .int .i64 t341, .int .i64 t342, .int .i64 t343] 24 (0, 0))) ∧ Aside0 (w'.heap[gb346]? = some (.cells #[.int .i64 ji14, .int .i64 ji15, .int .i64 t342, .int .i64 t343] 24 (0, 0))) ∧ Aside0 (Below w.heap.size w w'))
       case atStart => exact ⟨(([] : List Int)), (([] : List Int)), (wrap64 ((x11_2.length : Int) - 1)), (by first | rfl | (simp; done) | (simp [*]; done)), H', ⟨Nat.le_refl _⟩, ⟨by (with_reducible repeat (first | apply Kd.R_alloc | apply Kd.R_drewN | apply Kd.R_drew)); exact Kd.R_mono HO_11.out (fun _ hk => ⟨hk, ⟨(by simp [Value.ownBlock]), (by simp [Value.ownBlock])⟩⟩)⟩, ⟨by (with_reducible repeat (first | apply Kd.R_alloc | apply Kd.R_drewN | apply Kd.R_drew)); exact Kd.R_mono HO_12.out (fun _ hk => ⟨hk, ⟨(by simp [Value.ownBlock]), (by simp [Value.ownBlock])⟩⟩)⟩, ⟨by first | exact Kd.R_nil _ _ _ _ _ | exact Kd.N_nil _ _ _ _ _ | exact Kd.V_nil _ _ _ _ _ | exact Kd.Q_nil _ _ _ _ _ | exact Kd.S_nil _ _ _ _ _⟩, ⟨by first | exact Kd.R_nil _ _ _ _ _ | exact Kd.N_nil _ _ _ _ _ | exact Kd.V_nil _ _ _ _ _ | exact Kd.Q_nil _ _ _ _ _ | exact Kd.S_nil _ _ _ _ _⟩, ⟨by (with_reducible repeat (first | refine blk_drewN ?_ _ | refine blk_drew ?_ | refine blk_alloc ?_ _)); exact BK345.out⟩, ⟨by (with_reducible repeat (first | refine blk_drewN ?_ _ | refine blk_drew ?_ | refine blk_alloc ?_ _)); exact BK346.out⟩, ⟨by repeat (first | (with_reducible first | exact HB.out | apply below_alloc | apply pw_below_drewN | apply below_drew1 | refine below_set ?_ GE345.out | refine below_set ?_ GE346.out) | exact HB.out)⟩⟩
       case round =>
        clear H'
        try clear c2
        try clear p2
        try clear c3
        try clear p3
        try clear q3
        try clear hx3
        try clear p6
        try clear c29
        try clear c29b0
        try clear c30
        try clear c31
        try clear c32
        try clear c33
        try clear c33b0
        try clear c34
        try clear p34
        try clear q34
        try clear hx34
        try clear p35
        try clear q35
        try clear hx35
        try clear hx347_0
        try clear hx354_0
        try clear p347
        try clear p354
        try clear q347
        try clear q354
        obtain ⟨x13_3, x14_3, x16_3, rfl, HA, HK3, HO_11, HO_12, HO_13, HO_14, BK345, BK346, HB⟩ := hrel
        cases gk with
        | zero => exact absurd HA.out (by simp [awardingbodylaw27_MonitorTolerance.l1])
        | succ k3 =>
         have H := HA.out
         clear HA
         simp only [awardingbodylaw27_MonitorTolerance.l1] at H
         by_cases c48 : x16_3 ≥ 0
         ·rw [if_pos c48] at H
          have c48b0 : decide (0 ≤ x16_3) = true := decide_eq_true c48
          clear c48
          by_cases c49 : 0 ≤ x16_3
          ·rw [if_pos c49] at H
           have c49b0 : decide (0 ≤ x16_3) = true := decide_eq_true c49
           clear c49
           by_cases c50 : x16_3 < (x11_2.length : Int)
           ·rw [if_pos c50] at H
            have c50b0 : decide (x16_3 < (x11_2.length : Int)) = true := decide_eq_true c50
            clear c50
            obtain ⟨y362, hy362⟩ : ∃ y_ : List Int, y_ = (([rd x11_2 x16_3] : List Int)) := ⟨_, rfl⟩
            replace H : (if x13_3.length + y362.length < 17592186044416 then (if x16_3 < (x12_2.length : Int) then ((some (([rd x12_2 x16_3] : List Int) : List Int)).bind fun y369 => (if x14_3.length + y369.length < 17592186044416 then (awardingbodylaw27_MonitorTolerance.l1 k3 x11_2 x12_2 (x13_3 ++ y362) (x14_3 ++ y369) (wrap64 (x16_3 - 1)) t340 t341 t342 t343 ji14 ji15 t342 t343) else (none))) else (none)) else (none)) = some r := by first | (rw [hy362]; with_reducible exact H) | (have H2_ := (Option.bind_some _ _).symm.trans H; rw [hy362]; with_reducible exact H2_) | (have H2_ := (Option.bind_some _ _).symm.trans H; with_reducible exact H2_) | with_reducible exact H | (rw [hy362]; exact H) | exact H
            have Ny362 := Aside0.mk hy362
            clear hy362
            by_cases c51 : x13_3.length + y362.length < 17592186044416
            ·rw [if_pos c51] at H
             have LMc51 := Aside0.mk c51
             clear c51
             obtain ⟨y365, hy365⟩ : ∃ y_ : List Int, y_ = (x13_3 ++ y362) := ⟨_, rfl⟩
             replace H : (if x16_3 < (x12_2.length : Int) then ((some (([rd x12_2 x16_3] : List Int) : List Int)).bind fun y369 => (if x14_3.length + y369.length < 17592186044416 then (awardingbodylaw27_MonitorTolerance.l1 k3 x11_2 x12_2 y365 (x14_3 ++ y369) (wrap64 (x16_3 - 1)) t340 t341 t342 t343 ji14 ji15 t342 t343) else (none))) else (none)) = some r := by first | (rw [hy365]; with_reducible exact H) | (have H2_ := (Option.bind_some _ _).symm.trans H; rw [hy365]; with_reducible exact H2_) | (have H2_ := (Option.bind_some _ _).symm.trans H; with_reducible exact H2_) | with_reducible exact H | (rw [hy365]; exact H) | exact H
             have Ny365 := Aside0.mk hy365
             clear hy365
             by_cases c52 : x16_3 < (x12_2.length : Int)
             ·rw [if_pos c52] at H
              have c52b0 : decide (x16_3 < (x12_2.length : Int)) = true := decide_eq_true c52
              clear c52
              obtain ⟨y369, hy369⟩ : ∃ y_ : List Int, y_ = (([rd x12_2 x16_3] : List Int)) := ⟨_, rfl⟩
              replace H : (if x14_3.length + y369.length < 17592186044416 then (awardingbodylaw27_MonitorTolerance.l1 k3 x11_2 x12_2 y365 (x14_3 ++ y369) (wrap64 (x16_3 - 1)) t340 t341 t342 t343 ji14 ji15 t342 t343) else (none)) = some r := by first | (rw [hy369]; with_reducible exact H) | (have H2_ := (Option.bind_some _ _).symm.trans H; rw [hy369]; with_reducible exact H2_) | (have H2_ := (Option.bind_some _ _).symm.trans H; with_reducible exact H2_) | with_reducible exact H | (rw [hy369]; exact H) | exact H
              have Ny369 := Aside0.mk hy369
              clear hy369
              by_cases c53 : x14_3.length + y369.length < 17592186044416
              ·rw [if_pos c53] at H
               have LMc53 := Aside0.mk c53
               clear c53
               obtain ⟨y372, hy372⟩ : ∃ y_ : List Int, y_ = (x14_3 ++ y369) := ⟨_, rfl⟩
               replace H : (awardingbodylaw27_MonitorTolerance.l1 k3 x11_2 x12_2 y365 y372 (wrap64 (x16_3 - 1)) t340 t341 t342 t343 ji14 ji15 t342 t343) = some r := by first | (rw [hy372]; with_reducible exact H) | (have H2_ := (Option.bind_some _ _).symm.trans H; rw [hy372]; with_reducible exact H2_) | (have H2_ := (Option.bind_some _ _).symm.trans H; with_reducible exact H2_) | with_reducible exact H | (rw [hy372]; exact H) | exact H
               have Ny372 := Aside0.mk hy372
               clear hy372
               have H' := Aside0.mk H
               clear H
               obtain ⟨Ao54, co54, eo54⟩ := Kd.R_slice HO_13.out
               subst eo54
               obtain ⟨Ao55, co55, eo55⟩ := Kd.R_slice HO_14.out
               subst eo55
               try go_wp2
               have n0_ := Aside0.mk (Kd.R_drew HO_11.out)
               have n1_ := Aside0.mk (Kd.R_drew HO_12.out)
               have n2_ := Aside0.mk (Kd.R_drew HO_13.out)
               have n3_ := Aside0.mk (Kd.R_drew HO_14.out)
               have n4_ := Aside0.mk (blk_drew BK345.out)
               have n5_ := Aside0.mk (blk_drew BK346.out)
               have n6_ := Aside0.mk (below_drew1 HB.out)
               clear HO_11 HO_12 HO_13 HO_14 BK345 BK346 HB
               have HO_11 := n0_
               have HO_12 := n1_
               have HO_13 := n2_
               have HO_14 := n3_
               have BK345 := n4_
               have BK346 := n5_
               have HB := n6_
               clear n0_ n1_ n2_ n3_ n4_ n5_ n6_
               have p361 : 0 ≤ (x16_3 : Int) := of_decide_eq_true (by first | (with_reducible assumption) | assumption)
               have q361 : x16_3 < (x11_2.length : Int) := of_decide_eq_true (by first | (with_reducible assumption) | assumption)
               obtain ⟨ad361, e361, hx361_0⟩ := Kd.at_int (Kd.R_reads' HO_11.out).2.2 x16_3 p361 q361
               cases e361
               replace p361 := eq_true p361
               replace q361 := eq_true q361
               obtain ⟨Ao57, co57, eo57⟩ := Kd.R_slice HO_12.out
               (first | subst eo57 | (injection eo57 with f1_ f2_ f3_; have f4_ := f1_.symm; have f5_ := f3_.symm; clear f1_ f2_ f3_; subst f4_; subst f5_))
               have p368 : 0 ≤ (x16_3 : Int) := of_decide_eq_true (by first | (with_reducible assumption) | assumption)
               have q368 : x16_3 < (x12_2.length : Int) := of_decide_eq_true (by first | (with_reducible assumption) | assumption)
               obtain ⟨ad368, e368, hx368_0⟩ := Kd.at_int (Kd.R_reads' HO_12.out).2.2 x16_3 p368 q368
               cases e368
               replace p368 := eq_true p368
               replace q368 := eq_true q368
               refine start_ (n := 16) (S := fun w' => w'.cell? (ad361.add (x16_3).toNat) = some (.int .i64 (rd x11_2 x16_3)) ∧ w'.cell? (ad368.add (x16_3).toNat) = some (.int .i64 (rd x12_2 x16_3))) (ds := []) #[false, false, false, false, false, false, false, false, false, false, false, false, false, false, false, false] (by kernel_rfl) rfl rfl ⟨hx361_0, hx368_0⟩ (fun hHeld => ?_); refine with_tabW awardingbodylaw27_MonitorTolerance.tab15 awardingbodylaw27_MonitorTolerance.bits15 (fun HT_ HW_ => ?_)
               generalize wr.drew = w56 at HO_11 HO_12 HO_13 HO_14 BK345 BK346 HB hx361_0 hx368_0 hHeld ⊢
               refine pure_ (i := 0) (N := some 85) (v := ?_) (a' := ?_) #[true, false, false, false, false, false, false, false, false, false, false, false, false, false, false, false] rfl rfl (any_of HT_.out (by kernel_rfl)) (fun _ _ _ h => h) (Or.inl ⟨by rfl, ?_⟩) ?_ ?_
               rotate_left
               ·intro w'
                go_simp
                with_reducible rfl
               rotate_left
               ·simp only [Act.put, List.setIfInBounds_toArray, List.set_cons_zero, List.set_cons_succ, i64_w, i32_w]
                rfl
               refine pure_ (i := 1) (N := some 86) (v := ?_) (a' := ?_) #[true, true, false, false, false, false, false, false, false, false, false, false, false, false, false, false] rfl rfl (any_of HT_.out (by kernel_rfl)) (fun _ _ _ h => h) (Or.inl ⟨by rfl, ?_⟩) ?_ ?_
               rotate_left
               ·intro w'
                go_simp
                with_reducible rfl
               rotate_left
               ·simp only [Act.put, List.setIfInBounds_toArray, List.set_cons_zero, List.set_cons_succ, i64_w, i32_w]
                rfl
               refine pure_ (i := 2) (N := some 87) (v := ?_) (a' := ?_) #[true, true, true, false, false, false, false, false, false, false, false, false, false, false, false, false] rfl rfl (any_of HT_.out (by kernel_rfl)) (fun _ _ _ h => h) (Or.inl ⟨by rfl, ?_⟩) ?_ ?_
               rotate_left
               ·intro w'
                go_simp
                with_reducible rfl
               rotate_left
               ·simp only [Act.put, List.setIfInBounds_toArray, List.set_cons_zero, List.set_cons_succ, i64_w, i32_w]
                rfl
               refine pure_ (i := 3) (N := some 88) (v := ?_) (a' := ?_) #[true, true, true, true, false, false, false, false, false, false, false, false, false, false, false, false] rfl rfl (any_of HT_.out (by kernel_rfl)) (fun _ _ _ h => h) (Or.inl ⟨by rfl, ?_⟩) ?_ ?_
               rotate_left
               ·intro w'
                go_simp
                with_reducible rfl
               rotate_left
               ·simp only [Act.put, List.setIfInBounds_toArray, List.set_cons_zero, List.set_cons_succ, i64_w, i32_w]
                rfl
               refine pure_ (i := 7) (N := some 92) (v := ?_) (a' := ?_) #[true, true, true, true, false, false, false, true, false, false, false, false, false, false, false, false] rfl rfl (any_of HT_.out (by kernel_rfl)) (fun _ _ _ h => h) (Or.inl ⟨by rfl, ?_⟩) ?_ ?_
               rotate_left
               ·intro w'
                go_simp
                with_reducible rfl
               rotate_left
               ·simp only [Act.put, List.setIfInBounds_toArray, List.set_cons_zero, List.set_cons_succ, i64_w, i32_w]
                rfl
               refine pure_ (i := 8) (N := some 93) (v := ?_) (a' := ?_) #[true, true, true, true, false, false, false, true, true, false, false, false, false, false, false, false] rfl rfl (any_of HT_.out (by kernel_rfl)) (fun _ _ _ h => h) (Or.inl ⟨by rfl, ?_⟩) ?_ ?_
               rotate_left
               ·intro w'
                go_simp
                with_reducible rfl
               rotate_left
               ·simp only [Act.put, List.setIfInBounds_toArray, List.set_cons_zero, List.set_cons_succ, i64_w, i32_w]
                rfl
               refine pure_ (i := 9) (N := some 94) (v := ?_) (a' := ?_) #[true, true, true, true, false, false, false, true, true, true, false, false, false, false, false, false] rfl rfl (any_of HT_.out (by kernel_rfl)) (fun _ _ _ h => h) (Or.inl ⟨by rfl, ?_⟩) ?_ ?_
               rotate_left
               ·intro w'
                go_simp
                with_reducible rfl
               rotate_left
               ·simp only [Act.put, List.setIfInBounds_toArray, List.set_cons_zero, List.set_cons_succ, i64_w, i32_w]
                rfl
               refine pure_ (i := 10) (N := some 95) (v := ?_) (a' := ?_) #[true, true, true, true, false, false, false, true, true, true, true, false, false, false, false, false] rfl rfl (any_of HT_.out (by kernel_rfl)) (fun _ _ _ h => h) (Or.inl ⟨by rfl, ?_⟩) ?_ ?_
               rotate_left
               ·intro w'
                go_simp
                with_reducible rfl
               rotate_left
               ·simp only [Act.put, List.setIfInBounds_toArray, List.set_cons_zero, List.set_cons_succ, i64_w, i32_w]
                rfl
               refine take_ (i := 4) (N := some 89) (v := ?_) (a' := ?_) #[true, true, true, true, true, false, false, true, true, true, true, false, false, false, false, false] rfl rfl (take_ofW HT_.out HW_.out (by kernel_rfl)) (fun _ _ _ h => h) (Or.inl ⟨by rfl, ?_⟩) hHeld ?_ ?_
               rotate_left
               ·rintro w' ⟨s0, s1⟩
                go_simp
                with_reducible rfl
               rotate_left
               ·simp only [Act.put, List.setIfInBounds_toArray, List.set_cons_zero, List.set_cons_succ, i64_w, i32_w]
                rfl
               refine take_ (i := 11) (N := some 96) (v := ?_) (a' := ?_) #[true, true, true, true, true, false, false, true, true, true, true, true, false, false, false, false] rfl rfl (take_ofW HT_.out HW_.out (by kernel_rfl)) (fun _ _ _ h => h) (Or.inl ⟨by rfl, ?_⟩) hHeld ?_ ?_
               rotate_left
               ·rintro w' ⟨s0, s1⟩
                go_simp
                with_reducible rfl
               rotate_left
               ·simp only [Act.put, List.setIfInBounds_toArray, List.set_cons_zero, List.set_cons_succ, i64_w, i32_w]
                rfl
               refine join_ (σ := Value × Value × Value) 3 #[true, true, true, true, true, true, true, true, true, true, true, true, true, false, false, false] (fun s_ => [(90, s_.1), (91, s_.2.1), (97, s_.2.2)]) (fun s_ w' => (w'.cell? (ad361.add (x16_3).toNat) = some (.int .i64 (rd x11_2 x16_3)) ∧ w'.cell? (ad368.add (x16_3).toNat) = some (.int .i64 (rd x12_2 x16_3))) ∧ (Kd.R (Kd.int .i64) 3 w' w.heap.size (fun k_ => some k_ ≠ (s_.2.1 : Value).ownBlock ∧ some k_ ≠ (s_.2.2 : Value).ownBlock ∧ some k_ ≠ (.slice (some ad361) x11_2.length co47 : Value).ownBlock ∧ some k_ ≠ (.slice (some ad368) x12_2.length co57 : Value).ownBlock ∧ some k_ ≠ (.slice Ao55 x14_3.length co55 : Value).ownBlock) s_.1 y362) ∧ (Kd.R (Kd.int .i64) 3 w' w.heap.size (fun k_ => some k_ ≠ (s_.1 : Value).ownBlock ∧ some k_ ≠ (s_.2.2 : Value).ownBlock ∧ some k_ ≠ (.slice (some ad361) x11_2.length co47 : Value).ownBlock ∧ some k_ ≠ (.slice (some ad368) x12_2.length co57 : Value).ownBlock ∧ some k_ ≠ (.slice Ao55 x14_3.length co55 : Value).ownBlock) s_.2.1 y365) ∧ (Kd.R (Kd.int .i64) 3 w' w.heap.size (fun k_ => some k_ ≠ (s_.1 : Value).ownBlock ∧ some k_ ≠ (s_.2.1 : Value).ownBlock ∧ some k_ ≠ (.slice (some ad361) x11_2.length co47 : Value).ownBlock ∧ some k_ ≠ (.slice (some ad368) x12_2.length co57 : Value).ownBlock ∧ some k_ ≠ (.slice Ao55 x14_3.length co55 : Value).ownBlock) s_.2.2 y369) ∧ (Kd.R (Kd.int .i64) 3 w' w.heap.size (fun k_ => some k_ ≠ (s_.1 : Value).ownBlock ∧ some k_ ≠ (s_.2.1 : Value).ownBlock ∧ some k_ ≠ (s_.2.2 : Value).ownBlock ∧ some k_ ≠ (.slice (some ad368) x12_2.length co57 : Value).ownBlock ∧ some k_ ≠ (.slice Ao55 x14_3.length co55 : Value).ownBlock) (.slice (some ad361) x11_2.length co47) x11_2) ∧ (Kd.R (Kd.int .i64) 3 w' w.heap.size (fun k_ => some k_ ≠ (s_.1 : Value).ownBlock ∧ some k_ ≠ (s_.2.1 : Value).ownBlock ∧ some k_ ≠ (s_.2.2 : Value).ownBlock ∧ some k_ ≠ (.slice (some ad361) x11_2.length co47 : Value).ownBlock ∧ some k_ ≠ (.slice Ao55 x14_3.length co55 : Value).ownBlock) (.slice (some ad368) x12_2.length co57) x12_2) ∧ (Kd.R (Kd.int .i64) 3 w' w.heap.size (fun k_ => some k_ ≠ (s_.1 : Value).ownBlock ∧ some k_ ≠ (s_.2.1 : Value).ownBlock ∧ some k_ ≠ (s_.2.2 : Value).ownBlock ∧ some k_ ≠ (.slice (some ad361) x11_2.length co47 : Value).ownBlock ∧ some k_ ≠ (.slice (some ad368) x12_2.length co57 : Value).ownBlock) (.slice Ao55 x14_3.length co55) x14_3) ∧ (w'.heap[gb345]? = some (.cells #[.int .i64 t340, .int .i64 t341, .int .i64 t342, .int .i64 t343] 24 (0, 0))) ∧ (w'.heap[gb346]? = some (.cells #[.int .i64 ji14, .int .i64 ji15, .int .i64 t342, .int .i64 t343] 24 (0, 0))) ∧ (Below w.heap.size w w')) ?_ ?_
               rotate_left
               ·intro hCont
                refine two_ (i := 5) (j := 12) (Ni := some 90) (Nj := some 97) #[true, true, true, true, true, true, false, true, true, true, true, true, false, false, false, false] #[true, true, true, true, true, false, false, true, true, true, true, true, true, false, false, false] rfl rfl rfl rfl (two_of HT_.out (by kernel_rfl)) (by decide) (by decide) (fun K hK => ?_) (fun K hK => ?_)
                ·skip
                 refine Kd.R_lit_step (Kd.int .i64) _ 3 ?hg (N := 90) ?hd (xs := ([rd x11_2 x16_3] : List Int)) (inner := [.int .i64 (rd x11_2 x16_3)]) (ok := fun _ => True) (okp := fun _ => True) ?hr ?hp (fun _ hk => hk) trivial (Below.refl _ _) (Nat.le_refl _) (by simp) ?_; (case hd => rfl); (case hg => rfl); (case hr => first | (go_simp; done) | (go_simp; rfl)); (case hp => exact (Reps.one (show Kd.M (Kd.int .i64) _ _ _ (rd x11_2 x16_3) [.int .i64 (rd x11_2 x16_3)] from rfl) (Reps.none _ _)))
                 intro v363 w58 ho59 hb hg_ hnew_
                 have HS0_ := (hb.cell (World.block_lt_of_cell? _ _ (hHeld.1))).trans (hHeld.1)
                 have HS1_ := (hb.cell (World.block_lt_of_cell? _ _ (hHeld.2))).trans (hHeld.2)
                 clear hg_ hnew_
                 (first | rw [← Ny362.out] at ho59 | (simp only [Int.reduceToNat] at ho59; rw [← Ny362.out] at ho59))
                 have n0_ := Aside0.mk (Kd.R_elder' (by (with_reducible repeat (first | apply Kd.R_alloc | apply Kd.R_drewN | apply Kd.R_drew)); exact HO_11.out) (Kd.R_base ho59) hb)
                 have n1_ := Aside0.mk (Kd.R_elder' (by (with_reducible repeat (first | apply Kd.R_alloc | apply Kd.R_drewN | apply Kd.R_drew)); exact HO_12.out) (Kd.R_base ho59) hb)
                 have n2_ := Aside0.mk (Kd.R_elder' (by (with_reducible repeat (first | apply Kd.R_alloc | apply Kd.R_drewN | apply Kd.R_drew)); exact HO_13.out) (Kd.R_base ho59) hb)
                 have n3_ := Aside0.mk (Kd.R_elder' (by (with_reducible repeat (first | apply Kd.R_alloc | apply Kd.R_drewN | apply Kd.R_drew)); exact HO_14.out) (Kd.R_base ho59) hb)
                 have n4_ := Aside0.mk (Kd.R_lower (Kd.R_new' (Kd.R_new' (Kd.R_new' (Kd.R_new' ho59 (Kd.R_lt (by (with_reducible repeat (first | apply Kd.R_alloc | apply Kd.R_drewN | apply Kd.R_drew)); exact HO_11.out))) (Kd.R_lt (by (with_reducible repeat (first | apply Kd.R_alloc | apply Kd.R_drewN | apply Kd.R_drew)); exact HO_12.out))) (Kd.R_lt (by (with_reducible repeat (first | apply Kd.R_alloc | apply Kd.R_drewN | apply Kd.R_drew)); exact HO_13.out))) (Kd.R_lt (by (with_reducible repeat (first | apply Kd.R_alloc | apply Kd.R_drewN | apply Kd.R_drew)); exact HO_14.out))) (below_size (by repeat (first | (with_reducible first | exact HB.out | apply below_alloc | apply pw_below_drewN | apply below_drew1 | refine below_set ?_ GE345.out | refine below_set ?_ GE346.out) | exact HB.out))))
                 have n5_ := Aside0.mk (blk_below (g := gb345) (o := .cells #[.int .i64 t340, .int .i64 t341, .int .i64 t342, .int .i64 t343] 24 (0, 0)) (by (with_reducible repeat (first | refine blk_drewN ?_ _ | refine blk_drew ?_ | refine blk_alloc ?_ _)); exact BK345.out) hb)
                 have n6_ := Aside0.mk (blk_below (g := gb346) (o := .cells #[.int .i64 ji14, .int .i64 ji15, .int .i64 t342, .int .i64 t343] 24 (0, 0)) (by (with_reducible repeat (first | refine blk_drewN ?_ _ | refine blk_drew ?_ | refine blk_alloc ?_ _)); exact BK346.out) hb)
                 have n7_ := Aside0.mk (below_step (by repeat (first | (with_reducible first | exact HB.out | apply below_alloc | apply pw_below_drewN | apply below_drew1 | refine below_set ?_ GE345.out | refine below_set ?_ GE346.out) | exact HB.out)) hb)
                 clear HO_11 HO_12 HO_13 HO_14 BK345 BK346 HB
                 have HO_11 := n0_
                 have HO_12 := n1_
                 have HO_13 := n2_
                 have HO_14 := n3_
                 have HO364 := n4_
                 have BK345 := n5_
                 have BK346 := n6_
                 have HB := n7_
                 clear n0_ n1_ n2_ n3_ n4_ n5_ n6_ n7_ hb ho59
                 obtain ⟨Ao61, co61, eo61⟩ := Kd.R_slice HO364.out
                 (first | subst eo61 | (injection eo61 with f1_ f2_ f3_; have f4_ := f1_.symm; have f5_ := f3_.symm; clear f1_ f2_ f3_; subst f4_; subst f5_))
                 refine hK.out _ _ ⟨HS0_, HS1_⟩ (fun hHeld => ?_)
                 clear hK K
                 refine norm_ (a' := ?_) ?_ ?_
                 rotate_left
                 ·show Act.put _ (some 90) _ = _
                  simp only [Act.put, List.setIfInBounds_toArray, List.set_cons_zero, List.set_cons_succ, i64_w, i32_w]
                  rfl
                 refine two_ (i := 6) (j := 12) (Ni := some 91) (Nj := some 97) #[true, true, true, true, true, true, true, true, true, true, true, true, false, false, false, false] #[true, true, true, true, true, true, false, true, true, true, true, true, true, false, false, false] rfl rfl rfl rfl (two_of HT_.out (by kernel_rfl)) (by decide) (by decide) (fun K hK => ?_) (fun K hK => ?_)
                 ·skip
                  refine Kd.R_append_rows_step (Kd.int .i64) (w0 := w) w.heap.size (by rfl) (.tmp 85) (.tmp 90) 22 3 (.int .i64 0) 8 rfl Try.underlying22 info3 rfl (by decide) (by omega) (.slice Ao54 x13_3.length co54) x13_3 y362 _ _ _ (fun k_ => some k_ ≠ (.slice (some ad361) x11_2.length co47 : Value).ownBlock ∧ some k_ ≠ (.slice (some ad368) x12_2.length co57 : Value).ownBlock ∧ some k_ ≠ (.slice Ao55 x14_3.length co55 : Value).ownBlock ∧ some k_ ≠ (.slice Ao61 y362.length co61 : Value).ownBlock) (fun _ => False) rfl rfl ?aO ?aR (fun _ _ h => h) (fun _ h => h.elim) ?aF ?aB ?aS ?aL ?_
                  (case aR => repeat (first | exact (Kd.R_reads' HO364.out).2.2 | (with_reducible refine Kd.C_alloc ?_ _) | (with_reducible refine Kd.C_drewN ?_ _) | (with_reducible refine Kd.C_drew ?_)))
                  (case aB => exact (by repeat (first | (with_reducible first | exact HB.out | apply below_alloc | apply pw_below_drewN | apply below_drew1 | refine below_set ?_ GE345.out | refine below_set ?_ GE346.out) | exact HB.out)))
                  (case aF => exact (fun k_ hk => ⟨Kd.fresh' (Kd.R_lt (by (with_reducible repeat (first | apply Kd.R_alloc | apply Kd.R_drewN | apply Kd.R_drew)); exact HO_11.out)) k_ hk, Kd.fresh' (Kd.R_lt (by (with_reducible repeat (first | apply Kd.R_alloc | apply Kd.R_drewN | apply Kd.R_drew)); exact HO_12.out)) k_ hk, Kd.fresh' (Kd.R_lt (by (with_reducible repeat (first | apply Kd.R_alloc | apply Kd.R_drewN | apply Kd.R_drew)); exact HO_14.out)) k_ hk, Kd.fresh' (Kd.R_lt (by (with_reducible repeat (first | apply Kd.R_alloc | apply Kd.R_drewN | apply Kd.R_drew)); exact HO364.out)) k_ hk⟩))
                  (case aO => exact (by (with_reducible repeat (first | apply Kd.R_alloc | apply Kd.R_drewN | apply Kd.R_drew)); exact Kd.R_mono HO_13.out (fun _ hk => ⟨hk.1.1, ⟨hk.1.2.1, ⟨hk.1.2.2, hk.2⟩⟩⟩)))
                  (case aS => exact (below_size (by repeat (first | (with_reducible first | exact HB.out | apply below_alloc | apply pw_below_drewN | apply below_drew1 | refine below_set ?_ GE345.out | refine below_set ?_ GE346.out) | exact HB.out))))
                  (case aL => have := LMc51.out; omega)
                  intro v366 w60 ho hb hg hat
                  rw [← Ny365.out] at ho
                  have HZ_HO_11 : ∀ k_, (.slice (some ad361) x11_2.length co47 : Value).ownBlock = some k_ → some k_ ≠ (.slice Ao54 x13_3.length co54 : Value).ownBlock := fun k_ e_ => (HO_11.out.1 k_ e_).1.2.1
                  have HZ_HO_12 : ∀ k_, (.slice (some ad368) x12_2.length co57 : Value).ownBlock = some k_ → some k_ ≠ (.slice Ao54 x13_3.length co54 : Value).ownBlock := fun k_ e_ => (HO_12.out.1 k_ e_).1.2.1
                  have HZ_HO_14 : ∀ k_, (.slice Ao55 x14_3.length co55 : Value).ownBlock = some k_ → some k_ ≠ (.slice Ao54 x13_3.length co54 : Value).ownBlock := fun k_ e_ => (HO_14.out.1 k_ e_).1.2.2
                  have HZ_HO364 : ∀ k_, (.slice Ao61 y362.length co61 : Value).ownBlock = some k_ → some k_ ≠ (.slice Ao54 x13_3.length co54 : Value).ownBlock := fun k_ e_ => (HO364.out.1 k_ e_).1.2
                  (first | have HS0_ := cell_grown hg (hHeld.1) (by first | (rw [add_block]; exact HZ_HO_11 _ rfl) | (show some (Addr.add _ _).block ≠ _; rw [add_block]; exact HZ_HO_11 _ rfl) | exact HZ_HO_11 _ rfl) | have HS0_ := cell_grown hg (cell_unalloc (hHeld.1) (by first | (rw [add_block]; exact Kd.R_lt HO_11.out _ rfl) | (show (Addr.add _ _).block < _; rw [add_block]; exact Kd.R_lt HO_11.out _ rfl) | exact Kd.R_lt HO_11.out _ rfl)) (by first | (rw [add_block]; exact HZ_HO_11 _ rfl) | (show some (Addr.add _ _).block ≠ _; rw [add_block]; exact HZ_HO_11 _ rfl) | exact HZ_HO_11 _ rfl))
                  (first | have HS1_ := cell_grown hg (hHeld.2) (by first | (rw [add_block]; exact HZ_HO_12 _ rfl) | (show some (Addr.add _ _).block ≠ _; rw [add_block]; exact HZ_HO_12 _ rfl) | exact HZ_HO_12 _ rfl) | have HS1_ := cell_grown hg (cell_unalloc (hHeld.2) (by first | (rw [add_block]; exact Kd.R_lt HO_12.out _ rfl) | (show (Addr.add _ _).block < _; rw [add_block]; exact Kd.R_lt HO_12.out _ rfl) | exact Kd.R_lt HO_12.out _ rfl)) (by first | (rw [add_block]; exact HZ_HO_12 _ rfl) | (show some (Addr.add _ _).block ≠ _; rw [add_block]; exact HZ_HO_12 _ rfl) | exact HZ_HO_12 _ rfl))
                  clear HZ_HO_11 HZ_HO_12 HZ_HO_14 HZ_HO364
                  have n0_ := Aside0.mk (Kd.R_after (ok := (fun k_ => some k_ ≠ (.slice (some ad368) x12_2.length co57 : Value).ownBlock ∧ some k_ ≠ (.slice Ao55 x14_3.length co55 : Value).ownBlock ∧ some k_ ≠ (.slice Ao61 y362.length co61 : Value).ownBlock)) (by (with_reducible repeat (first | apply Kd.R_alloc | apply Kd.R_drewN | apply Kd.R_drew)); exact Kd.R_mono HO_11.out (fun _ hk => ⟨⟨hk.1.1, ⟨hk.1.2.2, hk.2⟩⟩, hk.1.2.1⟩)) hg hat)
                  have n1_ := Aside0.mk (Kd.R_after (ok := (fun k_ => some k_ ≠ (.slice (some ad361) x11_2.length co47 : Value).ownBlock ∧ some k_ ≠ (.slice Ao55 x14_3.length co55 : Value).ownBlock ∧ some k_ ≠ (.slice Ao61 y362.length co61 : Value).ownBlock)) (by (with_reducible repeat (first | apply Kd.R_alloc | apply Kd.R_drewN | apply Kd.R_drew)); exact Kd.R_mono HO_12.out (fun _ hk => ⟨⟨hk.1.1, ⟨hk.1.2.2, hk.2⟩⟩, hk.1.2.1⟩)) hg hat)
                  have n2_ := Aside0.mk (Kd.R_after (ok := (fun k_ => some k_ ≠ (.slice (some ad361) x11_2.length co47 : Value).ownBlock ∧ some k_ ≠ (.slice (some ad368) x12_2.length co57 : Value).ownBlock ∧ some k_ ≠ (.slice Ao61 y362.length co61 : Value).ownBlock)) (by (with_reducible repeat (first | apply Kd.R_alloc | apply Kd.R_drewN | apply Kd.R_drew)); exact Kd.R_mono HO_14.out (fun _ hk => ⟨⟨hk.1.1, ⟨hk.1.2.1, hk.2⟩⟩, hk.1.2.2⟩)) hg hat)
                  have n3_ := Aside0.mk (blk_grown (g := gb345) (o := .cells #[.int .i64 t340, .int .i64 t341, .int .i64 t342, .int .i64 t343] 24 (0, 0)) (by (with_reducible repeat (first | refine blk_drewN ?_ _ | refine blk_drew ?_ | refine blk_alloc ?_ _)); exact BK345.out) hg (Kd.R_ne HO_13.out BK345.out (by decide)))
                  have n4_ := Aside0.mk (blk_grown (g := gb346) (o := .cells #[.int .i64 ji14, .int .i64 ji15, .int .i64 t342, .int .i64 t343] 24 (0, 0)) (by (with_reducible repeat (first | refine blk_drewN ?_ _ | refine blk_drew ?_ | refine blk_alloc ?_ _)); exact BK346.out) hg (Kd.R_ne HO_13.out BK346.out (by decide)))
                  have n5_ := Aside0.mk (Kd.R_after (ok := (fun k_ => some k_ ≠ (.slice (some ad361) x11_2.length co47 : Value).ownBlock ∧ some k_ ≠ (.slice (some ad368) x12_2.length co57 : Value).ownBlock ∧ some k_ ≠ (.slice Ao55 x14_3.length co55 : Value).ownBlock)) (by (with_reducible repeat (first | apply Kd.R_alloc | apply Kd.R_drewN | apply Kd.R_drew)); exact Kd.R_mono HO364.out (fun _ hk => ⟨⟨hk.1.1.1.2, ⟨hk.1.1.2, hk.2⟩⟩, hk.1.2⟩)) hg hat)
                  have n6_ := Aside0.mk (hb)
                  have n7_ := Aside0.mk (ho)
                  clear HO_11 HO_12 HO_14 BK345 BK346 HO364 HB HO_13
                  have HO_11 := n0_
                  have HO_12 := n1_
                  have HO_14 := n2_
                  have BK345 := n3_
                  have BK346 := n4_
                  have HO364 := n5_
                  have HB := n6_
                  have HO367 := n7_
                  clear n0_ n1_ n2_ n3_ n4_ n5_ n6_ n7_ ho hb hg hat
                  refine hK.out _ _ ⟨HS0_, HS1_⟩ (fun hHeld => ?_)
                  clear hK K
                  refine norm_ (a' := ?_) ?_ ?_
                  rotate_left
                  ·show Act.put _ (some 91) _ = _
                   simp only [Act.put, List.setIfInBounds_toArray, List.set_cons_zero, List.set_cons_succ, i64_w, i32_w]
                   rfl
                  refine one_ (i := 12) (N := some 97) #[true, true, true, true, true, true, true, true, true, true, true, true, true, false, false, false] rfl rfl (one_of HT_.out (by kernel_rfl)) (by decide) (fun K hK => ?_)
                  refine Kd.R_lit_step (Kd.int .i64) _ 3 ?hg (N := 97) ?hd (xs := ([rd x12_2 x16_3] : List Int)) (inner := [.int .i64 (rd x12_2 x16_3)]) (ok := fun _ => True) (okp := fun _ => True) ?hr ?hp (fun _ hk => hk) trivial (Below.refl _ _) (Nat.le_refl _) (by simp) ?_; (case hd => rfl); (case hg => rfl); (case hr => first | (go_simp; done) | (go_simp; rfl)); (case hp => exact (Reps.one (show Kd.M (Kd.int .i64) _ _ _ (rd x12_2 x16_3) [.int .i64 (rd x12_2 x16_3)] from rfl) (Reps.none _ _)))
                  intro v370 w62 ho63 hb hg_ hnew_
                  have HS0_ := (hb.cell (World.block_lt_of_cell? _ _ (hHeld.1))).trans (hHeld.1)
                  have HS1_ := (hb.cell (World.block_lt_of_cell? _ _ (hHeld.2))).trans (hHeld.2)
                  clear hg_ hnew_
                  (first | rw [← Ny369.out] at ho63 | (simp only [Int.reduceToNat] at ho63; rw [← Ny369.out] at ho63))
                  have n0_ := Aside0.mk (Kd.R_elder' (by (with_reducible repeat (first | apply Kd.R_alloc | apply Kd.R_drewN | apply Kd.R_drew)); exact HO_11.out) (Kd.R_base ho63) hb)
                  have n1_ := Aside0.mk (Kd.R_elder' (by (with_reducible repeat (first | apply Kd.R_alloc | apply Kd.R_drewN | apply Kd.R_drew)); exact HO_12.out) (Kd.R_base ho63) hb)
                  have n2_ := Aside0.mk (Kd.R_elder' (by (with_reducible repeat (first | apply Kd.R_alloc | apply Kd.R_drewN | apply Kd.R_drew)); exact HO_14.out) (Kd.R_base ho63) hb)
                  have n3_ := Aside0.mk (Kd.R_elder' (by (with_reducible repeat (first | apply Kd.R_alloc | apply Kd.R_drewN | apply Kd.R_drew)); exact HO364.out) (Kd.R_base ho63) hb)
                  have n4_ := Aside0.mk (Kd.R_elder' (by (with_reducible repeat (first | apply Kd.R_alloc | apply Kd.R_drewN | apply Kd.R_drew)); exact HO367.out) (Kd.R_base ho63) hb)
                  have n5_ := Aside0.mk (Kd.R_lower (Kd.R_new' (Kd.R_new' (Kd.R_new' (Kd.R_new' (Kd.R_new' ho63 (Kd.R_lt (by (with_reducible repeat (first | apply Kd.R_alloc | apply Kd.R_drewN | apply Kd.R_drew)); exact HO_11.out))) (Kd.R_lt (by (with_reducible repeat (first | apply Kd.R_alloc | apply Kd.R_drewN | apply Kd.R_drew)); exact HO_12.out))) (Kd.R_lt (by (with_reducible repeat (first | apply Kd.R_alloc | apply Kd.R_drewN | apply Kd.R_drew)); exact HO_14.out))) (Kd.R_lt (by (with_reducible repeat (first | apply Kd.R_alloc | apply Kd.R_drewN | apply Kd.R_drew)); exact HO364.out))) (Kd.R_lt (by (with_reducible repeat (first | apply Kd.R_alloc | apply Kd.R_drewN | apply Kd.R_drew)); exact HO367.out))) (below_size (by repeat (first | (with_reducible first | exact HB.out | apply below_alloc | apply pw_below_drewN | apply below_drew1 | refine below_set ?_ GE345.out | refine below_set ?_ GE346.out) | exact HB.out))))
                  have n6_ := Aside0.mk (blk_below (g := gb345) (o := .cells #[.int .i64 t340, .int .i64 t341, .int .i64 t342, .int .i64 t343] 24 (0, 0)) (by (with_reducible repeat (first | refine blk_drewN ?_ _ | refine blk_drew ?_ | refine blk_alloc ?_ _)); exact BK345.out) hb)
                  have n7_ := Aside0.mk (blk_below (g := gb346) (o := .cells #[.int .i64 ji14, .int .i64 ji15, .int .i64 t342, .int .i64 t343] 24 (0, 0)) (by (with_reducible repeat (first | refine blk_drewN ?_ _ | refine blk_drew ?_ | refine blk_alloc ?_ _)); exact BK346.out) hb)
                  have n8_ := Aside0.mk (below_step (by repeat (first | (with_reducible first | exact HB.out | apply below_alloc | apply pw_below_drewN | apply below_drew1 | refine below_set ?_ GE345.out | refine below_set ?_ GE346.out) | exact HB.out)) hb)
                  clear HO_11 HO_12 HO_14 HO364 HO367 BK345 BK346 HB
                  have HO_11 := n0_
                  have HO_12 := n1_
                  have HO_14 := n2_
                  have HO364 := n3_
                  have HO367 := n4_
                  have HO371 := n5_
                  have BK345 := n6_
                  have BK346 := n7_
                  have HB := n8_
                  clear n0_ n1_ n2_ n3_ n4_ n5_ n6_ n7_ n8_ hb ho63
                  refine hK.out _ _ ⟨HS0_, HS1_⟩ (fun hHeld => ?_)
                  clear hK K
                  refine norm_ (a' := ?_) ?_ ?_
                  rotate_left
                  ·show Act.put _ (some 97) _ = _
                   simp only [Act.put, List.setIfInBounds_toArray, List.set_cons_zero, List.set_cons_succ, i64_w, i32_w]
                   rfl
                  exact norm_ (by simp only [putAll, Act.put, List.setIfInBounds_toArray, List.set_cons_zero, List.set_cons_succ]) (hCont (.slice Ao61 y362.length co61, v366, v370) _ ⟨hHeld, (by (with_reducible repeat (first | apply Kd.R_alloc | apply Kd.R_drewN | apply Kd.R_drew)); exact Kd.R_mono HO364.out (fun _ hk => ⟨hk.1.2, ⟨hk.2, ⟨hk.1.1.1, ⟨hk.1.1.2.1, hk.1.1.2.2⟩⟩⟩⟩)), (by (with_reducible repeat (first | apply Kd.R_alloc | apply Kd.R_drewN | apply Kd.R_drew)); exact Kd.R_mono HO367.out (fun _ hk => ⟨hk.1.2.2.2, ⟨hk.2, ⟨hk.1.1, ⟨hk.1.2.1, hk.1.2.2.1⟩⟩⟩⟩)), (by (with_reducible repeat (first | apply Kd.R_alloc | apply Kd.R_drewN | apply Kd.R_drew)); exact Kd.R_mono HO371.out (fun _ hk => ⟨hk.1.2, ⟨hk.2, ⟨hk.1.1.1.1.2, ⟨hk.1.1.1.2, hk.1.1.2⟩⟩⟩⟩)), (by (with_reducible repeat (first | apply Kd.R_alloc | apply Kd.R_drewN | apply Kd.R_drew)); exact Kd.R_mono HO_11.out (fun _ hk => ⟨hk.1.1.2.2, ⟨hk.1.2, ⟨hk.2, ⟨hk.1.1.1, hk.1.1.2.1⟩⟩⟩⟩)), (by (with_reducible repeat (first | apply Kd.R_alloc | apply Kd.R_drewN | apply Kd.R_drew)); exact Kd.R_mono HO_12.out (fun _ hk => ⟨hk.1.1.2.2, ⟨hk.1.2, ⟨hk.2, ⟨hk.1.1.1, hk.1.1.2.1⟩⟩⟩⟩)), (by (with_reducible repeat (first | apply Kd.R_alloc | apply Kd.R_drewN | apply Kd.R_drew)); exact Kd.R_mono HO_14.out (fun _ hk => ⟨hk.1.1.2.2, ⟨hk.1.2, ⟨hk.2, ⟨hk.1.1.1, hk.1.1.2.1⟩⟩⟩⟩)), (by (with_reducible repeat (first | refine blk_drewN ?_ _ | refine blk_drew ?_ | refine blk_alloc ?_ _)); exact BK345.out), (by (with_reducible repeat (first | refine blk_drewN ?_ _ | refine blk_drew ?_ | refine blk_alloc ?_ _)); exact BK346.out), (by repeat (first | (with_reducible first | exact HB.out | apply below_alloc | apply pw_below_drewN | apply below_drew1 | refine below_set ?_ GE345.out | refine below_set ?_ GE346.out) | exact HB.out))⟩)
                 ·skip
                  refine Kd.R_lit_step (Kd.int .i64) _ 3 ?hg (N := 97) ?hd (xs := ([rd x12_2 x16_3] : List Int)) (inner := [.int .i64 (rd x12_2 x16_3)]) (ok := fun _ => True) (okp := fun _ => True) ?hr ?hp (fun _ hk => hk) trivial (Below.refl _ _) (Nat.le_refl _) (by simp) ?_; (case hd => rfl); (case hg => rfl); (case hr => first | (go_simp; done) | (go_simp; rfl)); (case hp => exact (Reps.one (show Kd.M (Kd.int .i64) _ _ _ (rd x12_2 x16_3) [.int .i64 (rd x12_2 x16_3)] from rfl) (Reps.none _ _)))
                  intro v370 w60 ho61 hb hg_ hnew_
                  have HS0_ := (hb.cell (World.block_lt_of_cell? _ _ (hHeld.1))).trans (hHeld.1)
                  have HS1_ := (hb.cell (World.block_lt_of_cell? _ _ (hHeld.2))).trans (hHeld.2)
                  clear hg_ hnew_
                  (first | rw [← Ny369.out] at ho61 | (simp only [Int.reduceToNat] at ho61; rw [← Ny369.out] at ho61))
                  have n0_ := Aside0.mk (Kd.R_elder' (by (with_reducible repeat (first | apply Kd.R_alloc | apply Kd.R_drewN | apply Kd.R_drew)); exact HO_11.out) (Kd.R_base ho61) hb)
                  have n1_ := Aside0.mk (Kd.R_elder' (by (with_reducible repeat (first | apply Kd.R_alloc | apply Kd.R_drewN | apply Kd.R_drew)); exact HO_12.out) (Kd.R_base ho61) hb)
                  have n2_ := Aside0.mk (Kd.R_elder' (by (with_reducible repeat (first | apply Kd.R_alloc | apply Kd.R_drewN | apply Kd.R_drew)); exact HO_13.out) (Kd.R_base ho61) hb)
                  have n3_ := Aside0.mk (Kd.R_elder' (by (with_reducible repeat (first | apply Kd.R_alloc | apply Kd.R_drewN | apply Kd.R_drew)); exact HO_14.out) (Kd.R_base ho61) hb)
                  have n4_ := Aside0.mk (Kd.R_elder' (by (with_reducible repeat (first | apply Kd.R_alloc | apply Kd.R_drewN | apply Kd.R_drew)); exact HO364.out) (Kd.R_base ho61) hb)
                  have n5_ := Aside0.mk (Kd.R_lower (Kd.R_new' (Kd.R_new' (Kd.R_new' (Kd.R_new' (Kd.R_new' ho61 (Kd.R_lt (by (with_reducible repeat (first | apply Kd.R_alloc | apply Kd.R_drewN | apply Kd.R_drew)); exact HO_11.out))) (Kd.R_lt (by (with_reducible repeat (first | apply Kd.R_alloc | apply Kd.R_drewN | apply Kd.R_drew)); exact HO_12.out))) (Kd.R_lt (by (with_reducible repeat (first | apply Kd.R_alloc | apply Kd.R_drewN | apply Kd.R_drew)); exact HO_13.out))) (Kd.R_lt (by (with_reducible repeat (first | apply Kd.R_alloc | apply Kd.R_drewN | apply Kd.R_drew)); exact HO_14.out))) (Kd.R_lt (by (with_reducible repeat (first | apply Kd.R_alloc | apply Kd.R_drewN | apply Kd.R_drew)); exact HO364.out))) (below_size (by repeat (first | (with_reducible first | exact HB.out | apply below_alloc | apply pw_below_drewN | apply below_drew1 | refine below_set ?_ GE345.out | refine below_set ?_ GE346.out) | exact HB.out))))
                  have n6_ := Aside0.mk (blk_below (g := gb345) (o := .cells #[.int .i64 t340, .int .i64 t341, .int .i64 t342, .int .i64 t343] 24 (0, 0)) (by (with_reducible repeat (first | refine blk_drewN ?_ _ | refine blk_drew ?_ | refine blk_alloc ?_ _)); exact BK345.out) hb)
                  have n7_ := Aside0.mk (blk_below (g := gb346) (o := .cells #[.int .i64 ji14, .int .i64 ji15, .int .i64 t342, .int .i64 t343] 24 (0, 0)) (by (with_reducible repeat (first | refine blk_drewN ?_ _ | refine blk_drew ?_ | refine blk_alloc ?_ _)); exact BK346.out) hb)
                  have n8_ := Aside0.mk (below_step (by repeat (first | (with_reducible first | exact HB.out | apply below_alloc | apply pw_below_drewN | apply below_drew1 | refine below_set ?_ GE345.out | refine below_set ?_ GE346.out) | exact HB.out)) hb)
                  clear HO_11 HO_12 HO_13 HO_14 HO364 BK345 BK346 HB
                  have HO_11 := n0_
                  have HO_12 := n1_
                  have HO_13 := n2_
                  have HO_14 := n3_
                  have HO364 := n4_
                  have HO371 := n5_
                  have BK345 := n6_
                  have BK346 := n7_
                  have HB := n8_
                  clear n0_ n1_ n2_ n3_ n4_ n5_ n6_ n7_ n8_ hb ho61
                  obtain ⟨Ao63, co63, eo63⟩ := Kd.R_slice HO364.out
                  (first | subst eo63 | (injection eo63 with f1_ f2_ f3_; have f4_ := f1_.symm; have f5_ := f3_.symm; clear f1_ f2_ f3_; subst f4_; subst f5_))
                  refine hK.out _ _ ⟨HS0_, HS1_⟩ (fun hHeld => ?_)
                  clear hK K
                  refine norm_ (a' := ?_) ?_ ?_
                  rotate_left
                  ·show Act.put _ (some 97) _ = _
                   simp only [Act.put, List.setIfInBounds_toArray, List.set_cons_zero, List.set_cons_succ, i64_w, i32_w]
                   rfl
                  refine one_ (i := 6) (N := some 91) #[true, true, true, true, true, true, true, true, true, true, true, true, true, false, false, false] rfl rfl (one_of HT_.out (by kernel_rfl)) (by decide) (fun K hK => ?_)
                  refine Kd.R_append_rows_step (Kd.int .i64) (w0 := w) w.heap.size (by rfl) (.tmp 85) (.tmp 90) 22 3 (.int .i64 0) 8 rfl Try.underlying22 info3 rfl (by decide) (by omega) (.slice Ao54 x13_3.length co54) x13_3 y362 _ _ _ (fun k_ => some k_ ≠ (.slice (some ad361) x11_2.length co47 : Value).ownBlock ∧ some k_ ≠ (.slice (some ad368) x12_2.length co57 : Value).ownBlock ∧ some k_ ≠ (.slice Ao55 x14_3.length co55 : Value).ownBlock ∧ some k_ ≠ (.slice Ao63 y362.length co63 : Value).ownBlock ∧ some k_ ≠ (v370 : Value).ownBlock) (fun _ => False) rfl rfl ?aO ?aR (fun _ _ h => h) (fun _ h => h.elim) ?aF ?aB ?aS ?aL ?_
                  (case aR => repeat (first | exact (Kd.R_reads' HO364.out).2.2 | (with_reducible refine Kd.C_alloc ?_ _) | (with_reducible refine Kd.C_drewN ?_ _) | (with_reducible refine Kd.C_drew ?_)))
                  (case aB => exact (by repeat (first | (with_reducible first | exact HB.out | apply below_alloc | apply pw_below_drewN | apply below_drew1 | refine below_set ?_ GE345.out | refine below_set ?_ GE346.out) | exact HB.out)))
                  (case aF => exact (fun k_ hk => ⟨Kd.fresh' (Kd.R_lt (by (with_reducible repeat (first | apply Kd.R_alloc | apply Kd.R_drewN | apply Kd.R_drew)); exact HO_11.out)) k_ hk, Kd.fresh' (Kd.R_lt (by (with_reducible repeat (first | apply Kd.R_alloc | apply Kd.R_drewN | apply Kd.R_drew)); exact HO_12.out)) k_ hk, Kd.fresh' (Kd.R_lt (by (with_reducible repeat (first | apply Kd.R_alloc | apply Kd.R_drewN | apply Kd.R_drew)); exact HO_14.out)) k_ hk, Kd.fresh' (Kd.R_lt (by (with_reducible repeat (first | apply Kd.R_alloc | apply Kd.R_drewN | apply Kd.R_drew)); exact HO364.out)) k_ hk, Kd.fresh' (Kd.R_lt (by (with_reducible repeat (first | apply Kd.R_alloc | apply Kd.R_drewN | apply Kd.R_drew)); exact HO371.out)) k_ hk⟩))
                  (case aO => exact (by (with_reducible repeat (first | apply Kd.R_alloc | apply Kd.R_drewN | apply Kd.R_drew)); exact Kd.R_mono HO_13.out (fun _ hk => ⟨hk.1.1.1, ⟨hk.1.1.2.1, ⟨hk.1.1.2.2, ⟨hk.1.2, hk.2⟩⟩⟩⟩)))
                  (case aS => exact (below_size (by repeat (first | (with_reducible first | exact HB.out | apply below_alloc | apply pw_below_drewN | apply below_drew1 | refine below_set ?_ GE345.out | refine below_set ?_ GE346.out) | exact HB.out))))
                  (case aL => have := LMc51.out; omega)
                  intro v366 w62 ho hb hg hat
                  rw [← Ny365.out] at ho
                  have HZ_HO_11 : ∀ k_, (.slice (some ad361) x11_2.length co47 : Value).ownBlock = some k_ → some k_ ≠ (.slice Ao54 x13_3.length co54 : Value).ownBlock := fun k_ e_ => (HO_11.out.1 k_ e_).1.1.2.1
                  have HZ_HO_12 : ∀ k_, (.slice (some ad368) x12_2.length co57 : Value).ownBlock = some k_ → some k_ ≠ (.slice Ao54 x13_3.length co54 : Value).ownBlock := fun k_ e_ => (HO_12.out.1 k_ e_).1.1.2.1
                  have HZ_HO_14 : ∀ k_, (.slice Ao55 x14_3.length co55 : Value).ownBlock = some k_ → some k_ ≠ (.slice Ao54 x13_3.length co54 : Value).ownBlock := fun k_ e_ => (HO_14.out.1 k_ e_).1.1.2.2
                  have HZ_HO364 : ∀ k_, (.slice Ao63 y362.length co63 : Value).ownBlock = some k_ → some k_ ≠ (.slice Ao54 x13_3.length co54 : Value).ownBlock := fun k_ e_ => (HO364.out.1 k_ e_).1.1.2
                  have HZ_HO371 : ∀ k_, (v370 : Value).ownBlock = some k_ → some k_ ≠ (.slice Ao54 x13_3.length co54 : Value).ownBlock := fun k_ e_ => (HO371.out.1 k_ e_).1.1.2
                  (first | have HS0_ := cell_grown hg (hHeld.1) (by first | (rw [add_block]; exact HZ_HO_11 _ rfl) | (show some (Addr.add _ _).block ≠ _; rw [add_block]; exact HZ_HO_11 _ rfl) | exact HZ_HO_11 _ rfl) | have HS0_ := cell_grown hg (cell_unalloc (hHeld.1) (by first | (rw [add_block]; exact Kd.R_lt HO_11.out _ rfl) | (show (Addr.add _ _).block < _; rw [add_block]; exact Kd.R_lt HO_11.out _ rfl) | exact Kd.R_lt HO_11.out _ rfl)) (by first | (rw [add_block]; exact HZ_HO_11 _ rfl) | (show some (Addr.add _ _).block ≠ _; rw [add_block]; exact HZ_HO_11 _ rfl) | exact HZ_HO_11 _ rfl))
                  (first | have HS1_ := cell_grown hg (hHeld.2) (by first | (rw [add_block]; exact HZ_HO_12 _ rfl) | (show some (Addr.add _ _).block ≠ _; rw [add_block]; exact HZ_HO_12 _ rfl) | exact HZ_HO_12 _ rfl) | have HS1_ := cell_grown hg (cell_unalloc (hHeld.2) (by first | (rw [add_block]; exact Kd.R_lt HO_12.out _ rfl) | (show (Addr.add _ _).block < _; rw [add_block]; exact Kd.R_lt HO_12.out _ rfl) | exact Kd.R_lt HO_12.out _ rfl)) (by first | (rw [add_block]; exact HZ_HO_12 _ rfl) | (show some (Addr.add _ _).block ≠ _; rw [add_block]; exact HZ_HO_12 _ rfl) | exact HZ_HO_12 _ rfl))
                  clear HZ_HO_11 HZ_HO_12 HZ_HO_14 HZ_HO364 HZ_HO371
                  have n0_ := Aside0.mk (Kd.R_after (ok := (fun k_ => some k_ ≠ (.slice (some ad368) x12_2.length co57 : Value).ownBlock ∧ some k_ ≠ (.slice Ao55 x14_3.length co55 : Value).ownBlock ∧ some k_ ≠ (.slice Ao63 y362.length co63 : Value).ownBlock ∧ some k_ ≠ (v370 : Value).ownBlock)) (by (with_reducible repeat (first | apply Kd.R_alloc | apply Kd.R_drewN | apply Kd.R_drew)); exact Kd.R_mono HO_11.out (fun _ hk => ⟨⟨hk.1.1.1, ⟨hk.1.1.2.2, ⟨hk.1.2, hk.2⟩⟩⟩, hk.1.1.2.1⟩)) hg hat)
                  have n1_ := Aside0.mk (Kd.R_after (ok := (fun k_ => some k_ ≠ (.slice (some ad361) x11_2.length co47 : Value).ownBlock ∧ some k_ ≠ (.slice Ao55 x14_3.length co55 : Value).ownBlock ∧ some k_ ≠ (.slice Ao63 y362.length co63 : Value).ownBlock ∧ some k_ ≠ (v370 : Value).ownBlock)) (by (with_reducible repeat (first | apply Kd.R_alloc | apply Kd.R_drewN | apply Kd.R_drew)); exact Kd.R_mono HO_12.out (fun _ hk => ⟨⟨hk.1.1.1, ⟨hk.1.1.2.2, ⟨hk.1.2, hk.2⟩⟩⟩, hk.1.1.2.1⟩)) hg hat)
                  have n2_ := Aside0.mk (Kd.R_after (ok := (fun k_ => some k_ ≠ (.slice (some ad361) x11_2.length co47 : Value).ownBlock ∧ some k_ ≠ (.slice (some ad368) x12_2.length co57 : Value).ownBlock ∧ some k_ ≠ (.slice Ao63 y362.length co63 : Value).ownBlock ∧ some k_ ≠ (v370 : Value).ownBlock)) (by (with_reducible repeat (first | apply Kd.R_alloc | apply Kd.R_drewN | apply Kd.R_drew)); exact Kd.R_mono HO_14.out (fun _ hk => ⟨⟨hk.1.1.1, ⟨hk.1.1.2.1, ⟨hk.1.2, hk.2⟩⟩⟩, hk.1.1.2.2⟩)) hg hat)
                  have n3_ := Aside0.mk (blk_grown (g := gb345) (o := .cells #[.int .i64 t340, .int .i64 t341, .int .i64 t342, .int .i64 t343] 24 (0, 0)) (by (with_reducible repeat (first | refine blk_drewN ?_ _ | refine blk_drew ?_ | refine blk_alloc ?_ _)); exact BK345.out) hg (Kd.R_ne HO_13.out BK345.out (by decide)))
                  have n4_ := Aside0.mk (blk_grown (g := gb346) (o := .cells #[.int .i64 ji14, .int .i64 ji15, .int .i64 t342, .int .i64 t343] 24 (0, 0)) (by (with_reducible repeat (first | refine blk_drewN ?_ _ | refine blk_drew ?_ | refine blk_alloc ?_ _)); exact BK346.out) hg (Kd.R_ne HO_13.out BK346.out (by decide)))
                  have n5_ := Aside0.mk (Kd.R_after (ok := (fun k_ => some k_ ≠ (.slice (some ad361) x11_2.length co47 : Value).ownBlock ∧ some k_ ≠ (.slice (some ad368) x12_2.length co57 : Value).ownBlock ∧ some k_ ≠ (.slice Ao55 x14_3.length co55 : Value).ownBlock ∧ some k_ ≠ (v370 : Value).ownBlock)) (by (with_reducible repeat (first | apply Kd.R_alloc | apply Kd.R_drewN | apply Kd.R_drew)); exact Kd.R_mono HO364.out (fun _ hk => ⟨⟨hk.1.1.1.1.2, ⟨hk.1.1.1.2, ⟨hk.1.2, hk.2⟩⟩⟩, hk.1.1.2⟩)) hg hat)
                  have n6_ := Aside0.mk (Kd.R_after (ok := (fun k_ => some k_ ≠ (.slice (some ad361) x11_2.length co47 : Value).ownBlock ∧ some k_ ≠ (.slice (some ad368) x12_2.length co57 : Value).ownBlock ∧ some k_ ≠ (.slice Ao55 x14_3.length co55 : Value).ownBlock ∧ some k_ ≠ (.slice Ao63 y362.length co63 : Value).ownBlock)) (by (with_reducible repeat (first | apply Kd.R_alloc | apply Kd.R_drewN | apply Kd.R_drew)); exact Kd.R_mono HO371.out (fun _ hk => ⟨⟨hk.1.1.1.1.2, ⟨hk.1.1.1.2, ⟨hk.1.2, hk.2⟩⟩⟩, hk.1.1.2⟩)) hg hat)
                  have n7_ := Aside0.mk (hb)
                  have n8_ := Aside0.mk (ho)
                  clear HO_11 HO_12 HO_14 BK345 BK346 HO364 HO371 HB HO_13
                  have HO_11 := n0_
                  have HO_12 := n1_
                  have HO_14 := n2_
                  have BK345 := n3_
                  have BK346 := n4_
                  have HO364 := n5_
                  have HO371 := n6_
                  have HB := n7_
                  have HO367 := n8_
                  clear n0_ n1_ n2_ n3_ n4_ n5_ n6_ n7_ n8_ ho hb hg hat
                  refine hK.out _ _ ⟨HS0_, HS1_⟩ (fun hHeld => ?_)
                  clear hK K
                  refine norm_ (a' := ?_) ?_ ?_
                  rotate_left
                  ·show Act.put _ (some 91) _ = _
                   simp only [Act.put, List.setIfInBounds_toArray, List.set_cons_zero, List.set_cons_succ, i64_w, i32_w]
                   rfl
                  exact norm_ (by simp only [putAll, Act.put, List.setIfInBounds_toArray, List.set_cons_zero, List.set_cons_succ]) (hCont (.slice Ao63 y362.length co63, v366, v370) _ ⟨hHeld, (by (with_reducible repeat (first | apply Kd.R_alloc | apply Kd.R_drewN | apply Kd.R_drew)); exact Kd.R_mono HO364.out (fun _ hk => ⟨hk.2, ⟨hk.1.2.2.2, ⟨hk.1.1, ⟨hk.1.2.1, hk.1.2.2.1⟩⟩⟩⟩)), (by (with_reducible repeat (first | apply Kd.R_alloc | apply Kd.R_drewN | apply Kd.R_drew)); exact Kd.R_mono HO367.out (fun _ hk => ⟨hk.2.2.2.1, ⟨hk.2.2.2.2, ⟨hk.1, ⟨hk.2.1, hk.2.2.1⟩⟩⟩⟩)), (by (with_reducible repeat (first | apply Kd.R_alloc | apply Kd.R_drewN | apply Kd.R_drew)); exact Kd.R_mono HO371.out (fun _ hk => ⟨hk.1.2.2.2, ⟨hk.2, ⟨hk.1.1, ⟨hk.1.2.1, hk.1.2.2.1⟩⟩⟩⟩)), (by (with_reducible repeat (first | apply Kd.R_alloc | apply Kd.R_drewN | apply Kd.R_drew)); exact Kd.R_mono HO_11.out (fun _ hk => ⟨hk.1.2.2.1, ⟨hk.2, ⟨hk.1.2.2.2, ⟨hk.1.1, hk.1.2.1⟩⟩⟩⟩)), (by (with_reducible repeat (first | apply Kd.R_alloc | apply Kd.R_drewN | apply Kd.R_drew)); exact Kd.R_mono HO_12.out (fun _ hk => ⟨hk.1.2.2.1, ⟨hk.2, ⟨hk.1.2.2.2, ⟨hk.1.1, hk.1.2.1⟩⟩⟩⟩)), (by (with_reducible repeat (first | apply Kd.R_alloc | apply Kd.R_drewN | apply Kd.R_drew)); exact Kd.R_mono HO_14.out (fun _ hk => ⟨hk.1.2.2.1, ⟨hk.2, ⟨hk.1.2.2.2, ⟨hk.1.1, hk.1.2.1⟩⟩⟩⟩)), (by (with_reducible repeat (first | refine blk_drewN ?_ _ | refine blk_drew ?_ | refine blk_alloc ?_ _)); exact BK345.out), (by (with_reducible repeat (first | refine blk_drewN ?_ _ | refine blk_drew ?_ | refine blk_alloc ?_ _)); exact BK346.out), (by repeat (first | (with_reducible first | exact HB.out | apply below_alloc | apply pw_below_drewN | apply below_drew1 | refine below_set ?_ GE345.out | refine below_set ?_ GE346.out) | exact HB.out))⟩)
                ·skip
                 refine Kd.R_lit_step (Kd.int .i64) _ 3 ?hg (N := 97) ?hd (xs := ([rd x12_2 x16_3] : List Int)) (inner := [.int .i64 (rd x12_2 x16_3)]) (ok := fun _ => True) (okp := fun _ => True) ?hr ?hp (fun _ hk => hk) trivial (Below.refl _ _) (Nat.le_refl _) (by simp) ?_; (case hd => rfl); (case hg => rfl); (case hr => first | (go_simp; done) | (go_simp; rfl)); (case hp => exact (Reps.one (show Kd.M (Kd.int .i64) _ _ _ (rd x12_2 x16_3) [.int .i64 (rd x12_2 x16_3)] from rfl) (Reps.none _ _)))
                 intro v370 w58 ho59 hb hg_ hnew_
                 have HS0_ := (hb.cell (World.block_lt_of_cell? _ _ (hHeld.1))).trans (hHeld.1)
                 have HS1_ := (hb.cell (World.block_lt_of_cell? _ _ (hHeld.2))).trans (hHeld.2)
                 clear hg_ hnew_
                 (first | rw [← Ny369.out] at ho59 | (simp only [Int.reduceToNat] at ho59; rw [← Ny369.out] at ho59))
                 have n0_ := Aside0.mk (Kd.R_elder' (by (with_reducible repeat (first | apply Kd.R_alloc | apply Kd.R_drewN | apply Kd.R_drew)); exact HO_11.out) (Kd.R_base ho59) hb)
                 have n1_ := Aside0.mk (Kd.R_elder' (by (with_reducible repeat (first | apply Kd.R_alloc | apply Kd.R_drewN | apply Kd.R_drew)); exact HO_12.out) (Kd.R_base ho59) hb)
                 have n2_ := Aside0.mk (Kd.R_elder' (by (with_reducible repeat (first | apply Kd.R_alloc | apply Kd.R_drewN | apply Kd.R_drew)); exact HO_13.out) (Kd.R_base ho59) hb)
                 have n3_ := Aside0.mk (Kd.R_elder' (by (with_reducible repeat (first | apply Kd.R_alloc | apply Kd.R_drewN | apply Kd.R_drew)); exact HO_14.out) (Kd.R_base ho59) hb)
                 have n4_ := Aside0.mk (Kd.R_lower (Kd.R_new' (Kd.R_new' (Kd.R_new' (Kd.R_new' ho59 (Kd.R_lt (by (with_reducible repeat (first | apply Kd.R_alloc | apply Kd.R_drewN | apply Kd.R_drew)); exact HO_11.out))) (Kd.R_lt (by (with_reducible repeat (first | apply Kd.R_alloc | apply Kd.R_drewN | apply Kd.R_drew)); exact HO_12.out))) (Kd.R_lt (by (with_reducible repeat (first | apply Kd.R_alloc | apply Kd.R_drewN | apply Kd.R_drew)); exact HO_13.out))) (Kd.R_lt (by (with_reducible repeat (first | apply Kd.R_alloc | apply Kd.R_drewN | apply Kd.R_drew)); exact HO_14.out))) (below_size (by repeat (first | (with_reducible first | exact HB.out | apply below_alloc | apply pw_below_drewN | apply below_drew1 | refine below_set ?_ GE345.out | refine below_set ?_ GE346.out) | exact HB.out))))
                 have n5_ := Aside0.mk (blk_below (g := gb345) (o := .cells #[.int .i64 t340, .int .i64 t341, .int .i64 t342, .int .i64 t343] 24 (0, 0)) (by (with_reducible repeat (first | refine blk_drewN ?_ _ | refine blk_drew ?_ | refine blk_alloc ?_ _)); exact BK345.out) hb)
                 have n6_ := Aside0.mk (blk_below (g := gb346) (o := .cells #[.int .i64 ji14, .int .i64 ji15, .int .i64 t342, .int .i64 t343] 24 (0, 0)) (by (with_reducible repeat (first | refine blk_drewN ?_ _ | refine blk_drew ?_ | refine blk_alloc ?_ _)); exact BK346.out) hb)
                 have n7_ := Aside0.mk (below_step (by repeat (first | (with_reducible first | exact HB.out | apply below_alloc | apply pw_below_drewN | apply below_drew1 | refine below_set ?_ GE345.out | refine below_set ?_ GE346.out) | exact HB.out)) hb)
                 clear HO_11 HO_12 HO_13 HO_14 BK345 BK346 HB
                 have HO_11 := n0_
                 have HO_12 := n1_
                 have HO_13 := n2_
                 have HO_14 := n3_
                 have HO371 := n4_
                 have BK345 := n5_
                 have BK346 := n6_
                 have HB := n7_
                 clear n0_ n1_ n2_ n3_ n4_ n5_ n6_ n7_ hb ho59
                 refine hK.out _ _ ⟨HS0_, HS1_⟩ (fun hHeld => ?_)
                 clear hK K
                 refine norm_ (a' := ?_) ?_ ?_
                 rotate_left
                 ·show Act.put _ (some 97) _ = _
                  simp only [Act.put, List.setIfInBounds_toArray, List.set_cons_zero, List.set_cons_succ, i64_w, i32_w]
                  rfl
                 refine one_ (i := 5) (N := some 90) #[true, true, true, true, true, true, false, true, true, true, true, true, true, false, false, false] rfl rfl (one_of HT_.out (by kernel_rfl)) (by decide) (fun K hK => ?_)
                 refine Kd.R_lit_step (Kd.int .i64) _ 3 ?hg (N := 90) ?hd (xs := ([rd x11_2 x16_3] : List Int)) (inner := [.int .i64 (rd x11_2 x16_3)]) (ok := fun _ => True) (okp := fun _ => True) ?hr ?hp (fun _ hk => hk) trivial (Below.refl _ _) (Nat.le_refl _) (by simp) ?_; (case hd => rfl); (case hg => rfl); (case hr => first | (go_simp; done) | (go_simp; rfl)); (case hp => exact (Reps.one (show Kd.M (Kd.int .i64) _ _ _ (rd x11_2 x16_3) [.int .i64 (rd x11_2 x16_3)] from rfl) (Reps.none _ _)))
                 intro v363 w60 ho61 hb hg_ hnew_
                 have HS0_ := (hb.cell (World.block_lt_of_cell? _ _ (hHeld.1))).trans (hHeld.1)
                 have HS1_ := (hb.cell (World.block_lt_of_cell? _ _ (hHeld.2))).trans (hHeld.2)
                 clear hg_ hnew_
                 (first | rw [← Ny362.out] at ho61 | (simp only [Int.reduceToNat] at ho61; rw [← Ny362.out] at ho61))
                 have n0_ := Aside0.mk (Kd.R_elder' (by (with_reducible repeat (first | apply Kd.R_alloc | apply Kd.R_drewN | apply Kd.R_drew)); exact HO_11.out) (Kd.R_base ho61) hb)
                 have n1_ := Aside0.mk (Kd.R_elder' (by (with_reducible repeat (first | apply Kd.R_alloc | apply Kd.R_drewN | apply Kd.R_drew)); exact HO_12.out) (Kd.R_base ho61) hb)
                 have n2_ := Aside0.mk (Kd.R_elder' (by (with_reducible repeat (first | apply Kd.R_alloc | apply Kd.R_drewN | apply Kd.R_drew)); exact HO_13.out) (Kd.R_base ho61) hb)
                 have n3_ := Aside0.mk (Kd.R_elder' (by (with_reducible repeat (first | apply Kd.R_alloc | apply Kd.R_drewN | apply Kd.R_drew)); exact HO_14.out) (Kd.R_base ho61) hb)
                 have n4_ := Aside0.mk (Kd.R_elder' (by (with_reducible repeat (first | apply Kd.R_alloc | apply Kd.R_drewN | apply Kd.R_drew)); exact HO371.out) (Kd.R_base ho61) hb)
                 have n5_ := Aside0.mk (Kd.R_lower (Kd.R_new' (Kd.R_new' (Kd.R_new' (Kd.R_new' (Kd.R_new' ho61 (Kd.R_lt (by (with_reducible repeat (first | apply Kd.R_alloc | apply Kd.R_drewN | apply Kd.R_drew)); exact HO_11.out))) (Kd.R_lt (by (with_reducible repeat (first | apply Kd.R_alloc | apply Kd.R_drewN | apply Kd.R_drew)); exact HO_12.out))) (Kd.R_lt (by (with_reducible repeat (first | apply Kd.R_alloc | apply Kd.R_drewN | apply Kd.R_drew)); exact HO_13.out))) (Kd.R_lt (by (with_reducible repeat (first | apply Kd.R_alloc | apply Kd.R_drewN | apply Kd.R_drew)); exact HO_14.out))) (Kd.R_lt (by (with_reducible repeat (first | apply Kd.R_alloc | apply Kd.R_drewN | apply Kd.R_drew)); exact HO371.out))) (below_size (by repeat (first | (with_reducible first | exact HB.out | apply below_alloc | apply pw_below_drewN | apply below_drew1 | refine below_set ?_ GE345.out | refine below_set ?_ GE346.out) | exact HB.out))))
                 have n6_ := Aside0.mk (blk_below (g := gb345) (o := .cells #[.int .i64 t340, .int .i64 t341, .int .i64 t342, .int .i64 t343] 24 (0, 0)) (by (with_reducible repeat (first | refine blk_drewN ?_ _ | refine blk_drew ?_ | refine blk_alloc ?_ _)); exact BK345.out) hb)
                 have n7_ := Aside0.mk (blk_below (g := gb346) (o := .cells #[.int .i64 ji14, .int .i64 ji15, .int .i64 t342, .int .i64 t343] 24 (0, 0)) (by (with_reducible repeat (first | refine blk_drewN ?_ _ | refine blk_drew ?_ | refine blk_alloc ?_ _)); exact BK346.out) hb)
                 have n8_ := Aside0.mk (below_step (by repeat (first | (with_reducible first | exact HB.out | apply below_alloc | apply pw_below_drewN | apply below_drew1 | refine below_set ?_ GE345.out | refine below_set ?_ GE346.out) | exact HB.out)) hb)
                 clear HO_11 HO_12 HO_13 HO_14 HO371 BK345 BK346 HB
                 have HO_11 := n0_
                 have HO_12 := n1_
                 have HO_13 := n2_
                 have HO_14 := n3_
                 have HO371 := n4_
                 have HO364 := n5_
                 have BK345 := n6_
                 have BK346 := n7_
                 have HB := n8_
                 clear n0_ n1_ n2_ n3_ n4_ n5_ n6_ n7_ n8_ hb ho61
                 obtain ⟨Ao63, co63, eo63⟩ := Kd.R_slice HO364.out
                 (first | subst eo63 | (injection eo63 with f1_ f2_ f3_; have f4_ := f1_.symm; have f5_ := f3_.symm; clear f1_ f2_ f3_; subst f4_; subst f5_))
                 refine hK.out _ _ ⟨HS0_, HS1_⟩ (fun hHeld => ?_)
                 clear hK K
                 refine norm_ (a' := ?_) ?_ ?_
                 rotate_left
                 ·show Act.put _ (some 90) _ = _
                  simp only [Act.put, List.setIfInBounds_toArray, List.set_cons_zero, List.set_cons_succ, i64_w, i32_w]
                  rfl
                 refine one_ (i := 6) (N := some 91) #[true, true, true, true, true, true, true, true, true, true, true, true, true, false, false, false] rfl rfl (one_of HT_.out (by kernel_rfl)) (by decide) (fun K hK => ?_)
                 refine Kd.R_append_rows_step (Kd.int .i64) (w0 := w) w.heap.size (by rfl) (.tmp 85) (.tmp 90) 22 3 (.int .i64 0) 8 rfl Try.underlying22 info3 rfl (by decide) (by omega) (.slice Ao54 x13_3.length co54) x13_3 y362 _ _ _ (fun k_ => some k_ ≠ (.slice (some ad361) x11_2.length co47 : Value).ownBlock ∧ some k_ ≠ (.slice (some ad368) x12_2.length co57 : Value).ownBlock ∧ some k_ ≠ (.slice Ao55 x14_3.length co55 : Value).ownBlock ∧ some k_ ≠ (v370 : Value).ownBlock ∧ some k_ ≠ (.slice Ao63 y362.length co63 : Value).ownBlock) (fun _ => False) rfl rfl ?aO ?aR (fun _ _ h => h) (fun _ h => h.elim) ?aF ?aB ?aS ?aL ?_
                 (case aR => repeat (first | exact (Kd.R_reads' HO364.out).2.2 | (with_reducible refine Kd.C_alloc ?_ _) | (with_reducible refine Kd.C_drewN ?_ _) | (with_reducible refine Kd.C_drew ?_)))
                 (case aB => exact (by repeat (first | (with_reducible first | exact HB.out | apply below_alloc | apply pw_below_drewN | apply below_drew1 | refine below_set ?_ GE345.out | refine below_set ?_ GE346.out) | exact HB.out)))
                 (case aF => exact (fun k_ hk => ⟨Kd.fresh' (Kd.R_lt (by (with_reducible repeat (first | apply Kd.R_alloc | apply Kd.R_drewN | apply Kd.R_drew)); exact HO_11.out)) k_ hk, Kd.fresh' (Kd.R_lt (by (with_reducible repeat (first | apply Kd.R_alloc | apply Kd.R_drewN | apply Kd.R_drew)); exact HO_12.out)) k_ hk, Kd.fresh' (Kd.R_lt (by (with_reducible repeat (first | apply Kd.R_alloc | apply Kd.R_drewN | apply Kd.R_drew)); exact HO_14.out)) k_ hk, Kd.fresh' (Kd.R_lt (by (with_reducible repeat (first | apply Kd.R_alloc | apply Kd.R_drewN | apply Kd.R_drew)); exact HO371.out)) k_ hk, Kd.fresh' (Kd.R_lt (by (with_reducible repeat (first | apply Kd.R_alloc | apply Kd.R_drewN | apply Kd.R_drew)); exact HO364.out)) k_ hk⟩))
                 (case aO => exact (by (with_reducible repeat (first | apply Kd.R_alloc | apply Kd.R_drewN | apply Kd.R_drew)); exact Kd.R_mono HO_13.out (fun _ hk => ⟨hk.1.1.1, ⟨hk.1.1.2.1, ⟨hk.1.1.2.2, ⟨hk.1.2, hk.2⟩⟩⟩⟩)))
                 (case aS => exact (below_size (by repeat (first | (with_reducible first | exact HB.out | apply below_alloc | apply pw_below_drewN | apply below_drew1 | refine below_set ?_ GE345.out | refine below_set ?_ GE346.out) | exact HB.out))))
                 (case aL => have := LMc51.out; omega)
                 intro v366 w62 ho hb hg hat
                 rw [← Ny365.out] at ho
                 have HZ_HO_11 : ∀ k_, (.slice (some ad361) x11_2.length co47 : Value).ownBlock = some k_ → some k_ ≠ (.slice Ao54 x13_3.length co54 : Value).ownBlock := fun k_ e_ => (HO_11.out.1 k_ e_).1.1.2.1
                 have HZ_HO_12 : ∀ k_, (.slice (some ad368) x12_2.length co57 : Value).ownBlock = some k_ → some k_ ≠ (.slice Ao54 x13_3.length co54 : Value).ownBlock := fun k_ e_ => (HO_12.out.1 k_ e_).1.1.2.1
                 have HZ_HO_14 : ∀ k_, (.slice Ao55 x14_3.length co55 : Value).ownBlock = some k_ → some k_ ≠ (.slice Ao54 x13_3.length co54 : Value).ownBlock := fun k_ e_ => (HO_14.out.1 k_ e_).1.1.2.2
                 have HZ_HO371 : ∀ k_, (v370 : Value).ownBlock = some k_ → some k_ ≠ (.slice Ao54 x13_3.length co54 : Value).ownBlock := fun k_ e_ => (HO371.out.1 k_ e_).1.1.2
                 have HZ_HO364 : ∀ k_, (.slice Ao63 y362.length co63 : Value).ownBlock = some k_ → some k_ ≠ (.slice Ao54 x13_3.length co54 : Value).ownBlock := fun k_ e_ => (HO364.out.1 k_ e_).1.1.2
                 (first | have HS0_ := cell_grown hg (hHeld.1) (by first | (rw [add_block]; exact HZ_HO_11 _ rfl) | (show some (Addr.add _ _).block ≠ _; rw [add_block]; exact HZ_HO_11 _ rfl) | exact HZ_HO_11 _ rfl) | have HS0_ := cell_grown hg (cell_unalloc (hHeld.1) (by first | (rw [add_block]; exact Kd.R_lt HO_11.out _ rfl) | (show (Addr.add _ _).block < _; rw [add_block]; exact Kd.R_lt HO_11.out _ rfl) | exact Kd.R_lt HO_11.out _ rfl)) (by first | (rw [add_block]; exact HZ_HO_11 _ rfl) | (show some (Addr.add _ _).block ≠ _; rw [add_block]; exact HZ_HO_11 _ rfl) | exact HZ_HO_11 _ rfl))
                 (first | have HS1_ := cell_grown hg (hHeld.2) (by first | (rw [add_block]; exact HZ_HO_12 _ rfl) | (show some (Addr.add _ _).block ≠ _; rw [add_block]; exact HZ_HO_12 _ rfl) | exact HZ_HO_12 _ rfl) | have HS1_ := cell_grown hg (cell_unalloc (hHeld.2) (by first | (rw [add_block]; exact Kd.R_lt HO_12.out _ rfl) | (show (Addr.add _ _).block < _; rw [add_block]; exact Kd.R_lt HO_12.out _ rfl) | exact Kd.R_lt HO_12.out _ rfl)) (by first | (rw [add_block]; exact HZ_HO_12 _ rfl) | (show some (Addr.add _ _).block ≠ _; rw [add_block]; exact HZ_HO_12 _ rfl) | exact HZ_HO_12 _ rfl))
                 clear HZ_HO_11 HZ_HO_12 HZ_HO_14 HZ_HO371 HZ_HO364
                 have n0_ := Aside0.mk (Kd.R_after (ok := (fun k_ => some k_ ≠ (.slice (some ad368) x12_2.length co57 : Value).ownBlock ∧ some k_ ≠ (.slice Ao55 x14_3.length co55 : Value).ownBlock ∧ some k_ ≠ (v370 : Value).ownBlock ∧ some k_ ≠ (.slice Ao63 y362.length co63 : Value).ownBlock)) (by (with_reducible repeat (first | apply Kd.R_alloc | apply Kd.R_drewN | apply Kd.R_drew)); exact Kd.R_mono HO_11.out (fun _ hk => ⟨⟨hk.1.1.1, ⟨hk.1.1.2.2, ⟨hk.1.2, hk.2⟩⟩⟩, hk.1.1.2.1⟩)) hg hat)
                 have n1_ := Aside0.mk (Kd.R_after (ok := (fun k_ => some k_ ≠ (.slice (some ad361) x11_2.length co47 : Value).ownBlock ∧ some k_ ≠ (.slice Ao55 x14_3.length co55 : Value).ownBlock ∧ some k_ ≠ (v370 : Value).ownBlock ∧ some k_ ≠ (.slice Ao63 y362.length co63 : Value).ownBlock)) (by (with_reducible repeat (first | apply Kd.R_alloc | apply Kd.R_drewN | apply Kd.R_drew)); exact Kd.R_mono HO_12.out (fun _ hk => ⟨⟨hk.1.1.1, ⟨hk.1.1.2.2, ⟨hk.1.2, hk.2⟩⟩⟩, hk.1.1.2.1⟩)) hg hat)
                 have n2_ := Aside0.mk (Kd.R_after (ok := (fun k_ => some k_ ≠ (.slice (some ad361) x11_2.length co47 : Value).ownBlock ∧ some k_ ≠ (.slice (some ad368) x12_2.length co57 : Value).ownBlock ∧ some k_ ≠ (v370 : Value).ownBlock ∧ some k_ ≠ (.slice Ao63 y362.length co63 : Value).ownBlock)) (by (with_reducible repeat (first | apply Kd.R_alloc | apply Kd.R_drewN | apply Kd.R_drew)); exact Kd.R_mono HO_14.out (fun _ hk => ⟨⟨hk.1.1.1, ⟨hk.1.1.2.1, ⟨hk.1.2, hk.2⟩⟩⟩, hk.1.1.2.2⟩)) hg hat)
                 have n3_ := Aside0.mk (blk_grown (g := gb345) (o := .cells #[.int .i64 t340, .int .i64 t341, .int .i64 t342, .int .i64 t343] 24 (0, 0)) (by (with_reducible repeat (first | refine blk_drewN ?_ _ | refine blk_drew ?_ | refine blk_alloc ?_ _)); exact BK345.out) hg (Kd.R_ne HO_13.out BK345.out (by decide)))
                 have n4_ := Aside0.mk (blk_grown (g := gb346) (o := .cells #[.int .i64 ji14, .int .i64 ji15, .int .i64 t342, .int .i64 t343] 24 (0, 0)) (by (with_reducible repeat (first | refine blk_drewN ?_ _ | refine blk_drew ?_ | refine blk_alloc ?_ _)); exact BK346.out) hg (Kd.R_ne HO_13.out BK346.out (by decide)))
                 have n5_ := Aside0.mk (Kd.R_after (ok := (fun k_ => some k_ ≠ (.slice (some ad361) x11_2.length co47 : Value).ownBlock ∧ some k_ ≠ (.slice (some ad368) x12_2.length co57 : Value).ownBlock ∧ some k_ ≠ (.slice Ao55 x14_3.length co55 : Value).ownBlock ∧ some k_ ≠ (.slice Ao63 y362.length co63 : Value).ownBlock)) (by (with_reducible repeat (first | apply Kd.R_alloc | apply Kd.R_drewN | apply Kd.R_drew)); exact Kd.R_mono HO371.out (fun _ hk => ⟨⟨hk.1.1.1.1.2, ⟨hk.1.1.1.2, ⟨hk.1.2, hk.2⟩⟩⟩, hk.1.1.2⟩)) hg hat)
                 have n6_ := Aside0.mk (Kd.R_after (ok := (fun k_ => some k_ ≠ (.slice (some ad361) x11_2.length co47 : Value).ownBlock ∧ some k_ ≠ (.slice (some ad368) x12_2.length co57 : Value).ownBlock ∧ some k_ ≠ (.slice Ao55 x14_3.length co55 : Value).ownBlock ∧ some k_ ≠ (v370 : Value).ownBlock)) (by (with_reducible repeat (first | apply Kd.R_alloc | apply Kd.R_drewN | apply Kd.R_drew)); exact Kd.R_mono HO364.out (fun _ hk => ⟨⟨hk.1.1.1.1.2, ⟨hk.1.1.1.2, ⟨hk.1.2, hk.2⟩⟩⟩, hk.1.1.2⟩)) hg hat)
                 have n7_ := Aside0.mk (hb)
                 have n8_ := Aside0.mk (ho)
                 clear HO_11 HO_12 HO_14 BK345 BK346 HO371 HO364 HB HO_13
                 have HO_11 := n0_
                 have HO_12 := n1_
                 have HO_14 := n2_
                 have BK345 := n3_
                 have BK346 := n4_
                 have HO371 := n5_
                 have HO364 := n6_
                 have HB := n7_
                 have HO367 := n8_
                 clear n0_ n1_ n2_ n3_ n4_ n5_ n6_ n7_ n8_ ho hb hg hat
                 refine hK.out _ _ ⟨HS0_, HS1_⟩ (fun hHeld => ?_)
                 clear hK K
                 refine norm_ (a' := ?_) ?_ ?_
                 rotate_left
                 ·show Act.put _ (some 91) _ = _
                  simp only [Act.put, List.setIfInBounds_toArray, List.set_cons_zero, List.set_cons_succ, i64_w, i32_w]
                  rfl
                 exact norm_ (by simp only [putAll, Act.put, List.setIfInBounds_toArray, List.set_cons_zero, List.set_cons_succ]) (hCont (.slice Ao63 y362.length co63, v366, v370) _ ⟨hHeld, (by (with_reducible repeat (first | apply Kd.R_alloc | apply Kd.R_drewN | apply Kd.R_drew)); exact Kd.R_mono HO364.out (fun _ hk => ⟨hk.2, ⟨hk.1.2.2.2, ⟨hk.1.1, ⟨hk.1.2.1, hk.1.2.2.1⟩⟩⟩⟩)), (by (with_reducible repeat (first | apply Kd.R_alloc | apply Kd.R_drewN | apply Kd.R_drew)); exact Kd.R_mono HO367.out (fun _ hk => ⟨hk.2.2.2.2, ⟨hk.2.2.2.1, ⟨hk.1, ⟨hk.2.1, hk.2.2.1⟩⟩⟩⟩)), (by (with_reducible repeat (first | apply Kd.R_alloc | apply Kd.R_drewN | apply Kd.R_drew)); exact Kd.R_mono HO371.out (fun _ hk => ⟨hk.1.2.2.2, ⟨hk.2, ⟨hk.1.1, ⟨hk.1.2.1, hk.1.2.2.1⟩⟩⟩⟩)), (by (with_reducible repeat (first | apply Kd.R_alloc | apply Kd.R_drewN | apply Kd.R_drew)); exact Kd.R_mono HO_11.out (fun _ hk => ⟨hk.1.2.2.2, ⟨hk.2, ⟨hk.1.2.2.1, ⟨hk.1.1, hk.1.2.1⟩⟩⟩⟩)), (by (with_reducible repeat (first | apply Kd.R_alloc | apply Kd.R_drewN | apply Kd.R_drew)); exact Kd.R_mono HO_12.out (fun _ hk => ⟨hk.1.2.2.2, ⟨hk.2, ⟨hk.1.2.2.1, ⟨hk.1.1, hk.1.2.1⟩⟩⟩⟩)), (by (with_reducible repeat (first | apply Kd.R_alloc | apply Kd.R_drewN | apply Kd.R_drew)); exact Kd.R_mono HO_14.out (fun _ hk => ⟨hk.1.2.2.2, ⟨hk.2, ⟨hk.1.2.2.1, ⟨hk.1.1, hk.1.2.1⟩⟩⟩⟩)), (by (with_reducible repeat (first | refine blk_drewN ?_ _ | refine blk_drew ?_ | refine blk_alloc ?_ _)); exact BK345.out), (by (with_reducible repeat (first | refine blk_drewN ?_ _ | refine blk_drew ?_ | refine blk_alloc ?_ _)); exact BK346.out), (by repeat (first | (with_reducible first | exact HB.out | apply below_alloc | apply pw_below_drewN | apply below_drew1 | refine below_set ?_ GE345.out | refine below_set ?_ GE346.out) | exact HB.out))⟩)
               rintro ⟨v363, v366, v370⟩ w64 ⟨hS_, h0_, h1_, h2_, h3_, h4_, h5_, h6_, h7_, h8_⟩
               have n0_ : Aside0 (Kd.R (Kd.int .i64) 3 w64 w.heap.size (fun k_ => some k_ ≠ (v366 : Value).ownBlock ∧ some k_ ≠ (v370 : Value).ownBlock ∧ some k_ ≠ (.slice (some ad361) x11_2.length co47 : Value).ownBlock ∧ some k_ ≠ (.slice (some ad368) x12_2.length co57 : Value).ownBlock ∧ some k_ ≠ (.slice Ao55 x14_3.length co55 : Value).ownBlock) v363 y362) := ⟨h0_⟩
               have n1_ : Aside0 (Kd.R (Kd.int .i64) 3 w64 w.heap.size (fun k_ => some k_ ≠ (v363 : Value).ownBlock ∧ some k_ ≠ (v370 : Value).ownBlock ∧ some k_ ≠ (.slice (some ad361) x11_2.length co47 : Value).ownBlock ∧ some k_ ≠ (.slice (some ad368) x12_2.length co57 : Value).ownBlock ∧ some k_ ≠ (.slice Ao55 x14_3.length co55 : Value).ownBlock) v366 y365) := ⟨h1_⟩
               have n2_ : Aside0 (Kd.R (Kd.int .i64) 3 w64 w.heap.size (fun k_ => some k_ ≠ (v363 : Value).ownBlock ∧ some k_ ≠ (v366 : Value).ownBlock ∧ some k_ ≠ (.slice (some ad361) x11_2.length co47 : Value).ownBlock ∧ some k_ ≠ (.slice (some ad368) x12_2.length co57 : Value).ownBlock ∧ some k_ ≠ (.slice Ao55 x14_3.length co55 : Value).ownBlock) v370 y369) := ⟨h2_⟩
               have n3_ : Aside0 (Kd.R (Kd.int .i64) 3 w64 w.heap.size (fun k_ => some k_ ≠ (v363 : Value).ownBlock ∧ some k_ ≠ (v366 : Value).ownBlock ∧ some k_ ≠ (v370 : Value).ownBlock ∧ some k_ ≠ (.slice (some ad368) x12_2.length co57 : Value).ownBlock ∧ some k_ ≠ (.slice Ao55 x14_3.length co55 : Value).ownBlock) (.slice (some ad361) x11_2.length co47) x11_2) := ⟨h3_⟩
               have n4_ : Aside0 (Kd.R (Kd.int .i64) 3 w64 w.heap.size (fun k_ => some k_ ≠ (v363 : Value).ownBlock ∧ some k_ ≠ (v366 : Value).ownBlock ∧ some k_ ≠ (v370 : Value).ownBlock ∧ some k_ ≠ (.slice (some ad361) x11_2.length co47 : Value).ownBlock ∧ some k_ ≠ (.slice Ao55 x14_3.length co55 : Value).ownBlock) (.slice (some ad368) x12_2.length co57) x12_2) := ⟨h4_⟩
               have n5_ : Aside0 (Kd.R (Kd.int .i64) 3 w64 w.heap.size (fun k_ => some k_ ≠ (v363 : Value).ownBlock ∧ some k_ ≠ (v366 : Value).ownBlock ∧ some k_ ≠ (v370 : Value).ownBlock ∧ some k_ ≠ (.slice (some ad361) x11_2.length co47 : Value).ownBlock ∧ some k_ ≠ (.slice (some ad368) x12_2.length co57 : Value).ownBlock) (.slice Ao55 x14_3.length co55) x14_3) := ⟨h5_⟩
               have n6_ : Aside0 (w64.heap[gb345]? = some (.cells #[.int .i64 t340, .int .i64 t341, .int .i64 t342, .int .i64 t343] 24 (0, 0))) := ⟨h6_⟩
               have n7_ : Aside0 (w64.heap[gb346]? = some (.cells #[.int .i64 ji14, .int .i64 ji15, .int .i64 t342, .int .i64 t343] 24 (0, 0))) := ⟨h7_⟩
               have n8_ : Aside0 (Below w.heap.size w w64) := ⟨h8_⟩
               clear HO_11 HO_12 HO_13 HO_14 BK345 BK346 HB h0_ h1_ h2_ h3_ h4_ h5_ h6_ h7_ h8_
               have HO364 := n0_
               have HO367 := n1_
               have HO371 := n2_
               have HO_11 := n3_
               have HO_12 := n4_
               have HO_14 := n5_
               have BK345 := n6_
               have BK346 := n7_
               have HB := n8_
               clear n0_ n1_ n2_ n3_ n4_ n5_ n6_ n7_ n8_
               have hHeld : w64.cell? (ad361.add (x16_3).toNat) = some (.int .i64 (rd x11_2 x16_3)) ∧ w64.cell? (ad368.add (x16_3).toNat) = some (.int .i64 (rd x12_2 x16_3)) := hS_
               obtain ⟨Ao66, co66, eo66⟩ := Kd.R_slice HO371.out
               (first | subst eo66 | (injection eo66 with f1_ f2_ f3_; have f4_ := f1_.symm; have f5_ := f3_.symm; clear f1_ f2_ f3_; subst f4_; subst f5_))
               refine norm_ (a' := ?_) ?_ ?_
               rotate_left
               ·simp only [putAll, Act.put, List.setIfInBounds_toArray, List.set_cons_zero, List.set_cons_succ]
                rfl
               refine one_ (i := 13) (N := some 98) #[true, true, true, true, true, true, true, true, true, true, true, true, true, true, false, false] rfl rfl (one_of HT_.out (by kernel_rfl)) (by decide) (fun K hK => ?_)
               refine Kd.R_append_rows_step (Kd.int .i64) (w0 := w) w.heap.size (by rfl) (.tmp 92) (.tmp 97) 22 3 (.int .i64 0) 8 rfl Try.underlying22 info3 rfl (by decide) (by omega) (.slice Ao55 x14_3.length co55) x14_3 y369 _ _ _ (fun k_ => some k_ ≠ (.slice (some ad361) x11_2.length co47 : Value).ownBlock ∧ some k_ ≠ (.slice (some ad368) x12_2.length co57 : Value).ownBlock ∧ some k_ ≠ (v363 : Value).ownBlock ∧ some k_ ≠ (v366 : Value).ownBlock ∧ some k_ ≠ (.slice Ao66 y369.length co66 : Value).ownBlock) (fun _ => False) rfl rfl ?aO ?aR (fun _ _ h => h) (fun _ h => h.elim) ?aF ?aB ?aS ?aL ?_
               (case aR => repeat (first | exact (Kd.R_reads' HO371.out).2.2 | (with_reducible refine Kd.C_alloc ?_ _) | (with_reducible refine Kd.C_drewN ?_ _) | (with_reducible refine Kd.C_drew ?_)))
               (case aB => exact (by repeat (first | (with_reducible first | exact HB.out | apply below_alloc | apply pw_below_drewN | apply below_drew1 | refine below_set ?_ GE345.out | refine below_set ?_ GE346.out) | exact HB.out)))
               (case aF => exact (fun k_ hk => ⟨Kd.fresh' (Kd.R_lt (by (with_reducible repeat (first | apply Kd.R_alloc | apply Kd.R_drewN | apply Kd.R_drew)); exact HO_11.out)) k_ hk, Kd.fresh' (Kd.R_lt (by (with_reducible repeat (first | apply Kd.R_alloc | apply Kd.R_drewN | apply Kd.R_drew)); exact HO_12.out)) k_ hk, Kd.fresh' (Kd.R_lt (by (with_reducible repeat (first | apply Kd.R_alloc | apply Kd.R_drewN | apply Kd.R_drew)); exact HO364.out)) k_ hk, Kd.fresh' (Kd.R_lt (by (with_reducible repeat (first | apply Kd.R_alloc | apply Kd.R_drewN | apply Kd.R_drew)); exact HO367.out)) k_ hk, Kd.fresh' (Kd.R_lt (by (with_reducible repeat (first | apply Kd.R_alloc | apply Kd.R_drewN | apply Kd.R_drew)); exact HO371.out)) k_ hk⟩))
               (case aO => exact (by (with_reducible repeat (first | apply Kd.R_alloc | apply Kd.R_drewN | apply Kd.R_drew)); exact Kd.R_mono HO_14.out (fun _ hk => ⟨hk.2.2.2.1, ⟨hk.2.2.2.2, ⟨hk.1, ⟨hk.2.1, hk.2.2.1⟩⟩⟩⟩)))
               (case aS => exact (below_size (by repeat (first | (with_reducible first | exact HB.out | apply below_alloc | apply pw_below_drewN | apply below_drew1 | refine below_set ?_ GE345.out | refine below_set ?_ GE346.out) | exact HB.out))))
               (case aL => have := LMc53.out; omega)
               intro v373 w65 ho hb hg hat
               rw [← Ny372.out] at ho
               have HZ_HO_11 : ∀ k_, (.slice (some ad361) x11_2.length co47 : Value).ownBlock = some k_ → some k_ ≠ (.slice Ao55 x14_3.length co55 : Value).ownBlock := fun k_ e_ => (HO_11.out.1 k_ e_).2.2.2.2
               have HZ_HO_12 : ∀ k_, (.slice (some ad368) x12_2.length co57 : Value).ownBlock = some k_ → some k_ ≠ (.slice Ao55 x14_3.length co55 : Value).ownBlock := fun k_ e_ => (HO_12.out.1 k_ e_).2.2.2.2
               have HZ_HO364 : ∀ k_, (v363 : Value).ownBlock = some k_ → some k_ ≠ (.slice Ao55 x14_3.length co55 : Value).ownBlock := fun k_ e_ => (HO364.out.1 k_ e_).2.2.2.2
               have HZ_HO367 : ∀ k_, (v366 : Value).ownBlock = some k_ → some k_ ≠ (.slice Ao55 x14_3.length co55 : Value).ownBlock := fun k_ e_ => (HO367.out.1 k_ e_).2.2.2.2
               have HZ_HO371 : ∀ k_, (.slice Ao66 y369.length co66 : Value).ownBlock = some k_ → some k_ ≠ (.slice Ao55 x14_3.length co55 : Value).ownBlock := fun k_ e_ => (HO371.out.1 k_ e_).2.2.2.2
               (first | have HS0_ := cell_grown hg (hHeld.1) (by first | (rw [add_block]; exact HZ_HO_11 _ rfl) | (show some (Addr.add _ _).block ≠ _; rw [add_block]; exact HZ_HO_11 _ rfl) | exact HZ_HO_11 _ rfl) | have HS0_ := cell_grown hg (cell_unalloc (hHeld.1) (by first | (rw [add_block]; exact Kd.R_lt HO_11.out _ rfl) | (show (Addr.add _ _).block < _; rw [add_block]; exact Kd.R_lt HO_11.out _ rfl) | exact Kd.R_lt HO_11.out _ rfl)) (by first | (rw [add_block]; exact HZ_HO_11 _ rfl) | (show some (Addr.add _ _).block ≠ _; rw [add_block]; exact HZ_HO_11 _ rfl) | exact HZ_HO_11 _ rfl))
               (first | have HS1_ := cell_grown hg (hHeld.2) (by first | (rw [add_block]; exact HZ_HO_12 _ rfl) | (show some (Addr.add _ _).block ≠ _; rw [add_block]; exact HZ_HO_12 _ rfl) | exact HZ_HO_12 _ rfl) | have HS1_ := cell_grown hg (cell_unalloc (hHeld.2) (by first | (rw [add_block]; exact Kd.R_lt HO_12.out _ rfl) | (show (Addr.add _ _).block < _; rw [add_block]; exact Kd.R_lt HO_12.out _ rfl) | exact Kd.R_lt HO_12.out _ rfl)) (by first | (rw [add_block]; exact HZ_HO_12 _ rfl) | (show some (Addr.add _ _).block ≠ _; rw [add_block]; exact HZ_HO_12 _ rfl) | exact HZ_HO_12 _ rfl))
               clear HZ_HO_11 HZ_HO_12 HZ_HO364 HZ_HO367 HZ_HO371
               have n0_ := Aside0.mk (Kd.R_after (ok := (fun k_ => some k_ ≠ (.slice (some ad368) x12_2.length co57 : Value).ownBlock ∧ some k_ ≠ (v363 : Value).ownBlock ∧ some k_ ≠ (v366 : Value).ownBlock ∧ some k_ ≠ (.slice Ao66 y369.length co66 : Value).ownBlock)) (by (with_reducible repeat (first | apply Kd.R_alloc | apply Kd.R_drewN | apply Kd.R_drew)); exact Kd.R_mono HO_11.out (fun _ hk => ⟨⟨hk.2.2.2.1, ⟨hk.1, ⟨hk.2.1, hk.2.2.1⟩⟩⟩, hk.2.2.2.2⟩)) hg hat)
               have n1_ := Aside0.mk (Kd.R_after (ok := (fun k_ => some k_ ≠ (.slice (some ad361) x11_2.length co47 : Value).ownBlock ∧ some k_ ≠ (v363 : Value).ownBlock ∧ some k_ ≠ (v366 : Value).ownBlock ∧ some k_ ≠ (.slice Ao66 y369.length co66 : Value).ownBlock)) (by (with_reducible repeat (first | apply Kd.R_alloc | apply Kd.R_drewN | apply Kd.R_drew)); exact Kd.R_mono HO_12.out (fun _ hk => ⟨⟨hk.2.2.2.1, ⟨hk.1, ⟨hk.2.1, hk.2.2.1⟩⟩⟩, hk.2.2.2.2⟩)) hg hat)
               have n2_ := Aside0.mk (blk_grown (g := gb345) (o := .cells #[.int .i64 t340, .int .i64 t341, .int .i64 t342, .int .i64 t343] 24 (0, 0)) (by (with_reducible repeat (first | refine blk_drewN ?_ _ | refine blk_drew ?_ | refine blk_alloc ?_ _)); exact BK345.out) hg (Kd.R_ne HO_14.out BK345.out (by decide)))
               have n3_ := Aside0.mk (blk_grown (g := gb346) (o := .cells #[.int .i64 ji14, .int .i64 ji15, .int .i64 t342, .int .i64 t343] 24 (0, 0)) (by (with_reducible repeat (first | refine blk_drewN ?_ _ | refine blk_drew ?_ | refine blk_alloc ?_ _)); exact BK346.out) hg (Kd.R_ne HO_14.out BK346.out (by decide)))
               have n4_ := Aside0.mk (Kd.R_after (ok := (fun k_ => some k_ ≠ (.slice (some ad361) x11_2.length co47 : Value).ownBlock ∧ some k_ ≠ (.slice (some ad368) x12_2.length co57 : Value).ownBlock ∧ some k_ ≠ (v366 : Value).ownBlock ∧ some k_ ≠ (.slice Ao66 y369.length co66 : Value).ownBlock)) (by (with_reducible repeat (first | apply Kd.R_alloc | apply Kd.R_drewN | apply Kd.R_drew)); exact Kd.R_mono HO364.out (fun _ hk => ⟨⟨hk.2.2.1, ⟨hk.2.2.2.1, ⟨hk.1, hk.2.1⟩⟩⟩, hk.2.2.2.2⟩)) hg hat)
               have n5_ := Aside0.mk (Kd.R_after (ok := (fun k_ => some k_ ≠ (.slice (some ad361) x11_2.length co47 : Value).ownBlock ∧ some k_ ≠ (.slice (some ad368) x12_2.length co57 : Value).ownBlock ∧ some k_ ≠ (v363 : Value).ownBlock ∧ some k_ ≠ (.slice Ao66 y369.length co66 : Value).ownBlock)) (by (with_reducible repeat (first | apply Kd.R_alloc | apply Kd.R_drewN | apply Kd.R_drew)); exact Kd.R_mono HO367.out (fun _ hk => ⟨⟨hk.2.2.1, ⟨hk.2.2.2.1, ⟨hk.1, hk.2.1⟩⟩⟩, hk.2.2.2.2⟩)) hg hat)
               have n6_ := Aside0.mk (Kd.R_after (ok := (fun k_ => some k_ ≠ (.slice (some ad361) x11_2.length co47 : Value).ownBlock ∧ some k_ ≠ (.slice (some ad368) x12_2.length co57 : Value).ownBlock ∧ some k_ ≠ (v363 : Value).ownBlock ∧ some k_ ≠ (v366 : Value).ownBlock)) (by (with_reducible repeat (first | apply Kd.R_alloc | apply Kd.R_drewN | apply Kd.R_drew)); exact Kd.R_mono HO371.out (fun _ hk => ⟨⟨hk.2.2.1, ⟨hk.2.2.2.1, ⟨hk.1, hk.2.1⟩⟩⟩, hk.2.2.2.2⟩)) hg hat)
               have n7_ := Aside0.mk (hb)
               have n8_ := Aside0.mk (ho)
               clear HO_11 HO_12 BK345 BK346 HO364 HO367 HO371 HB HO_14
               have HO_11 := n0_
               have HO_12 := n1_
               have BK345 := n2_
               have BK346 := n3_
               have HO364 := n4_
               have HO367 := n5_
               have HO371 := n6_
               have HB := n7_
               have HO374 := n8_
               clear n0_ n1_ n2_ n3_ n4_ n5_ n6_ n7_ n8_ ho hb hg hat
               refine hK.out _ _ ⟨HS0_, HS1_⟩ (fun hHeld => ?_)
               clear hK K
               refine norm_ (a' := ?_) ?_ ?_
               rotate_left
               ·show Act.put _ (some 98) _ = _
                simp only [Act.put, List.setIfInBounds_toArray, List.set_cons_zero, List.set_cons_succ, i64_w, i32_w]
                rfl
               refine pure_ (i := 14) (N := some 13) (v := ?_) (a' := ?_) #[true, true, true, true, true, true, true, true, true, true, true, true, true, true, true, false] rfl rfl (any_of HT_.out (by kernel_rfl)) (fun _ _ _ h => h) (Or.inl ⟨by rfl, ?_⟩) ?_ ?_
               rotate_left
               ·intro w'
                go_simp
                with_reducible rfl
               rotate_left
               ·simp only [Act.put, List.setIfInBounds_toArray, List.set_cons_zero, List.set_cons_succ, i64_w, i32_w]
                rfl
               refine pure_ (i := 15) (N := some 14) (v := ?_) (a' := ?_) #[true, true, true, true, true, true, true, true, true, true, true, true, true, true, true, true] rfl rfl (any_of HT_.out (by kernel_rfl)) (fun _ _ _ h => h) (Or.inl ⟨by rfl, ?_⟩) ?_ ?_
               rotate_left
               ·intro w'
                go_simp
                with_reducible rfl
               rotate_left
               ·simp only [Act.put, List.setIfInBounds_toArray, List.set_cons_zero, List.set_cons_succ, i64_w, i32_w]
                rfl
               refine done_ (done_of HT_.out (by kernel_rfl)) ?_
               try go_wp2
               go_roundg k3
               case measure => have := HJ4.out; have := HK2.out; have := HK3.out; omega
               case rel => exact ⟨(y365), (y372), (wrap64 (x16_3 - 1)), (by first | rfl | (simp; done) | (simp [*]; done)), H', ⟨by have := HJ4.out; have := HK2.out; have := HK3.out; omega⟩, ⟨by (with_reducible repeat (first | apply Kd.R_alloc | apply Kd.R_drewN | apply Kd.R_drew)); exact Kd.R_mono HO_11.out (fun _ hk => ⟨hk.1.1, ⟨hk.1.2.2.1, hk.2⟩⟩)⟩, ⟨by (with_reducible repeat (first | apply Kd.R_alloc | apply Kd.R_drewN | apply Kd.R_drew)); exact Kd.R_mono HO_12.out (fun _ hk => ⟨hk.1.1, ⟨hk.1.2.2.1, hk.2⟩⟩)⟩, ⟨by (with_reducible repeat (first | apply Kd.R_alloc | apply Kd.R_drewN | apply Kd.R_drew)); exact Kd.R_mono HO367.out (fun _ hk => ⟨hk.1.1, ⟨hk.1.2.1, hk.2⟩⟩)⟩, ⟨by (with_reducible repeat (first | apply Kd.R_alloc | apply Kd.R_drewN | apply Kd.R_drew)); exact Kd.R_mono HO374.out (fun _ hk => ⟨hk.1, ⟨hk.2.1, hk.2.2.2.1⟩⟩)⟩, ⟨by (with_reducible repeat (first | refine blk_drewN ?_ _ | refine blk_drew ?_ | refine blk_alloc ?_ _)); exact BK345.out⟩, ⟨by (with_reducible repeat (first | refine blk_drewN ?_ _ | refine blk_drew ?_ | refine blk_alloc ?_ _)); exact BK346.out⟩, ⟨by repeat (first | (with_reducible first | exact HB.out | apply below_alloc | apply pw_below_drewN | apply below_drew1 | refine below_set ?_ GE345.out | refine below_set ?_ GE346.out) | exact HB.out)⟩⟩
              ·rw [if_neg c53] at H
               exact absurd H (by simp)
             ·rw [if_neg c52] at H
              exact absurd H (by simp)
            ·rw [if_neg c51] at H
             exact absurd H (by simp)
           ·rw [if_neg c50] at H
            exact absurd H (by simp)
          ·rw [if_neg c49] at H
           exact absurd H (by simp)
         ·rw [if_neg c48] at H
          have c48b0 : decide (0 ≤ x16_3) = false := decide_eq_false c48
          clear c48
          replace H := Option.bind_eq_some_iff.mp H
          obtain ⟨t375, A670, H⟩ := H
          replace H : ((monitor_Good.f k3 t340 t341 t342 t343 x11_2 x11_2).bind fun t376 => (if t376 = true then ((monitor_Good.f k3 t340 t341 t342 t343 x12_2 x11_2).bind fun t377 => (if (t375 == t377) = true then ((monitor_Good.f k3 t340 t341 t342 t343 x13_3 x14_3).bind fun t378 => (if (t375 == t378) = true then (if t375 = true then ((monitor_Good.f k3 ji14 ji15 t342 t343 x11_2 x12_2).bind fun t379 => (if t379 = true then ((awardingbodylaw27_sane.f k3).bind fun t380 => (some t380)) else (none))) else ((awardingbodylaw27_sane.f k3).bind fun t381 => (some t381))) else (none))) else (none))) else (none))) = some r := H
          have A67 := Aside0.mk A670
          clear A670
          replace H := Option.bind_eq_some_iff.mp H
          obtain ⟨t376, A680, H⟩ := H
          replace H : (if t376 = true then ((monitor_Good.f k3 t340 t341 t342 t343 x12_2 x11_2).bind fun t377 => (if (t375 == t377) = true then ((monitor_Good.f k3 t340 t341 t342 t343 x13_3 x14_3).bind fun t378 => (if (t375 == t378) = true then (if t375 = true then ((monitor_Good.f k3 ji14 ji15 t342 t343 x11_2 x12_2).bind fun t379 => (if t379 = true then ((awardingbodylaw27_sane.f k3).bind fun t380 => (some t380)) else (none))) else ((awardingbodylaw27_sane.f k3).bind fun t381 => (some t381))) else (none))) else (none))) else (none)) = some r := H
          have A68 := Aside0.mk A680
          clear A680
          by_cases c69 : t376 = true
          ·subst c69
           have H1 : ((monitor_Good.f k3 t340 t341 t342 t343 x12_2 x11_2).bind fun t377 => (if (t375 == t377) = true then ((monitor_Good.f k3 t340 t341 t342 t343 x13_3 x14_3).bind fun t378 => (if (t375 == t378) = true then (if t375 = true then ((monitor_Good.f k3 ji14 ji15 t342 t343 x11_2 x12_2).bind fun t379 => (if t379 = true then ((awardingbodylaw27_sane.f k3).bind fun t380 => (some t380)) else (none))) else ((awardingbodylaw27_sane.f k3).bind fun t381 => (some t381))) else (none))) else (none))) = some r := by rw [if_pos rfl] at H; exact H
           clear H
           have H := H1
           clear H1
           replace H := Option.bind_eq_some_iff.mp H
           obtain ⟨t377, A700, H⟩ := H
           replace H : (if (t375 == t377) = true then ((monitor_Good.f k3 t340 t341 t342 t343 x13_3 x14_3).bind fun t378 => (if (t375 == t378) = true then (if t375 = true then ((monitor_Good.f k3 ji14 ji15 t342 t343 x11_2 x12_2).bind fun t379 => (if t379 = true then ((awardingbodylaw27_sane.f k3).bind fun t380 => (some t380)) else (none))) else ((awardingbodylaw27_sane.f k3).bind fun t381 => (some t381))) else (none))) else (none)) = some r := H
           have A70 := Aside0.mk A700
           clear A700
           by_cases c71 : (t375 == t377) = true
           ·rw [if_pos c71] at H
            have c71b0 : (t375 == t377) = true := c71
            (try (have c71b1 : decide (t375 = t377) = true := by simpa using c71))
            (try (have c71b2 : (t375 == t377) = true := by simpa using c71))
            clear c71
            replace H := Option.bind_eq_some_iff.mp H
            obtain ⟨t378, A720, H⟩ := H
            replace H : (if (t375 == t378) = true then (if t375 = true then ((monitor_Good.f k3 ji14 ji15 t342 t343 x11_2 x12_2).bind fun t379 => (if t379 = true then ((awardingbodylaw27_sane.f k3).bind fun t380 => (some t380)) else (none))) else ((awardingbodylaw27_sane.f k3).bind fun t381 => (some t381))) else (none)) = some r := H
            have A72 := Aside0.mk A720
            clear A720
            by_cases c73 : (t375 == t378) = true
            ·rw [if_pos c73] at H
             have c73b0 : (t375 == t378) = true := c73
             (try (have c73b1 : decide (t375 = t378) = true := by simpa using c73))
             (try (have c73b2 : (t375 == t378) = true := by simpa using c73))
             clear c73
             by_cases c74 : t375 = true
             ·subst c74
              have H1 : ((monitor_Good.f k3 ji14 ji15 t342 t343 x11_2 x12_2).bind fun t379 => (if t379 = true then ((awardingbodylaw27_sane.f k3).bind fun t380 => (some t380)) else (none))) = some r := by rw [if_pos rfl] at H; exact H
              clear H
              have H := H1
              clear H1
              replace H := Option.bind_eq_some_iff.mp H
              obtain ⟨t379, A750, H⟩ := H
              replace H : (if t379 = true then ((awardingbodylaw27_sane.f k3).bind fun t380 => (some t380)) else (none)) = some r := H
              have A75 := Aside0.mk A750
              clear A750
              by_cases c76 : t379 = true
              ·subst c76
               have H1 : ((awardingbodylaw27_sane.f k3).bind fun t380 => (some t380)) = some r := by rw [if_pos rfl] at H; exact H
               clear H
               have H := H1
               clear H1
               replace H := Option.bind_eq_some_iff.mp H
               obtain ⟨t380, A770, H⟩ := H
               replace H : (some t380) = some r := H
               have A77 := Aside0.mk A770
               clear A770
               obtain rfl := Option.some.inj H
               have hnb78 := NB345_346.out
               have hnc78 := NB346_345.out
               have hcz79_0 : wr.cell? ⟨gb345, 0, none⟩ = some (.int .i64 t340) := (blk_cell BK345.out 0).trans rfl
               have hcz79_1 : wr.cell? ⟨gb345, 1, none⟩ = some (.int .i64 t341) := (blk_cell BK345.out 1).trans rfl
               have hcz79_2 : wr.cell? ⟨gb345, 2, none⟩ = some (.int .i64 t342) := (blk_cell BK345.out 2).trans rfl
               have hcz79_3 : wr.cell? ⟨gb345, 3, none⟩ = some (.int .i64 t343) := (blk_cell BK345.out 3).trans rfl
               have hfz79_0 := blk_frozen BK345.out 0
               have hfz79_1 := blk_frozen BK345.out 1
               have hfz79_2 := blk_frozen BK345.out 2
               have hfz79_3 := blk_frozen BK345.out 3
               obtain ⟨Ao80, co80, eo80⟩ := Kd.R_slice HO_12.out
               subst eo80
               go_wp2_with (first | ((with_reducible refine gate_callee (f := 16) rfl ?_); refine goesL_ (some 102) rfl rfl Try.func16 (by kernel_rfl) rfl #[.agg #[.int .i64 t340, .int .i64 t341, .int .i64 t342, .int .i64 t343], .slice Ao47 x11_2.length co47, .slice Ao80 x12_2.length co80] rfl (by (try simp only [List.map_toArray, List.map_cons, List.map_nil]); first | done | rfl | (simp only [List.length_drop, List.length_take]; rfl)) ?_; (with_reducible refine (monitor_Good.calls k3 t340 t341 t342 t343 _ _ x11_2 _ _ x12_2 true _ ?side1 ?side2 ?side3 ?side4 A67.out).mono ?_); (case side1 => repeat (first | exact (Kd.R_reads' HO_11.out).2.2 | (with_reducible refine Kd.C_alloc ?_ _) | (with_reducible refine Kd.C_drewN ?_ _) | (with_reducible refine Kd.C_drew ?_))); (case side2 => exact (Kd.R_reads' HO_11.out).2.1); (case side3 => repeat (first | exact (Kd.R_reads' HO_12.out).2.2 | (with_reducible refine Kd.C_alloc ?_ _) | (with_reducible refine Kd.C_drewN ?_ _) | (with_reducible refine Kd.C_drew ?_))); (case side4 => exact (Kd.R_reads' HO_12.out).2.1); rintro e w81 ⟨rfl, hb⟩; refine ⟨_, rfl, ?_⟩; have n0_ := Aside0.mk (Kd.R_below (by (with_reducible repeat (first | apply Kd.R_alloc | apply Kd.R_drewN | apply Kd.R_drew)); exact HO_11.out) hb); have n1_ := Aside0.mk (Kd.R_below (by (with_reducible repeat (first | apply Kd.R_alloc | apply Kd.R_drewN | apply Kd.R_drew)); exact HO_12.out) hb); have n2_ := Aside0.mk (Kd.R_below (by (with_reducible repeat (first | apply Kd.R_alloc | apply Kd.R_drewN | apply Kd.R_drew)); exact HO_13.out) hb); have n3_ := Aside0.mk (Kd.R_below (by (with_reducible repeat (first | apply Kd.R_alloc | apply Kd.R_drewN | apply Kd.R_drew)); exact HO_14.out) hb); have n4_ := Aside0.mk (blk_below (g := gb345) (o := .cells #[.int .i64 t340, .int .i64 t341, .int .i64 t342, .int .i64 t343] 24 (0, 0)) (by (with_reducible repeat (first | refine blk_drewN ?_ _ | refine blk_drew ?_ | refine blk_alloc ?_ _)); exact BK345.out) hb); have n5_ := Aside0.mk (blk_below (g := gb346) (o := .cells #[.int .i64 ji14, .int .i64 ji15, .int .i64 t342, .int .i64 t343] 24 (0, 0)) (by (with_reducible repeat (first | refine blk_drewN ?_ _ | refine blk_drew ?_ | refine blk_alloc ?_ _)); exact BK346.out) hb); have n6_ := Aside0.mk (below_step (by repeat (first | (with_reducible first | exact HB.out | apply below_alloc | apply pw_below_drewN | apply below_drew1 | refine below_set ?_ GE345.out | refine below_set ?_ GE346.out) | exact HB.out)) hb); clear HO_11 HO_12 HO_13 HO_14 BK345 BK346 HB; have HO_11 := n0_; have HO_12 := n1_; have HO_13 := n2_; have HO_14 := n3_; have BK345 := n4_; have BK346 := n5_; have HB := n6_; clear n0_ n1_ n2_ n3_ n4_ n5_ n6_; (try clear hb); (try clear hb2); (try clear hk); (try clear hi); have hcz82_0 : w81.cell? ⟨gb345, 0, none⟩ = some (.int .i64 t340) := (blk_cell BK345.out 0).trans rfl; have hcz82_1 : w81.cell? ⟨gb345, 1, none⟩ = some (.int .i64 t341) := (blk_cell BK345.out 1).trans rfl; have hcz82_2 : w81.cell? ⟨gb345, 2, none⟩ = some (.int .i64 t342) := (blk_cell BK345.out 2).trans rfl; have hcz82_3 : w81.cell? ⟨gb345, 3, none⟩ = some (.int .i64 t343) := (blk_cell BK345.out 3).trans rfl; have hfz82_0 := blk_frozen BK345.out 0; have hfz82_1 := blk_frozen BK345.out 1; have hfz82_2 := blk_frozen BK345.out 2; have hfz82_3 := blk_frozen BK345.out 3) | ((with_reducible refine gate_callee (f := 16) rfl ?_); refine goesL_ (some 106) rfl rfl Try.func16 (by kernel_rfl) rfl #[.agg #[.int .i64 t340, .int .i64 t341, .int .i64 t342, .int .i64 t343], .slice Ao47 x11_2.length co47, .slice Ao47 x11_2.length co47] rfl (by (try simp only [List.map_toArray, List.map_cons, List.map_nil]); first | done | rfl | (simp only [List.length_drop, List.length_take]; rfl)) ?_; (with_reducible refine (monitor_Good.calls k3 t340 t341 t342 t343 _ _ x11_2 _ _ x11_2 true _ ?side1 ?side2 ?side3 ?side4 A68.out).mono ?_); (case side1 => repeat (first | exact (Kd.R_reads' HO_11.out).2.2 | (with_reducible refine Kd.C_alloc ?_ _) | (with_reducible refine Kd.C_drewN ?_ _) | (with_reducible refine Kd.C_drew ?_))); (case side2 => exact (Kd.R_reads' HO_11.out).2.1); (case side3 => repeat (first | exact (Kd.R_reads' HO_11.out).2.2 | (with_reducible refine Kd.C_alloc ?_ _) | (with_reducible refine Kd.C_drewN ?_ _) | (with_reducible refine Kd.C_drew ?_))); (case side4 => exact (Kd.R_reads' HO_11.out).2.1); rintro e w83 ⟨rfl, hb⟩; refine ⟨_, rfl, ?_⟩; have n0_ := Aside0.mk (Kd.R_below (by (with_reducible repeat (first | apply Kd.R_alloc | apply Kd.R_drewN | apply Kd.R_drew)); exact HO_11.out) hb); have n1_ := Aside0.mk (Kd.R_below (by (with_reducible repeat (first | apply Kd.R_alloc | apply Kd.R_drewN | apply Kd.R_drew)); exact HO_12.out) hb); have n2_ := Aside0.mk (Kd.R_below (by (with_reducible repeat (first | apply Kd.R_alloc | apply Kd.R_drewN | apply Kd.R_drew)); exact HO_13.out) hb); have n3_ := Aside0.mk (Kd.R_below (by (with_reducible repeat (first | apply Kd.R_alloc | apply Kd.R_drewN | apply Kd.R_drew)); exact HO_14.out) hb); have n4_ := Aside0.mk (blk_below (g := gb345) (o := .cells #[.int .i64 t340, .int .i64 t341, .int .i64 t342, .int .i64 t343] 24 (0, 0)) (by (with_reducible repeat (first | refine blk_drewN ?_ _ | refine blk_drew ?_ | refine blk_alloc ?_ _)); exact BK345.out) hb); have n5_ := Aside0.mk (blk_below (g := gb346) (o := .cells #[.int .i64 ji14, .int .i64 ji15, .int .i64 t342, .int .i64 t343] 24 (0, 0)) (by (with_reducible repeat (first | refine blk_drewN ?_ _ | refine blk_drew ?_ | refine blk_alloc ?_ _)); exact BK346.out) hb); have n6_ := Aside0.mk (below_step (by repeat (first | (with_reducible first | exact HB.out | apply below_alloc | apply pw_below_drewN | apply below_drew1 | refine below_set ?_ GE345.out | refine below_set ?_ GE346.out) | exact HB.out)) hb); clear HO_11 HO_12 HO_13 HO_14 BK345 BK346 HB; have HO_11 := n0_; have HO_12 := n1_; have HO_13 := n2_; have HO_14 := n3_; have BK345 := n4_; have BK346 := n5_; have HB := n6_; clear n0_ n1_ n2_ n3_ n4_ n5_ n6_; (try clear hb); (try clear hb2); (try clear hk); (try clear hi); have hcz84_0 : w83.cell? ⟨gb345, 0, none⟩ = some (.int .i64 t340) := (blk_cell BK345.out 0).trans rfl; have hcz84_1 : w83.cell? ⟨gb345, 1, none⟩ = some (.int .i64 t341) := (blk_cell BK345.out 1).trans rfl; have hcz84_2 : w83.cell? ⟨gb345, 2, none⟩ = some (.int .i64 t342) := (blk_cell BK345.out 2).trans rfl; have hcz84_3 : w83.cell? ⟨gb345, 3, none⟩ = some (.int .i64 t343) := (blk_cell BK345.out 3).trans rfl; have hfz84_0 := blk_frozen BK345.out 0; have hfz84_1 := blk_frozen BK345.out 1; have hfz84_2 := blk_frozen BK345.out 2; have hfz84_3 := blk_frozen BK345.out 3) | (go_at_call 16; (with_reducible refine (monitor_Good.calls k3 t340 t341 t342 t343 _ _ x12_2 _ _ x11_2 t377 _ ?side1 ?side2 ?side3 ?side4 A70.out).mono ?_); (case side1 => repeat (first | exact (Kd.R_reads' HO_12.out).2.2 | (with_reducible refine Kd.C_alloc ?_ _) | (with_reducible refine Kd.C_drewN ?_ _) | (with_reducible refine Kd.C_drew ?_))); (case side2 => exact (Kd.R_reads' HO_12.out).2.1); (case side3 => repeat (first | exact (Kd.R_reads' HO_11.out).2.2 | (with_reducible refine Kd.C_alloc ?_ _) | (with_reducible refine Kd.C_drewN ?_ _) | (with_reducible refine Kd.C_drew ?_))); (case side4 => exact (Kd.R_reads' HO_11.out).2.1); rintro e w85 ⟨rfl, hb⟩; have n0_ := Aside0.mk (Kd.R_below (by (with_reducible repeat (first | apply Kd.R_alloc | apply Kd.R_drewN | apply Kd.R_drew)); exact HO_11.out) hb); have n1_ := Aside0.mk (Kd.R_below (by (with_reducible repeat (first | apply Kd.R_alloc | apply Kd.R_drewN | apply Kd.R_drew)); exact HO_12.out) hb); have n2_ := Aside0.mk (Kd.R_below (by (with_reducible repeat (first | apply Kd.R_alloc | apply Kd.R_drewN | apply Kd.R_drew)); exact HO_13.out) hb); have n3_ := Aside0.mk (Kd.R_below (by (with_reducible repeat (first | apply Kd.R_alloc | apply Kd.R_drewN | apply Kd.R_drew)); exact HO_14.out) hb); have n4_ := Aside0.mk (blk_below (g := gb345) (o := .cells #[.int .i64 t340, .int .i64 t341, .int .i64 t342, .int .i64 t343] 24 (0, 0)) (by (with_reducible repeat (first | refine blk_drewN ?_ _ | refine blk_drew ?_ | refine blk_alloc ?_ _)); exact BK345.out) hb); have n5_ := Aside0.mk (blk_below (g := gb346) (o := .cells #[.int .i64 ji14, .int .i64 ji15, .int .i64 t342, .int .i64 t343] 24 (0, 0)) (by (with_reducible repeat (first | refine blk_drewN ?_ _ | refine blk_drew ?_ | refine blk_alloc ?_ _)); exact BK346.out) hb); have n6_ := Aside0.mk (below_step (by repeat (first | (with_reducible first | exact HB.out | apply below_alloc | apply pw_below_drewN | apply below_drew1 | refine below_set ?_ GE345.out | refine below_set ?_ GE346.out) | exact HB.out)) hb); clear HO_11 HO_12 HO_13 HO_14 BK345 BK346 HB; have HO_11 := n0_; have HO_12 := n1_; have HO_13 := n2_; have HO_14 := n3_; have BK345 := n4_; have BK346 := n5_; have HB := n6_; clear n0_ n1_ n2_ n3_ n4_ n5_ n6_; (try clear hb); (try clear hb2); (try clear hk); (try clear hi); have hcz86_0 : w85.cell? ⟨gb345, 0, none⟩ = some (.int .i64 t340) := (blk_cell BK345.out 0).trans rfl; have hcz86_1 : w85.cell? ⟨gb345, 1, none⟩ = some (.int .i64 t341) := (blk_cell BK345.out 1).trans rfl; have hcz86_2 : w85.cell? ⟨gb345, 2, none⟩ = some (.int .i64 t342) := (blk_cell BK345.out 2).trans rfl; have hcz86_3 : w85.cell? ⟨gb345, 3, none⟩ = some (.int .i64 t343) := (blk_cell BK345.out 3).trans rfl; have hfz86_0 := blk_frozen BK345.out 0; have hfz86_1 := blk_frozen BK345.out 1; have hfz86_2 := blk_frozen BK345.out 2; have hfz86_3 := blk_frozen BK345.out 3; obtain ⟨Ao87, co87, eo87⟩ := Kd.R_slice HO_13.out; subst eo87; obtain ⟨Ao88, co88, eo88⟩ := Kd.R_slice HO_14.out; subst eo88) | (go_at_call 16; (with_reducible refine (monitor_Good.calls k3 t340 t341 t342 t343 _ _ x13_3 _ _ x14_3 t378 _ ?side1 ?side2 ?side3 ?side4 A72.out).mono ?_); (case side1 => repeat (first | exact (Kd.R_reads' HO_13.out).2.2 | (with_reducible refine Kd.C_alloc ?_ _) | (with_reducible refine Kd.C_drewN ?_ _) | (with_reducible refine Kd.C_drew ?_))); (case side2 => exact (Kd.R_reads' HO_13.out).2.1); (case side3 => repeat (first | exact (Kd.R_reads' HO_14.out).2.2 | (with_reducible refine Kd.C_alloc ?_ _) | (with_reducible refine Kd.C_drewN ?_ _) | (with_reducible refine Kd.C_drew ?_))); (case side4 => exact (Kd.R_reads' HO_14.out).2.1); rintro e w89 ⟨rfl, hb⟩; have n0_ := Aside0.mk (Kd.R_below (by (with_reducible repeat (first | apply Kd.R_alloc | apply Kd.R_drewN | apply Kd.R_drew)); exact HO_11.out) hb); have n1_ := Aside0.mk (Kd.R_below (by (with_reducible repeat (first | apply Kd.R_alloc | apply Kd.R_drewN | apply Kd.R_drew)); exact HO_12.out) hb); have n2_ := Aside0.mk (Kd.R_below (by (with_reducible repeat (first | apply Kd.R_alloc | apply Kd.R_drewN | apply Kd.R_drew)); exact HO_13.out) hb); have n3_ := Aside0.mk (Kd.R_below (by (with_reducible repeat (first | apply Kd.R_alloc | apply Kd.R_drewN | apply Kd.R_drew)); exact HO_14.out) hb); have n4_ := Aside0.mk (blk_below (g := gb345) (o := .cells #[.int .i64 t340, .int .i64 t341, .int .i64 t342, .int .i64 t343] 24 (0, 0)) (by (with_reducible repeat (first | refine blk_drewN ?_ _ | refine blk_drew ?_ | refine blk_alloc ?_ _)); exact BK345.out) hb); have n5_ := Aside0.mk (blk_below (g := gb346) (o := .cells #[.int .i64 ji14, .int .i64 ji15, .int .i64 t342, .int .i64 t343] 24 (0, 0)) (by (with_reducible repeat (first | refine blk_drewN ?_ _ | refine blk_drew ?_ | refine blk_alloc ?_ _)); exact BK346.out) hb); have n6_ := Aside0.mk (below_step (by repeat (first | (with_reducible first | exact HB.out | apply below_alloc | apply pw_below_drewN | apply below_drew1 | refine below_set ?_ GE345.out | refine below_set ?_ GE346.out) | exact HB.out)) hb); clear HO_11 HO_12 HO_13 HO_14 BK345 BK346 HB; have HO_11 := n0_; have HO_12 := n1_; have HO_13 := n2_; have HO_14 := n3_; have BK345 := n4_; have BK346 := n5_; have HB := n6_; clear n0_ n1_ n2_ n3_ n4_ n5_ n6_; (try clear hb); (try clear hb2); (try clear hk); (try clear hi); have hcz90_0 : w89.cell? ⟨gb346, 0, none⟩ = some (.int .i64 ji14) := (blk_cell BK346.out 0).trans rfl; have hcz90_1 : w89.cell? ⟨gb346, 1, none⟩ = some (.int .i64 ji15) := (blk_cell BK346.out 1).trans rfl; have hcz90_2 : w89.cell? ⟨gb346, 2, none⟩ = some (.int .i64 t342) := (blk_cell BK346.out 2).trans rfl; have hcz90_3 : w89.cell? ⟨gb346, 3, none⟩ = some (.int .i64 t343) := (blk_cell BK346.out 3).trans rfl; have hfz90_0 := blk_frozen BK346.out 0; have hfz90_1 := blk_frozen BK346.out 1; have hfz90_2 := blk_frozen BK346.out 2; have hfz90_3 := blk_frozen BK346.out 3) | (go_at_call 16; (with_reducible refine (monitor_Good.calls k3 ji14 ji15 t342 t343 _ _ x11_2 _ _ x12_2 true _ ?side1 ?side2 ?side3 ?side4 A75.out).mono ?_); (case side1 => repeat (first | exact (Kd.R_reads' HO_11.out).2.2 | (with_reducible refine Kd.C_alloc ?_ _) | (with_reducible refine Kd.C_drewN ?_ _) | (with_reducible refine Kd.C_drew ?_))); (case side2 => exact (Kd.R_reads' HO_11.out).2.1); (case side3 => repeat (first | exact (Kd.R_reads' HO_12.out).2.2 | (with_reducible refine Kd.C_alloc ?_ _) | (with_reducible refine Kd.C_drewN ?_ _) | (with_reducible refine Kd.C_drew ?_))); (case side4 => exact (Kd.R_reads' HO_12.out).2.1); rintro e w91 ⟨rfl, hb⟩; have n0_ := Aside0.mk (Kd.R_below (by (with_reducible repeat (first | apply Kd.R_alloc | apply Kd.R_drewN | apply Kd.R_drew)); exact HO_11.out) hb); have n1_ := Aside0.mk (Kd.R_below (by (with_reducible repeat (first | apply Kd.R_alloc | apply Kd.R_drewN | apply Kd.R_drew)); exact HO_12.out) hb); have n2_ := Aside0.mk (Kd.R_below (by (with_reducible repeat (first | apply Kd.R_alloc | apply Kd.R_drewN | apply Kd.R_drew)); exact HO_13.out) hb); have n3_ := Aside0.mk (Kd.R_below (by (with_reducible repeat (first | apply Kd.R_alloc | apply Kd.R_drewN | apply Kd.R_drew)); exact HO_14.out) hb); have n4_ := Aside0.mk (blk_below (g := gb345) (o := .cells #[.int .i64 t340, .int .i64 t341, .int .i64 t342, .int .i64 t343] 24 (0, 0)) (by (with_reducible repeat (first | refine blk_drewN ?_ _ | refine blk_drew ?_ | refine blk_alloc ?_ _)); exact BK345.out) hb); have n5_ := Aside0.mk (blk_below (g := gb346) (o := .cells #[.int .i64 ji14, .int .i64 ji15, .int .i64 t342, .int .i64 t343] 24 (0, 0)) (by (with_reducible repeat (first | refine blk_drewN ?_ _ | refine blk_drew ?_ | refine blk_alloc ?_ _)); exact BK346.out) hb); have n6_ := Aside0.mk (below_step (by repeat (first | (with_reducible first | exact HB.out | apply below_alloc | apply pw_below_drewN | apply below_drew1 | refine below_set ?_ GE345.out | refine below_set ?_ GE346.out) | exact HB.out)) hb); clear HO_11 HO_12 HO_13 HO_14 BK345 BK346 HB; have HO_11 := n0_; have HO_12 := n1_; have HO_13 := n2_; have HO_14 := n3_; have BK345 := n4_; have BK346 := n5_; have HB := n6_; clear n0_ n1_ n2_ n3_ n4_ n5_ n6_; (try clear hb); (try clear hb2); (try clear hk); (try clear hi)) | (go_at_call 9; (with_reducible refine (awardingbodylaw27_sane.calls k3  t380 _ A77.out).mono ?_); rintro e w92 ⟨rfl, hb⟩; have n0_ := Aside0.mk (Kd.R_below (by (with_reducible repeat (first | apply Kd.R_alloc | apply Kd.R_drewN | apply Kd.R_drew)); exact HO_11.out) hb); have n1_ := Aside0.mk (Kd.R_below (by (with_reducible repeat (first | apply Kd.R_alloc | apply Kd.R_drewN | apply Kd.R_drew)); exact HO_12.out) hb); have n2_ := Aside0.mk (Kd.R_below (by (with_reducible repeat (first | apply Kd.R_alloc | apply Kd.R_drewN | apply Kd.R_drew)); exact HO_13.out) hb); have n3_ := Aside0.mk (Kd.R_below (by (with_reducible repeat (first | apply Kd.R_alloc | apply Kd.R_drewN | apply Kd.R_drew)); exact HO_14.out) hb); have n4_ := Aside0.mk (blk_below (g := gb345) (o := .cells #[.int .i64 t340, .int .i64 t341, .int .i64 t342, .int .i64 t343] 24 (0, 0)) (by (with_reducible repeat (first | refine blk_drewN ?_ _ | refine blk_drew ?_ | refine blk_alloc ?_ _)); exact BK345.out) hb); have n5_ := Aside0.mk (blk_below (g := gb346) (o := .cells #[.int .i64 ji14, .int .i64 ji15, .int .i64 t342, .int .i64 t343] 24 (0, 0)) (by (with_reducible repeat (first | refine blk_drewN ?_ _ | refine blk_drew ?_ | refine blk_alloc ?_ _)); exact BK346.out) hb); have n6_ := Aside0.mk (below_step (by repeat (first | (with_reducible first | exact HB.out | apply below_alloc | apply pw_below_drewN | apply below_drew1 | refine below_set ?_ GE345.out | refine below_set ?_ GE346.out) | exact HB.out)) hb); clear HO_11 HO_12 HO_13 HO_14 BK345 BK346 HB; have HO_11 := n0_; have HO_12 := n1_; have HO_13 := n2_; have HO_14 := n3_; have BK345 := n4_; have BK346 := n5_; have HB := n6_; clear n0_ n1_ n2_ n3_ n4_ n5_ n6_; (try clear hb); (try clear hb2); (try clear hk); (try clear hi)))
               go_ret
               exact ⟨by first | rfl | (simp [errW_none, errW_some] <;> rfl) | (simp only [← hji14, ← hji15]; first | rfl | (simp [errW_none, errW_some] <;> rfl)) | (simp [*, errW_none, errW_some] <;> rfl), by repeat (first | (with_reducible first | exact HB.out | apply below_alloc | apply pw_below_drewN | apply below_drew1 | refine below_set ?_ GE345.out | refine below_set ?_ GE346.out) | exact HB.out)⟩
              ·replace c76 := Bool.eq_false_iff.mpr c76
               subst c76
               have H1 : (none) = some r := by rw [if_neg (show ¬ (false = true) by decide)] at H; exact H
               clear H
               have H := H1
               clear H1
               exact absurd H (by simp)
             ·replace c74 := Bool.eq_false_iff.mpr c74
              subst c74
              have H1 : ((awardingbodylaw27_sane.f k3).bind fun t381 => (some t381)) = some r := by rw [if_neg (show ¬ (false = true) by decide)] at H; exact H
              clear H
              have H := H1
              clear H1
              replace H := Option.bind_eq_some_iff.mp H
              obtain ⟨t381, A930, H⟩ := H
              replace H : (some t381) = some r := H
              have A93 := Aside0.mk A930
              clear A930
              obtain rfl := Option.some.inj H
              have hnb94 := NB345_346.out
              have hnc94 := NB346_345.out
              have hcz95_0 : wr.cell? ⟨gb345, 0, none⟩ = some (.int .i64 t340) := (blk_cell BK345.out 0).trans rfl
              have hcz95_1 : wr.cell? ⟨gb345, 1, none⟩ = some (.int .i64 t341) := (blk_cell BK345.out 1).trans rfl
              have hcz95_2 : wr.cell? ⟨gb345, 2, none⟩ = some (.int .i64 t342) := (blk_cell BK345.out 2).trans rfl
              have hcz95_3 : wr.cell? ⟨gb345, 3, none⟩ = some (.int .i64 t343) := (blk_cell BK345.out 3).trans rfl
              have hfz95_0 := blk_frozen BK345.out 0
              have hfz95_1 := blk_frozen BK345.out 1
              have hfz95_2 := blk_frozen BK345.out 2
              have hfz95_3 := blk_frozen BK345.out 3
              obtain ⟨Ao96, co96, eo96⟩ := Kd.R_slice HO_12.out
              subst eo96
              go_wp2_with (first | ((with_reducible refine gate_callee (f := 16) rfl ?_); refine goesL_ (some 102) rfl rfl Try.func16 (by kernel_rfl) rfl #[.agg #[.int .i64 t340, .int .i64 t341, .int .i64 t342, .int .i64 t343], .slice Ao47 x11_2.length co47, .slice Ao96 x12_2.length co96] rfl (by (try simp only [List.map_toArray, List.map_cons, List.map_nil]); first | done | rfl | (simp only [List.length_drop, List.length_take]; rfl)) ?_; (with_reducible refine (monitor_Good.calls k3 t340 t341 t342 t343 _ _ x11_2 _ _ x12_2 false _ ?side1 ?side2 ?side3 ?side4 A67.out).mono ?_); (case side1 => repeat (first | exact (Kd.R_reads' HO_11.out).2.2 | (with_reducible refine Kd.C_alloc ?_ _) | (with_reducible refine Kd.C_drewN ?_ _) | (with_reducible refine Kd.C_drew ?_))); (case side2 => exact (Kd.R_reads' HO_11.out).2.1); (case side3 => repeat (first | exact (Kd.R_reads' HO_12.out).2.2 | (with_reducible refine Kd.C_alloc ?_ _) | (with_reducible refine Kd.C_drewN ?_ _) | (with_reducible refine Kd.C_drew ?_))); (case side4 => exact (Kd.R_reads' HO_12.out).2.1); rintro e w97 ⟨rfl, hb⟩; refine ⟨_, rfl, ?_⟩; have n0_ := Aside0.mk (Kd.R_below (by (with_reducible repeat (first | apply Kd.R_alloc | apply Kd.R_drewN | apply Kd.R_drew)); exact HO_11.out) hb); have n1_ := Aside0.mk (Kd.R_below (by (with_reducible repeat (first | apply Kd.R_alloc | apply Kd.R_drewN | apply Kd.R_drew)); exact HO_12.out) hb); have n2_ := Aside0.mk (Kd.R_below (by (with_reducible repeat (first | apply Kd.R_alloc | apply Kd.R_drewN | apply Kd.R_drew)); exact HO_13.out) hb); have n3_ := Aside0.mk (Kd.R_below (by (with_reducible repeat (first | apply Kd.R_alloc | apply Kd.R_drewN | apply Kd.R_drew)); exact HO_14.out) hb); have n4_ := Aside0.mk (blk_below (g := gb345) (o := .cells #[.int .i64 t340, .int .i64 t341, .int .i64 t342, .int .i64 t343] 24 (0, 0)) (by (with_reducible repeat (first | refine blk_drewN ?_ _ | refine blk_drew ?_ | refine blk_alloc ?_ _)); exact BK345.out) hb); have n5_ := Aside0.mk (blk_below (g := gb346) (o := .cells #[.int .i64 ji14, .int .i64 ji15, .int .i64 t342, .int .i64 t343] 24 (0, 0)) (by (with_reducible repeat (first | refine blk_drewN ?_ _ | refine blk_drew ?_ | refine blk_alloc ?_ _)); exact BK346.out) hb); have n6_ := Aside0.mk (below_step (by repeat (first | (with_reducible first | exact HB.out | apply below_alloc | apply pw_below_drewN | apply below_drew1 | refine below_set ?_ GE345.out | refine below_set ?_ GE346.out) | exact HB.out)) hb); clear HO_11 HO_12 HO_13 HO_14 BK345 BK346 HB; have HO_11 := n0_; have HO_12 := n1_; have HO_13 := n2_; have HO_14 := n3_; have BK345 := n4_; have BK346 := n5_; have HB := n6_; clear n0_ n1_ n2_ n3_ n4_ n5_ n6_; (try clear hb); (try clear hb2); (try clear hk); (try clear hi); have hcz98_0 : w97.cell? ⟨gb345, 0, none⟩ = some (.int .i64 t340) := (blk_cell BK345.out 0).trans rfl; have hcz98_1 : w97.cell? ⟨gb345, 1, none⟩ = some (.int .i64 t341) := (blk_cell BK345.out 1).trans rfl; have hcz98_2 : w97.cell? ⟨gb345, 2, none⟩ = some (.int .i64 t342) := (blk_cell BK345.out 2).trans rfl; have hcz98_3 : w97.cell? ⟨gb345, 3, none⟩ = some (.int .i64 t343) := (blk_cell BK345.out 3).trans rfl; have hfz98_0 := blk_frozen BK345.out 0; have hfz98_1 := blk_frozen BK345.out 1; have hfz98_2 := blk_frozen BK345.out 2; have hfz98_3 := blk_frozen BK345.out 3) | ((with_reducible refine gate_callee (f := 16) rfl ?_); refine goesL_ (some 106) rfl rfl Try.func16 (by kernel_rfl) rfl #[.agg #[.int .i64 t340, .int .i64 t341, .int .i64 t342, .int .i64 t343], .slice Ao47 x11_2.length co47, .slice Ao47 x11_2.length co47] rfl (by (try simp only [List.map_toArray, List.map_cons, List.map_nil]); first | done | rfl | (simp only [List.length_drop, List.length_take]; rfl)) ?_; (with_reducible refine (monitor_Good.calls k3 t340 t341 t342 t343 _ _ x11_2 _ _ x11_2 true _ ?side1 ?side2 ?side3 ?side4 A68.out).mono ?_); (case side1 => repeat (first | exact (Kd.R_reads' HO_11.out).2.2 | (with_reducible refine Kd.C_alloc ?_ _) | (with_reducible refine Kd.C_drewN ?_ _) | (with_reducible refine Kd.C_drew ?_))); (case side2 => exact (Kd.R_reads' HO_11.out).2.1); (case side3 => repeat (first | exact (Kd.R_reads' HO_11.out).2.2 | (with_reducible refine Kd.C_alloc ?_ _) | (with_reducible refine Kd.C_drewN ?_ _) | (with_reducible refine Kd.C_drew ?_))); (case side4 => exact (Kd.R_reads' HO_11.out).2.1); rintro e w99 ⟨rfl, hb⟩; refine ⟨_, rfl, ?_⟩; have n0_ := Aside0.mk (Kd.R_below (by (with_reducible repeat (first | apply Kd.R_alloc | apply Kd.R_drewN | apply Kd.R_drew)); exact HO_11.out) hb); have n1_ := Aside0.mk (Kd.R_below (by (with_reducible repeat (first | apply Kd.R_alloc | apply Kd.R_drewN | apply Kd.R_drew)); exact HO_12.out) hb); have n2_ := Aside0.mk (Kd.R_below (by (with_reducible repeat (first | apply Kd.R_alloc | apply Kd.R_drewN | apply Kd.R_drew)); exact HO_13.out) hb); have n3_ := Aside0.mk (Kd.R_below (by (with_reducible repeat (first | apply Kd.R_alloc | apply Kd.R_drewN | apply Kd.R_drew)); exact HO_14.out) hb); have n4_ := Aside0.mk (blk_below (g := gb345) (o := .cells #[.int .i64 t340, .int .i64 t341, .int .i64 t342, .int .i64 t343] 24 (0, 0)) (by (with_reducible repeat (first | refine blk_drewN ?_ _ | refine blk_drew ?_ | refine blk_alloc ?_ _)); exact BK345.out) hb); have n5_ := Aside0.mk (blk_below (g := gb346) (o := .cells #[.int .i64 ji14, .int .i64 ji15, .int .i64 t342, .int .i64 t343] 24 (0, 0)) (by (with_reducible repeat (first | refine blk_drewN ?_ _ | refine blk_drew ?_ | refine blk_alloc ?_ _)); exact BK346.out) hb); have n6_ := Aside0.mk (below_step (by repeat (first | (with_reducible first | exact HB.out | apply below_alloc | apply pw_below_drewN | apply below_drew1 | refine below_set ?_ GE345.out | refine below_set ?_ GE346.out) | exact HB.out)) hb); clear HO_11 HO_12 HO_13 HO_14 BK345 BK346 HB; have HO_11 := n0_; have HO_12 := n1_; have HO_13 := n2_; have HO_14 := n3_; have BK345 := n4_; have BK346 := n5_; have HB := n6_; clear n0_ n1_ n2_ n3_ n4_ n5_ n6_; (try clear hb); (try clear hb2); (try clear hk); (try clear hi); have hcz100_0 : w99.cell? ⟨gb345, 0, none⟩ = some (.int .i64 t340) := (blk_cell BK345.out 0).trans rfl; have hcz100_1 : w99.cell? ⟨gb345, 1, none⟩ = some (.int .i64 t341) := (blk_cell BK345.out 1).trans rfl; have hcz100_2 : w99.cell? ⟨gb345, 2, none⟩ = some (.int .i64 t342) := (blk_cell BK345.out 2).trans rfl; have hcz100_3 : w99.cell? ⟨gb345, 3, none⟩ = some (.int .i64 t343) := (blk_cell BK345.out 3).trans rfl; have hfz100_0 := blk_frozen BK345.out 0; have hfz100_1 := blk_frozen BK345.out 1; have hfz100_2 := blk_frozen BK345.out 2; have hfz100_3 := blk_frozen BK345.out 3) | (go_at_call 16; (with_reducible refine (monitor_Good.calls k3 t340 t341 t342 t343 _ _ x12_2 _ _ x11_2 t377 _ ?side1 ?side2 ?side3 ?side4 A70.out).mono ?_); (case side1 => repeat (first | exact (Kd.R_reads' HO_12.out).2.2 | (with_reducible refine Kd.C_alloc ?_ _) | (with_reducible refine Kd.C_drewN ?_ _) | (with_reducible refine Kd.C_drew ?_))); (case side2 => exact (Kd.R_reads' HO_12.out).2.1); (case side3 => repeat (first | exact (Kd.R_reads' HO_11.out).2.2 | (with_reducible refine Kd.C_alloc ?_ _) | (with_reducible refine Kd.C_drewN ?_ _) | (with_reducible refine Kd.C_drew ?_))); (case side4 => exact (Kd.R_reads' HO_11.out).2.1); rintro e w101 ⟨rfl, hb⟩; have n0_ := Aside0.mk (Kd.R_below (by (with_reducible repeat (first | apply Kd.R_alloc | apply Kd.R_drewN | apply Kd.R_drew)); exact HO_11.out) hb); have n1_ := Aside0.mk (Kd.R_below (by (with_reducible repeat (first | apply Kd.R_alloc | apply Kd.R_drewN | apply Kd.R_drew)); exact HO_12.out) hb); have n2_ := Aside0.mk (Kd.R_below (by (with_reducible repeat (first | apply Kd.R_alloc | apply Kd.R_drewN | apply Kd.R_drew)); exact HO_13.out) hb); have n3_ := Aside0.mk (Kd.R_below (by (with_reducible repeat (first | apply Kd.R_alloc | apply Kd.R_drewN | apply Kd.R_drew)); exact HO_14.out) hb); have n4_ := Aside0.mk (blk_below (g := gb345) (o := .cells #[.int .i64 t340, .int .i64 t341, .int .i64 t342, .int .i64 t343] 24 (0, 0)) (by (with_reducible repeat (first | refine blk_drewN ?_ _ | refine blk_drew ?_ | refine blk_alloc ?_ _)); exact BK345.out) hb); have n5_ := Aside0.mk (blk_below (g := gb346) (o := .cells #[.int .i64 ji14, .int .i64 ji15, .int .i64 t342, .int .i64 t343] 24 (0, 0)) (by (with_reducible repeat (first | refine blk_drewN ?_ _ | refine blk_drew ?_ | refine blk_alloc ?_ _)); exact BK346.out) hb); have n6_ := Aside0.mk (below_step (by repeat (first | (with_reducible first | exact HB.out | apply below_alloc | apply pw_below_drewN | apply below_drew1 | refine below_set ?_ GE345.out | refine below_set ?_ GE346.out) | exact HB.out)) hb); clear HO_11 HO_12 HO_13 HO_14 BK345 BK346 HB; have HO_11 := n0_; have HO_12 := n1_; have HO_13 := n2_; have HO_14 := n3_; have BK345 := n4_; have BK346 := n5_; have HB := n6_; clear n0_ n1_ n2_ n3_ n4_ n5_ n6_; (try clear hb); (try clear hb2); (try clear hk); (try clear hi); have hcz102_0 : w101.cell? ⟨gb345, 0, none⟩ = some (.int .i64 t340) := (blk_cell BK345.out 0).trans rfl; have hcz102_1 : w101.cell? ⟨gb345, 1, none⟩ = some (.int .i64 t341) := (blk_cell BK345.out 1).trans rfl; have hcz102_2 : w101.cell? ⟨gb345, 2, none⟩ = some (.int .i64 t342) := (blk_cell BK345.out 2).trans rfl; have hcz102_3 : w101.cell? ⟨gb345, 3, none⟩ = some (.int .i64 t343) := (blk_cell BK345.out 3).trans rfl; have hfz102_0 := blk_frozen BK345.out 0; have hfz102_1 := blk_frozen BK345.out 1; have hfz102_2 := blk_frozen BK345.out 2; have hfz102_3 := blk_frozen BK345.out 3; obtain ⟨Ao103, co103, eo103⟩ := Kd.R_slice HO_13.out; subst eo103; obtain ⟨Ao104, co104, eo104⟩ := Kd.R_slice HO_14.out; subst eo104) | (go_at_call 16; (with_reducible refine (monitor_Good.calls k3 t340 t341 t342 t343 _ _ x13_3 _ _ x14_3 t378 _ ?side1 ?side2 ?side3 ?side4 A72.out).mono ?_); (case side1 => repeat (first | exact (Kd.R_reads' HO_13.out).2.2 | (with_reducible refine Kd.C_alloc ?_ _) | (with_reducible refine Kd.C_drewN ?_ _) | (with_reducible refine Kd.C_drew ?_))); (case side2 => exact (Kd.R_reads' HO_13.out).2.1); (case side3 => repeat (first | exact (Kd.R_reads' HO_14.out).2.2 | (with_reducible refine Kd.C_alloc ?_ _) | (with_reducible refine Kd.C_drewN ?_ _) | (with_reducible refine Kd.C_drew ?_))); (case side4 => exact (Kd.R_reads' HO_14.out).2.1); rintro e w105 ⟨rfl, hb⟩; have n0_ := Aside0.mk (Kd.R_below (by (with_reducible repeat (first | apply Kd.R_alloc | apply Kd.R_drewN | apply Kd.R_drew)); exact HO_11.out) hb); have n1_ := Aside0.mk (Kd.R_below (by (with_reducible repeat (first | apply Kd.R_alloc | apply Kd.R_drewN | apply Kd.R_drew)); exact HO_12.out) hb); have n2_ := Aside0.mk (Kd.R_below (by (with_reducible repeat (first | apply Kd.R_alloc | apply Kd.R_drewN | apply Kd.R_drew)); exact HO_13.out) hb); have n3_ := Aside0.mk (Kd.R_below (by (with_reducible repeat (first | apply Kd.R_alloc | apply Kd.R_drewN | apply Kd.R_drew)); exact HO_14.out) hb); have n4_ := Aside0.mk (blk_below (g := gb345) (o := .cells #[.int .i64 t340, .int .i64 t341, .int .i64 t342, .int .i64 t343] 24 (0, 0)) (by (with_reducible repeat (first | refine blk_drewN ?_ _ | refine blk_drew ?_ | refine blk_alloc ?_ _)); exact BK345.out) hb); have n5_ := Aside0.mk (blk_below (g := gb346) (o := .cells #[.int .i64 ji14, .int .i64 ji15, .int .i64 t342, .int .i64 t343] 24 (0, 0)) (by (with_reducible repeat (first | refine blk_drewN ?_ _ | refine blk_drew ?_ | refine blk_alloc ?_ _)); exact BK346.out) hb); have n6_ := Aside0.mk (below_step (by repeat (first | (with_reducible first | exact HB.out | apply below_alloc | apply pw_below_drewN | apply below_drew1 | refine below_set ?_ GE345.out | refine below_set ?_ GE346.out) | exact HB.out)) hb); clear HO_11 HO_12 HO_13 HO_14 BK345 BK346 HB; have HO_11 := n0_; have HO_12 := n1_; have HO_13 := n2_; have HO_14 := n3_; have BK345 := n4_; have BK346 := n5_; have HB := n6_; clear n0_ n1_ n2_ n3_ n4_ n5_ n6_; (try clear hb); (try clear hb2); (try clear hk); (try clear hi)) | (go_at_call 9; (with_reducible refine (awardingbodylaw27_sane.calls k3  t381 _ A93.out).mono ?_); rintro e w106 ⟨rfl, hb⟩; have n0_ := Aside0.mk (Kd.R_below (by (with_reducible repeat (first | apply Kd.R_alloc | apply Kd.R_drewN | apply Kd.R_drew)); exact HO_11.out) hb); have n1_ := Aside0.mk (Kd.R_below (by (with_reducible repeat (first | apply Kd.R_alloc | apply Kd.R_drewN | apply Kd.R_drew)); exact HO_12.out) hb); have n2_ := Aside0.mk (Kd.R_below (by (with_reducible repeat (first | apply Kd.R_alloc | apply Kd.R_drewN | apply Kd.R_drew)); exact HO_13.out) hb); have n3_ := Aside0.mk (Kd.R_below (by (with_reducible repeat (first | apply Kd.R_alloc | apply Kd.R_drewN | apply Kd.R_drew)); exact HO_14.out) hb); have n4_ := Aside0.mk (blk_below (g := gb345) (o := .cells #[.int .i64 t340, .int .i64 t341, .int .i64 t342, .int .i64 t343] 24 (0, 0)) (by (with_reducible repeat (first | refine blk_drewN ?_ _ | refine blk_drew ?_ | refine blk_alloc ?_ _)); exact BK345.out) hb); have n5_ := Aside0.mk (blk_below (g := gb346) (o := .cells #[.int .i64 ji14, .int .i64 ji15, .int .i64 t342, .int .i64 t343] 24 (0, 0)) (by (with_reducible repeat (first | refine blk_drewN ?_ _ | refine blk_drew ?_ | refine blk_alloc ?_ _)); exact BK346.out) hb); have n6_ := Aside0.mk (below_step (by repeat (first | (with_reducible first | exact HB.out | apply below_alloc | apply pw_below_drewN | apply below_drew1 | refine below_set ?_ GE345.out | refine below_set ?_ GE346.out) | exact HB.out)) hb); clear HO_11 HO_12 HO_13 HO_14 BK345 BK346 HB; have HO_11 := n0_; have HO_12 := n1_; have HO_13 := n2_; have HO_14 := n3_; have BK345 := n4_; have BK346 := n5_; have HB := n6_; clear n0_ n1_ n2_ n3_ n4_ n5_ n6_; (try clear hb); (try clear hb2); (try clear hk); (try clear hi)))
              go_ret
              exact ⟨by first | rfl | (simp [errW_none, errW_some] <;> rfl) | (simp only [← hji14, ← hji15]; first | rfl | (simp [errW_none, errW_some] <;> rfl)) | (simp [*, errW_none, errW_some] <;> rfl), by repeat (first | (with_reducible first | exact HB.out | apply below_alloc | apply pw_below_drewN | apply below_drew1 | refine below_set ?_ GE345.out | refine below_set ?_ GE346.out) | exact HB.out)⟩
            ·rw [if_neg c73] at H
             exact absurd H (by simp)
           ·rw [if_neg c71] at H
            exact absurd H (by simp)
          ·replace c69 := Bool.eq_false_iff.mpr c69
           subst c69
           have H1 : (none) = some r := by rw [if_neg (show ¬ (false = true) by decide)] at H; exact H
           clear H
           have H := H1
           clear H1
           exact absurd H (by simp)

/-- THE ONE PURE STATEMENT of awardingbodylaw27_MonitorTolerance: yours. -/
def awardingbodylaw27_MonitorTolerance.Pure : Prop := ∀ (l0 : List Int) (l1 : List Int) (l2 : List Int) (a3 : Int), l0.length ≤ maxLen → l0.length * 8 ≤ 140737488351232 → (∀ x ∈ l0, (Lit.int .i64 x).wf = true) → l1.length ≤ maxLen → l1.length * 1 ≤ 140737488351232 → (∀ x ∈ l1, (Lit.int .u8 x).wf = true) → l2.length ≤ maxLen → l2.length * 1 ≤ 140737488351232 → (∀ x ∈ l2, (Lit.int .u8 x).wf = true) → (Lit.int .u8 a3).wf = true → ∃ k, awardingbodylaw27_MonitorTolerance.f k l0 l1 l2 a3 = some true
theorem awardingbodylaw27_MonitorTolerance.walk (P : awardingbodylaw27_MonitorTolerance.Pure) (a0 : Option Addr) (len0 cap0 : Nat) (z0 : List Int) (a1 : Option Addr) (len1 cap1 : Nat) (z1 : List Int) (a2 : Option Addr) (len2 cap2 : Nat) (z2 : List Int) (a3 : Int) (w : World) (w0 : (a0 = none ∧ len0 = 0 ∧ cap0 = 0 ∧ z0 = []) ∨ ∃ x, a0 = some x ∧ len0 ≤ cap0 ∧ cap0 ≤ maxLen ∧ z0.length = cap0 ∧ (∀ i, i < z0.length → w.cell? (x.add i) = some (.int .i64 (z0.getD i 0))) ∧ ∀ n ∈ z0, (Lit.int .i64 n).wf = true) (y0 : len0 * 8 ≤ 140737488351232) (w1 : (a1 = none ∧ len1 = 0 ∧ cap1 = 0 ∧ z1 = []) ∨ ∃ x, a1 = some x ∧ len1 ≤ cap1 ∧ cap1 ≤ maxLen ∧ z1.length = cap1 ∧ (∀ i, i < z1.length → w.cell? (x.add i) = some (.int .u8 (z1.getD i 0))) ∧ ∀ n ∈ z1, (Lit.int .u8 n).wf = true) (y1 : len1 * 1 ≤ 140737488351232) (w2 : (a2 = none ∧ len2 = 0 ∧ cap2 = 0 ∧ z2 = []) ∨ ∃ x, a2 = some x ∧ len2 ≤ cap2 ∧ cap2 ≤ maxLen ∧ z2.length = cap2 ∧ (∀ i, i < z2.length → w.cell? (x.add i) = some (.int .u8 (z2.getD i 0))) ∧ ∀ n ∈ z2, (Lit.int .u8 n).wf = true) (y2 : len2 * 1 ≤ 140737488351232) (w3 : (Lit.int .u8 a3).wf = true) :
  Calls Try.prog 6 #[.slice a0 len0 cap0, .slice a1 len1 cap1, .slice a2 len2 cap2, .int .u8 a3] w fun e w' => e = .returned (.bool true) ∧ Below w.heap.size w w' := by
 obtain ⟨l0, rfl, hr0, hm0, hw0, hc0⟩ := ReadsInt.ofRowC w0
 obtain ⟨l1, rfl, hr1, hm1, hw1, hc1⟩ := ReadsInt.ofRowC w1
 obtain ⟨l2, rfl, hr2, hm2, hw2, hc2⟩ := ReadsInt.ofRowC w2
 obtain ⟨k, h⟩ := P l0 l1 l2 a3 hm0 y0 hw0 hm1 y1 hw1 hm2 y2 hw2 w3
 refine (awardingbodylaw27_MonitorTolerance.calls k _ _ l0 _ _ l1 _ _ l2 a3 true w (Kd.C_of_reads (d := (0 : Int)) (h1 := fun _ => rfl) hr0) hc0 (Kd.C_of_reads (d := (0 : Int)) (h1 := fun _ => rfl) hr1) hc1 (Kd.C_of_reads (d := (0 : Int)) (h1 := fun _ => rfl) hr2) hc2 h).mono ?_
 rintro e w' ⟨rfl, hd⟩
 exact ⟨rfl, hd⟩

end Go.Proofs.Ytdcfjmkeakkfjaa.Print
