-- Printed by a program of this session (wip/own_print.py) out of the translation; Lean checks it.
import Derived.Test.YtdcfjmkeakkfjaaShort
import Derived.Test.YtdcfjmkeakkfjaaPrint0
namespace Go.Proofs.Ytdcfjmkeakkfjaa.Print
open Go.RowKit Go.Proofs.YtdcfjmkeakkfjaaW.PrintWords Go.Proofs.YtdcfjmkeakkfjaaW.PrintLast Go.Proofs.YtdcfjmkeakkfjaaW.PrintMore
attribute [local go_sem] max2_int min2_int max_two min_two max_three min_three max_four min_four   -- for this text's walks alone
set_option linter.unusedVariables false
set_option linter.unusedSimpArgs false

/-! ### awardingbodymark_Light: function 8 -/
def awardingbodymark_Light.f (l0 : List Int) : Option (Bool) := some (decide ((l0.length : Int) ≤ 600))
set_option maxHeartbeats 8000000 in
set_option maxRecDepth 100000 in
theorem awardingbodymark_Light.calls (A0 : Option Addr) (c0 : Nat) (l0 : List Int) (r : Bool) (w : World) (hr0 : Kd.C (Kd.int .i64) w A0 l0.length l0) (hc0 : l0.length ≤ c0) (h : awardingbodymark_Light.f l0 = some r) :
    Calls Try.prog 8 #[.slice A0 l0.length c0] w fun e w' => e = .returned (.bool r) ∧ Drawn0 w w' := by
 have HR0 := za hr0
 have HC0 := za hc0
 clear hr0 hc0
 have H : (some (decide ((l0.length : Int) ≤ 600))) = some r := h
 clear h
 obtain rfl := Option.some.inj H
 go_enter Try.func8, Try.ntmps8
 go_wp2
 go_ret
 exact ⟨by first | rfl | (simp; done) | (simp [*]; done), by repeat (first | exact Drawn0.refl _ | apply Drawn0.step)⟩

/-! ### monitor_in: function 26 -/
def monitor_in.f (a0 : Int) (a1 : Int) (a2 : Int) : Option (Bool) := if a0 ≥ a1 then (some (decide (a0 ≤ a2))) else (some false)
set_option maxHeartbeats 8000000 in
set_option maxRecDepth 100000 in
theorem monitor_in.calls (a0 : Int) (a1 : Int) (a2 : Int) (r : Bool) (w : World) (h : monitor_in.f a0 a1 a2 = some r) :
    Calls Try.prog 26 #[.int .i64 a0, .int .i64 a1, .int .i64 a2] w fun e w' => e = .returned (.bool r) ∧ Drawn0 w w' := by
 have H : (if a0 ≥ a1 then (some (decide (a0 ≤ a2))) else (some false)) = some r := h
 clear h
 by_cases c4 : a0 ≥ a1
 ·rw [if_pos c4] at H
  have c4b0 : decide (a1 ≤ a0) = true := decide_eq_true c4
  clear c4
  obtain rfl := Option.some.inj H
  go_enter Try.func26, Try.ntmps26
  go_wp2
  go_ret
  exact ⟨by first | rfl | (simp; done) | (simp [*]; done), by repeat (first | exact Drawn0.refl _ | apply Drawn0.step)⟩
 ·rw [if_neg c4] at H
  have c4b0 : decide (a1 ≤ a0) = false := decide_eq_false c4
  clear c4
  obtain rfl := Option.some.inj H
  go_enter Try.func26, Try.ntmps26
  go_wp2
  go_ret
  exact ⟨by first | rfl | (simp; done) | (simp [*]; done), by repeat (first | exact Drawn0.refl _ | apply Drawn0.step)⟩

/-! ### monitor_Check: function 14 -/
def monitor_Check.f (a0_0 : Int) (a0_1 : Int) (a0_2 : Int) (a0_3 : Int) : Option (Int) := (monitor_in.f a0_0 0 200).bind fun t102 => (if t102 = true then ((monitor_in.f a0_1 0 200).bind fun t103 => (if t103 = true then ((monitor_in.f a0_2 1 20).bind fun t104 => (if t104 = true then ((monitor_in.f a0_3 1 a0_2).bind fun t105 => (if t105 = true then (some 0) else (some 2))) else (some 2))) else (some 2))) else (some 2))
set_option maxHeartbeats 8000000 in
set_option maxRecDepth 100000 in
theorem monitor_Check.calls (a0_0 : Int) (a0_1 : Int) (a0_2 : Int) (a0_3 : Int) (r : Int) (w : World) (h : monitor_Check.f a0_0 a0_1 a0_2 a0_3 = some r) :
    Calls Try.prog 14 #[.agg #[.int .i64 a0_0, .int .i64 a0_1, .int .i64 a0_2, .int .i64 a0_3]] w fun e w' => e = .returned (.int .i64 r) ∧ Below w.heap.size w w' := by
 have hu24 := Try.underlying24
 have HB := za (Below.refl w.heap.size w)
 have H : ((monitor_in.f a0_0 0 200).bind fun t102 => (if t102 = true then ((monitor_in.f a0_1 0 200).bind fun t103 => (if t103 = true then ((monitor_in.f a0_2 1 20).bind fun t104 => (if t104 = true then ((monitor_in.f a0_3 1 a0_2).bind fun t105 => (if t105 = true then (some 0) else (some 2))) else (some 2))) else (some 2))) else (some 2))) = some r := h
 clear h
 replace H := Option.bind_eq_some_iff.mp H
 obtain ⟨t102, A20, H⟩ := H
 replace H : (if t102 = true then ((monitor_in.f a0_1 0 200).bind fun t103 => (if t103 = true then ((monitor_in.f a0_2 1 20).bind fun t104 => (if t104 = true then ((monitor_in.f a0_3 1 a0_2).bind fun t105 => (if t105 = true then (some 0) else (some 2))) else (some 2))) else (some 2))) else (some 2)) = some r := H
 have A2 := za A20
 clear A20
 by_cases c3 : t102 = true
 ·subst c3
  have H1 : ((monitor_in.f a0_1 0 200).bind fun t103 => (if t103 = true then ((monitor_in.f a0_2 1 20).bind fun t104 => (if t104 = true then ((monitor_in.f a0_3 1 a0_2).bind fun t105 => (if t105 = true then (some 0) else (some 2))) else (some 2))) else (some 2))) = some r := by rw [if_pos rfl] at H; exact H
  clear H
  have H := H1
  clear H1
  replace H := Option.bind_eq_some_iff.mp H
  obtain ⟨t103, A40, H⟩ := H
  replace H : (if t103 = true then ((monitor_in.f a0_2 1 20).bind fun t104 => (if t104 = true then ((monitor_in.f a0_3 1 a0_2).bind fun t105 => (if t105 = true then (some 0) else (some 2))) else (some 2))) else (some 2)) = some r := H
  have A4 := za A40
  clear A40
  by_cases c5 : t103 = true
  ·subst c5
   have H1 : ((monitor_in.f a0_2 1 20).bind fun t104 => (if t104 = true then ((monitor_in.f a0_3 1 a0_2).bind fun t105 => (if t105 = true then (some 0) else (some 2))) else (some 2))) = some r := by rw [if_pos rfl] at H; exact H
   clear H
   have H := H1
   clear H1
   replace H := Option.bind_eq_some_iff.mp H
   obtain ⟨t104, A60, H⟩ := H
   replace H : (if t104 = true then ((monitor_in.f a0_3 1 a0_2).bind fun t105 => (if t105 = true then (some 0) else (some 2))) else (some 2)) = some r := H
   have A6 := za A60
   clear A60
   by_cases c7 : t104 = true
   ·subst c7
    have H1 : ((monitor_in.f a0_3 1 a0_2).bind fun t105 => (if t105 = true then (some 0) else (some 2))) = some r := by rw [if_pos rfl] at H; exact H
    clear H
    have H := H1
    clear H1
    replace H := Option.bind_eq_some_iff.mp H
    obtain ⟨t105, A80, H⟩ := H
    replace H : (if t105 = true then (some 0) else (some 2)) = some r := H
    have A8 := za A80
    clear A80
    by_cases c9 : t105 = true
    ·subst c9
     have H1 : (some 0) = some r := by rw [if_pos rfl] at H; exact H
     clear H
     have H := H1
     clear H1
     obtain rfl := Option.some.inj H
     go_enter Try.func14, Try.ntmps14
     go_wp2_with (first | ((with_reducible refine gate_dst (N := 1) rfl ?_); refine zE 1 #[.int .i64 a0_0, .int .i64 a0_1, .int .i64 a0_2, .int .i64 a0_3] 24 ?_; intro gb101 hg w10 hbox hb; have BK101 := za (hbox); have GW101 := zg HB hg; have GE101 := zg HB hg; replace HB := zs HB hb; clear hb hbox hg; obtain ⟨hcz11_0, hcz11_1, hcz11_2, hcz11_3, hfz11_0, hfz11_1, hfz11_2, hfz11_3⟩ := z4 BK101) | ((with_reducible refine gate_callee (f := 26) rfl ?_); refine zL (some 5) Try.func26 #[.int .i64 a0_0, .int .i64 0, .int .i64 200] ?_; (with_reducible refine (monitor_in.calls a0_0 0 200 true _ A2.out).mono ?_); rintro e w' ⟨rfl, ⟨nd, rfl⟩⟩; refine ⟨_, rfl, ?_⟩) | (go_at_call 26; (with_reducible refine (monitor_in.calls a0_1 0 200 true _ A4.out).mono ?_); rintro e w' ⟨rfl, ⟨nd, rfl⟩⟩) | (go_at_call 26; (with_reducible refine (monitor_in.calls a0_2 1 20 true _ A6.out).mono ?_); rintro e w' ⟨rfl, ⟨nd, rfl⟩⟩) | (go_at_call 26; (with_reducible refine (monitor_in.calls a0_3 1 a0_2 true _ A8.out).mono ?_); rintro e w' ⟨rfl, ⟨nd, rfl⟩⟩))
     go_ret
     exact ⟨zf, zm HB⟩
    ·replace c9 := Bool.eq_false_iff.mpr c9
     subst c9
     have H1 : (some 2) = some r := by rw [if_neg (show ¬ (false = true) by decide)] at H; exact H
     clear H
     have H := H1
     clear H1
     obtain rfl := Option.some.inj H
     go_enter Try.func14, Try.ntmps14
     go_wp2_with (first | ((with_reducible refine gate_dst (N := 1) rfl ?_); refine zE 1 #[.int .i64 a0_0, .int .i64 a0_1, .int .i64 a0_2, .int .i64 a0_3] 24 ?_; intro gb101 hg w12 hbox hb; have BK101 := za (hbox); have GW101 := zg HB hg; have GE101 := zg HB hg; replace HB := zs HB hb; clear hb hbox hg; obtain ⟨hcz13_0, hcz13_1, hcz13_2, hcz13_3, hfz13_0, hfz13_1, hfz13_2, hfz13_3⟩ := z4 BK101) | ((with_reducible refine gate_callee (f := 26) rfl ?_); refine zL (some 5) Try.func26 #[.int .i64 a0_0, .int .i64 0, .int .i64 200] ?_; (with_reducible refine (monitor_in.calls a0_0 0 200 true _ A2.out).mono ?_); rintro e w' ⟨rfl, ⟨nd, rfl⟩⟩; refine ⟨_, rfl, ?_⟩) | (go_at_call 26; (with_reducible refine (monitor_in.calls a0_1 0 200 true _ A4.out).mono ?_); rintro e w' ⟨rfl, ⟨nd, rfl⟩⟩) | (go_at_call 26; (with_reducible refine (monitor_in.calls a0_2 1 20 true _ A6.out).mono ?_); rintro e w' ⟨rfl, ⟨nd, rfl⟩⟩) | (go_at_call 26; (with_reducible refine (monitor_in.calls a0_3 1 a0_2 false _ A8.out).mono ?_); rintro e w' ⟨rfl, ⟨nd, rfl⟩⟩))
     go_ret
     exact ⟨zf, zm HB⟩
   ·replace c7 := Bool.eq_false_iff.mpr c7
    subst c7
    have H1 : (some 2) = some r := by rw [if_neg (show ¬ (false = true) by decide)] at H; exact H
    clear H
    have H := H1
    clear H1
    obtain rfl := Option.some.inj H
    go_enter Try.func14, Try.ntmps14
    go_wp2_with (first | ((with_reducible refine gate_dst (N := 1) rfl ?_); refine zE 1 #[.int .i64 a0_0, .int .i64 a0_1, .int .i64 a0_2, .int .i64 a0_3] 24 ?_; intro gb101 hg w14 hbox hb; have BK101 := za (hbox); have GW101 := zg HB hg; have GE101 := zg HB hg; replace HB := zs HB hb; clear hb hbox hg; obtain ⟨hcz15_0, hcz15_1, hcz15_2, hcz15_3, hfz15_0, hfz15_1, hfz15_2, hfz15_3⟩ := z4 BK101) | ((with_reducible refine gate_callee (f := 26) rfl ?_); refine zL (some 5) Try.func26 #[.int .i64 a0_0, .int .i64 0, .int .i64 200] ?_; (with_reducible refine (monitor_in.calls a0_0 0 200 true _ A2.out).mono ?_); rintro e w' ⟨rfl, ⟨nd, rfl⟩⟩; refine ⟨_, rfl, ?_⟩) | (go_at_call 26; (with_reducible refine (monitor_in.calls a0_1 0 200 true _ A4.out).mono ?_); rintro e w' ⟨rfl, ⟨nd, rfl⟩⟩) | (go_at_call 26; (with_reducible refine (monitor_in.calls a0_2 1 20 false _ A6.out).mono ?_); rintro e w' ⟨rfl, ⟨nd, rfl⟩⟩))
    go_ret
    exact ⟨zf, zm HB⟩
  ·replace c5 := Bool.eq_false_iff.mpr c5
   subst c5
   have H1 : (some 2) = some r := by rw [if_neg (show ¬ (false = true) by decide)] at H; exact H
   clear H
   have H := H1
   clear H1
   obtain rfl := Option.some.inj H
   go_enter Try.func14, Try.ntmps14
   go_wp2_with (first | ((with_reducible refine gate_dst (N := 1) rfl ?_); refine zE 1 #[.int .i64 a0_0, .int .i64 a0_1, .int .i64 a0_2, .int .i64 a0_3] 24 ?_; intro gb101 hg w16 hbox hb; have BK101 := za (hbox); have GW101 := zg HB hg; have GE101 := zg HB hg; replace HB := zs HB hb; clear hb hbox hg; obtain ⟨hcz17_0, hcz17_1, hcz17_2, hcz17_3, hfz17_0, hfz17_1, hfz17_2, hfz17_3⟩ := z4 BK101) | ((with_reducible refine gate_callee (f := 26) rfl ?_); refine zL (some 5) Try.func26 #[.int .i64 a0_0, .int .i64 0, .int .i64 200] ?_; (with_reducible refine (monitor_in.calls a0_0 0 200 true _ A2.out).mono ?_); rintro e w' ⟨rfl, ⟨nd, rfl⟩⟩; refine ⟨_, rfl, ?_⟩) | (go_at_call 26; (with_reducible refine (monitor_in.calls a0_1 0 200 false _ A4.out).mono ?_); rintro e w' ⟨rfl, ⟨nd, rfl⟩⟩))
   go_ret
   exact ⟨zf, zm HB⟩
 ·replace c3 := Bool.eq_false_iff.mpr c3
  subst c3
  have H1 : (some 2) = some r := by rw [if_neg (show ¬ (false = true) by decide)] at H; exact H
  clear H
  have H := H1
  clear H1
  obtain rfl := Option.some.inj H
  go_enter Try.func14, Try.ntmps14
  go_wp2_with (first | ((with_reducible refine gate_dst (N := 1) rfl ?_); refine zE 1 #[.int .i64 a0_0, .int .i64 a0_1, .int .i64 a0_2, .int .i64 a0_3] 24 ?_; intro gb101 hg w18 hbox hb; have BK101 := za (hbox); have GW101 := zg HB hg; have GE101 := zg HB hg; replace HB := zs HB hb; clear hb hbox hg; obtain ⟨hcz19_0, hcz19_1, hcz19_2, hcz19_3, hfz19_0, hfz19_1, hfz19_2, hfz19_3⟩ := z4 BK101) | ((with_reducible refine gate_callee (f := 26) rfl ?_); refine zL (some 5) Try.func26 #[.int .i64 a0_0, .int .i64 0, .int .i64 200] ?_; (with_reducible refine (monitor_in.calls a0_0 0 200 false _ A2.out).mono ?_); rintro e w' ⟨rfl, ⟨nd, rfl⟩⟩; refine ⟨_, rfl, ?_⟩))
  go_ret
  exact ⟨zf, zm HB⟩

/-! ### slices_Max_int_int: function 33 -/
def slices_Max_int_int.l0 : Nat → List Int → Int → Int → Option (Int)
  | 0, _, _, _ => none
  | k + 1, x0, x3, x4 => if x4 < (x0.length : Int) then (if 0 ≤ x4 then (slices_Max_int_int.l0 k x0 (mx x3 (rd x0 x4)) (wrap64 (x4 + 1))) else (none)) else (some x3)
def slices_Max_int_int.f (k : Nat) (l0 : List Int) : Option (Int) := if (l0.length : Int) < 1 then (none) else (if 0 < (l0.length : Int) then (slices_Max_int_int.l0 k l0 (rd l0 0) 1) else (none))
theorem slices_Max_int_int.mono_l : ∀ k, (∀ y0 y1 y2, LeO (slices_Max_int_int.l0 k y0 y1 y2) (slices_Max_int_int.l0 (k + 1) y0 y1 y2))
  | 0 => fun _ _ _ r h => by simp [slices_Max_int_int.l0] at h
  | k + 1 => by
    have ih0 := slices_Max_int_int.mono_l k
    · intro y0 y1 y2
      unfold slices_Max_int_int.l0
      repeat' first
      | (with_reducible exact ih0 _ _ _)
      | (with_reducible exact LeO.refl _)
      | (with_reducible exact LeO.none _)
      | (with_reducible refine LeO.ite ?_ ?_)
      | (with_reducible refine LeO.bind ?_ (fun _ => ?_))
      | exact ih0 _ _ _
      | exact LeO.none _
      | refine LeO.ite ?_ ?_
      | refine LeO.bind ?_ (fun _ => ?_)
theorem slices_Max_int_int.mono : ∀ a0 k, LeO (slices_Max_int_int.f k a0) (slices_Max_int_int.f (k + 1) a0) := by
  intro a0 k
  have ih0 := slices_Max_int_int.mono_l k
  unfold slices_Max_int_int.f
  repeat' first
      | (with_reducible exact ih0 _ _ _)
      | (with_reducible exact LeO.refl _)
      | (with_reducible exact LeO.none _)
      | (with_reducible refine LeO.ite ?_ ?_)
      | (with_reducible refine LeO.bind ?_ (fun _ => ?_))
      | exact ih0 _ _ _
      | exact LeO.none _
      | refine LeO.ite ?_ ?_
      | refine LeO.bind ?_ (fun _ => ?_)
set_option maxHeartbeats 8000000 in
set_option maxRecDepth 100000 in
theorem slices_Max_int_int.calls (k : Nat) (A0 : Option Addr) (c0 : Nat) (l0 : List Int) (r : Int) (w : World) (hr0 : Kd.C (Kd.int .i64) w A0 l0.length l0) (hc0 : l0.length ≤ c0) (h : slices_Max_int_int.f k l0 = some r) :
    Calls Try.prog 33 #[.slice A0 l0.length c0] w fun e w' => e = .returned (.int .i64 r) ∧ Below w.heap.size w w' := by
 have HR0 := za hr0
 have HC0 := za hc0
 clear hr0 hc0
 have HB := za (Below.refl w.heap.size w)
 have H : (if (l0.length : Int) < 1 then (none) else (if 0 < (l0.length : Int) then (slices_Max_int_int.l0 k l0 (rd l0 0) 1) else (none))) = some r := h
 clear h
 by_cases c2 : (l0.length : Int) < 1
 ·rw [if_pos c2] at H
  exact absurd H (by simp)
 ·rw [if_neg c2] at H
  have c2b0 : decide ((l0.length : Int) < 1) = false := decide_eq_false c2
  have c2b1 : decide (l0.length < 1) = false := decide_eq_false (by omega)
  clear c2
  by_cases c3 : 0 < (l0.length : Int)
  ·rw [if_pos c3] at H
   have c3b0 : decide (0 < (l0.length : Int)) = true := decide_eq_true c3
   have c3b1 : decide (0 < l0.length) = true := decide_eq_true (by omega)
   clear c3
   have H' := za H
   clear H
   have p106 : 0 ≤ (0 : Int) := (by omega)
   have q106 : 0 < (l0.length : Int) := of_decide_eq_true (by first | (with_reducible assumption) | assumption)
   obtain ⟨ad106, e106, hx106_0⟩ := Kd.at_int HR0.out 0 p106 q106
   cases e106
   have qi106 : (0 < l0.length) = True := eq_true (by omega)
   (try rw [show ((0 : Int)).toNat = 0 from rfl] at hx106_0)
   (try rw [Addr.add_zero'] at hx106_0)
   replace p106 := eq_true p106
   replace q106 := eq_true q106
   go_enter Try.func33, Try.ntmps33
   go_wp2
   go_loopg [3, 4] k (fun kq v3 v4 w' => ∃ (x3_1 : Int) (x4_1 : Int), v3 = .int .i64 x3_1 ∧ v4 = .int .i64 x4_1 ∧ Aside0 (slices_Max_int_int.l0 kq l0 x3_1 x4_1 = some r) ∧ Aside0 (kq ≤ k) ∧ Aside0 (Below w.heap.size w w'))
   case atStart => exact ⟨(rd l0 0), (1), (by first | rfl | (simp; done) | (simp [*]; done)), (by first | rfl | (simp; done) | (simp [*]; done)), H', ⟨Nat.le_refl _⟩, ⟨zm HB⟩⟩
   case round =>
    clear H'
    try clear p1
    try clear q1
    try clear hx1
    try clear qi1
    try clear c2
    try clear c2b0
    try clear c2b1
    try clear p2
    try clear c3
    try clear c3b0
    try clear c3b1
    try clear hx106_0
    try clear p106
    try clear q106
    obtain ⟨x3_1, x4_1, rfl, rfl, HA, HK1, HB⟩ := hrel
    cases gk with
    | zero => exact absurd HA.out (by simp [slices_Max_int_int.l0])
    | succ k1 =>
     have H := HA.out
     clear HA
     simp only [slices_Max_int_int.l0] at H
     by_cases c4 : x4_1 < (l0.length : Int)
     ·rw [if_pos c4] at H
      have c4b0 : decide (x4_1 < (l0.length : Int)) = true := decide_eq_true c4
      clear c4
      by_cases c5 : 0 ≤ x4_1
      ·rw [if_pos c5] at H
       have c5b0 : decide (0 ≤ x4_1) = true := decide_eq_true c5
       clear c5
       obtain ⟨ji6, hji6⟩ : ∃ j_ : Int, (mx x3_1 (rd l0 x4_1)) = j_ := ⟨_, rfl⟩
       replace H : (slices_Max_int_int.l0 k1 l0 ji6 (wrap64 (x4_1 + 1))) = some r := by first | (rw [hji6] at H; exact H) | (simp only [hji6] at H ⊢; exact H)
       have hji6_ : (if x3_1 < (rd l0 x4_1) then (rd l0 x4_1) else x3_1) = ji6 := hji6
       have H' := za H
       clear H
       have p107 : 0 ≤ (x4_1 : Int) := of_decide_eq_true (by first | (with_reducible assumption) | assumption)
       have q107 : x4_1 < (l0.length : Int) := of_decide_eq_true (by first | (with_reducible assumption) | assumption)
       obtain ⟨ad107, e107, hx107_0⟩ := Kd.at_int HR0.out x4_1 p107 q107
       obtain rfl : ad106 = ad107 := (by injection e107)
       replace hx107_0 := zx HB hx107_0
       replace p107 := eq_true p107
       replace q107 := eq_true q107
       go_wp2
       go_roundg k1
       case measure => have := HK1.out; omega
       case rel => exact ⟨(ji6), (wrap64 (x4_1 + 1)), (by first | rfl | (simp; done) | (simp only [← hji6] <;> (first | rfl | simp)) | (simp [*]; done)), (by first | rfl | (simp; done) | (simp [*]; done)), H', ⟨by have := HK1.out; omega⟩, ⟨zm HB⟩⟩
      ·rw [if_neg c5] at H
       exact absurd H (by simp)
     ·rw [if_neg c4] at H
      have c4b0 : decide (x4_1 < (l0.length : Int)) = false := decide_eq_false c4
      clear c4
      obtain rfl := Option.some.inj H
      go_wp2
      go_ret
      exact ⟨zf, zm HB⟩
  ·rw [if_neg c3] at H
   exact absurd H (by simp)

/-! ### monitor_wrong: function 27 -/
def monitor_wrong.f (k : Nat) (l0 : List Int) : Option (Bool) := if (l0.length : Int) > 24 then (some true) else ((some (([0] : List Int) : List Int)).bind fun y108 => (if y108.length + l0.length < 17592186044416 then ((slices_Max_int_int.f k (y108 ++ l0)).bind fun t114 => (some (decide (t114 > 200)))) else (none)))
theorem monitor_wrong.mono : ∀ a0 k, LeO (monitor_wrong.f k a0) (monitor_wrong.f (k + 1) a0) := by
  intro a0 k
  unfold monitor_wrong.f
  repeat' first
      | (with_reducible exact slices_Max_int_int.mono _ _)
      | (with_reducible exact LeO.refl _)
      | (with_reducible exact LeO.none _)
      | (with_reducible refine LeO.ite ?_ ?_)
      | (with_reducible refine LeO.bind ?_ (fun _ => ?_))
      | exact slices_Max_int_int.mono _ _
      | exact LeO.none _
      | refine LeO.ite ?_ ?_
      | refine LeO.bind ?_ (fun _ => ?_)
set_option maxHeartbeats 8000000 in
set_option maxRecDepth 100000 in
theorem monitor_wrong.calls (k : Nat) (A0 : Option Addr) (c0 : Nat) (l0 : List Int) (r : Bool) (w : World) (hr0 : Kd.C (Kd.int .i64) w A0 l0.length l0) (hc0 : l0.length ≤ c0) (h : monitor_wrong.f k l0 = some r) :
    Calls Try.prog 27 #[.slice A0 l0.length c0] w fun e w' => e = .returned (.bool r) ∧ Below w.heap.size w w' := by
 have HR0 := za hr0
 have HC0 := za hc0
 clear hr0 hc0
 have HB := za (Below.refl w.heap.size w)
 have H : (if (l0.length : Int) > 24 then (some true) else ((some (([0] : List Int) : List Int)).bind fun y108 => (if y108.length + l0.length < 17592186044416 then ((slices_Max_int_int.f k (y108 ++ l0)).bind fun t114 => (some (decide (t114 > 200)))) else (none)))) = some r := h
 clear h
 by_cases c2 : (l0.length : Int) > 24
 ·rw [if_pos c2] at H
  have c2b0 : decide (24 < (l0.length : Int)) = true := decide_eq_true c2
  have c2b1 : decide (24 < l0.length) = true := decide_eq_true (by omega)
  clear c2
  obtain rfl := Option.some.inj H
  go_enter Try.func27, Try.ntmps27
  go_wp2
  go_ret
  exact ⟨zf, zm HB⟩
 ·rw [if_neg c2] at H
  have c2b0 : decide (24 < (l0.length : Int)) = false := decide_eq_false c2
  have c2b1 : decide (24 < l0.length) = false := decide_eq_false (by omega)
  clear c2
  obtain ⟨y108, hy108⟩ : ∃ y_ : List Int, y_ = (([0] : List Int)) := ⟨_, rfl⟩
  replace H : (if y108.length + l0.length < 17592186044416 then ((slices_Max_int_int.f k (y108 ++ l0)).bind fun t114 => (some (decide (t114 > 200)))) else (none)) = some r := by first | (rw [hy108]; with_reducible exact H) | (have H2_ := (Option.bind_some _ _).symm.trans H; rw [hy108]; with_reducible exact H2_) | (have H2_ := (Option.bind_some _ _).symm.trans H; with_reducible exact H2_) | with_reducible exact H | (rw [hy108]; exact H) | exact H
  have Ny108 := za hy108
  clear hy108
  by_cases c3 : y108.length + l0.length < 17592186044416
  ·rw [if_pos c3] at H
   have LMc3 := za c3
   clear c3
   obtain ⟨y111, hy111⟩ : ∃ y_ : List Int, y_ = (y108 ++ l0) := ⟨_, rfl⟩
   replace H : ((slices_Max_int_int.f k y111).bind fun t114 => (some (decide (t114 > 200)))) = some r := by first | (rw [hy111]; with_reducible exact H) | (have H2_ := (Option.bind_some _ _).symm.trans H; rw [hy111]; with_reducible exact H2_) | (have H2_ := (Option.bind_some _ _).symm.trans H; with_reducible exact H2_) | with_reducible exact H | (rw [hy111]; exact H) | exact H
   have Ny111 := za hy111
   clear hy111
   replace H := Option.bind_eq_some_iff.mp H
   obtain ⟨t114, A40, H⟩ := H
   replace H : (some (decide (t114 > 200))) = some r := H
   have A4 := za A40
   clear A40
   obtain rfl := Option.some.inj H
   go_enter Try.func27, Try.ntmps27
   go_wp2_with (first | ((with_reducible refine gate_dst (N := 7) rfl ?_); (try (refine gate_guard (by rfl) ?_; dsimp only)); refine Kd.R_lit (Kd.int .i64) _ 3 ?hg (N := 7) ?hd (xs := ([0] : List Int)) (inner := [.int .i64 0]) (ok := fun _ => True) (okp := fun _ => True) ?hr ?hp (fun _ hk => hk) trivial (Below.refl _ _) (Nat.le_refl _) (by simp) ?_; (case hd => rfl); (case hg => rfl); (case hr => first | (go_simp; done) | (go_simp; rfl)); (case hp => exact (Reps.one (show Kd.M (Kd.int .i64) _ _ _ 0 [.int .i64 0] from rfl) (Reps.none _ _))); intro v109 w5 ho6 hb hg_ hnew_; clear hg_ hnew_; (first | rw [← Ny108.out] at ho6 | (simp only [Int.reduceToNat] at ho6; rw [← Ny108.out] at ho6)); have HO110 := za (Kd.R_lower ho6 (below_size (zm HB))); replace HB := zs HB hb; clear hb ho6) | ((with_reducible refine gate_builtin (b := .append) (xs := #[.tmp 7, .tmp 8]) rfl ?_); (try (refine gate_guard (by rfl) ?_; dsimp only)); at_builtin; refine Kd.R_append_rows (Kd.int .i64) (w0 := w) w.heap.size rfl (.tmp 7) (.tmp 8) 22 3 (.int .i64 0) 8 rfl Try.underlying22 info3 rfl (by decide) (by omega) v109 y108 l0 _ _ _ (fun _ => True) (fun _ => False) rfl rfl ?aO ?aR (fun _ _ h => h) (fun _ h => h.elim) ?aF ?aB ?aS ?aL ?_; (case aR => exact zC HR0 HB); (case aB => exact (zm HB)); (case aF => exact (fun _ _ => trivial)); (case aO => exact (by (with_reducible repeat (first | apply Kd.R_alloc | apply Kd.R_drewN | apply Kd.R_drew)); exact HO110.out)); (case aS => exact (below_size (zm HB))); (case aL => have := LMc3.out; omega); intro v112 w7 ho hb hg hat; rw [← Ny111.out] at ho; have HO113 := za (ho); replace HB := za (hb); clear HO110 ho hb hg hat; obtain ⟨Ao8, co8, eo8⟩ := Kd.R_slice HO113.out; subst eo8) | (go_at_call 33; (with_reducible refine (slices_Max_int_int.calls k _ _ y111 t114 _ ?side1 ?side2 A4.out).mono ?_); (case side1 => exact zD HO113); (case side2 => exact (Kd.R_reads' HO113.out).2.1); rintro e w9 ⟨rfl, hb⟩; replace HO113 := zR HO113 hb; replace HB := zs HB hb; (try clear hb); (try clear hb2); (try clear hk); (try clear hi)))
   go_ret
   exact ⟨zf, zm HB⟩
  ·rw [if_neg c3] at H
   exact absurd H (by simp)

/-! ### monitor_far: function 28 -/
def monitor_far.f (a0 : Int) (a1 : Int) : Option (Int) := some (mx (wrap64 (a0 - a1)) (wrap64 (a1 - a0)))
set_option maxHeartbeats 8000000 in
set_option maxRecDepth 100000 in
theorem monitor_far.calls (a0 : Int) (a1 : Int) (r : Int) (w : World) (h : monitor_far.f a0 a1 = some r) :
    Calls Try.prog 28 #[.int .i64 a0, .int .i64 a1] w fun e w' => e = .returned (.int .i64 r) ∧ Below w.heap.size w w' := by
 have HB := za (Below.refl w.heap.size w)
 have H : (some (mx (wrap64 (a0 - a1)) (wrap64 (a1 - a0)))) = some r := h
 clear h
 obtain ⟨ji3, hji3⟩ : ∃ j_ : Int, (mx (wrap64 (a0 - a1)) (wrap64 (a1 - a0))) = j_ := ⟨_, rfl⟩
 replace H : (some ji3) = some r := by first | (rw [hji3] at H; exact H) | (simp only [hji3] at H ⊢; exact H)
 have hji3_ : (if (wrap64 (a0 - a1)) < (wrap64 (a1 - a0)) then (wrap64 (a1 - a0)) else (wrap64 (a0 - a1))) = ji3 := hji3
 obtain rfl := Option.some.inj H
 go_enter Try.func28, Try.ntmps28
 go_wp2
 go_ret
 exact ⟨by first | rfl | (simp [errW_none, errW_some] <;> rfl) | (simp only [← hji3]; first | rfl | (simp [errW_none, errW_some] <;> rfl)) | (simp [*, errW_none, errW_some] <;> rfl), zm HB⟩

/-! ### monitor_Good: function 16 -/
mutual
def monitor_Good.j0 : Nat → List Int → List Int → Bool → Int → Int → Int → Int → Option (Bool)
  | 0, _, _, _, _, _, _, _ => none
  | k + 1, x1, x2, x29, x116000, x116001, x116002, x116003 => if x29 = true then (some false) else (monitor_Good.l0 k x1 x2 0 0 (x2.length : Int) 0 x116000 x116001 x116002 x116003)
def monitor_Good.l0 : Nat → List Int → List Int → Int → Int → Int → Int → Int → Int → Int → Int → Option (Bool)
  | 0, _, _, _, _, _, _, _, _, _, _ => none
  | k + 1, x1, x2, x7, x8, x31, x32, x116000, x116001, x116002, x116003 => if x32 < x31 then (if 0 ≤ x32 then (if x32 < (x1.length : Int) then (if x32 < (x2.length : Int) then ((monitor_far.f (mx (rd x1 x32) 0) (mx (rd x2 x32) 0)).bind fun t121 => (if t121 > x116000 then (some false) else (monitor_Good.l0 k x1 x2 (wrap64 (x7 + (mx (rd x1 x32) 0))) (wrap64 (x8 + (mx (rd x2 x32) 0))) x31 (wrap64 (x32 + 1)) x116000 x116001 x116002 x116003))) else (none)) else (none)) else (none)) else ((monitor_far.f x7 x8).bind fun t122 => (some (decide (t122 ≤ x116001))))
end
def monitor_Good.f (k : Nat) (a0_0 : Int) (a0_1 : Int) (a0_2 : Int) (a0_3 : Int) (l1 : List Int) (l2 : List Int) : Option (Bool) := (monitor_Check.f a0_0 a0_1 a0_2 a0_3).bind fun t116 => (if t116 = 0 then ((monitor_wrong.f k l1).bind fun t117 => (if t117 = true then (monitor_Good.j0 k l1 l2 true a0_0 a0_1 a0_2 a0_3) else ((monitor_wrong.f k l2).bind fun t118 => (if t118 = true then (monitor_Good.j0 k l1 l2 true a0_0 a0_1 a0_2 a0_3) else (monitor_Good.j0 k l1 l2 ((l1.length : Int) != (l2.length : Int)) a0_0 a0_1 a0_2 a0_3))))) else (monitor_Good.j0 k l1 l2 true a0_0 a0_1 a0_2 a0_3))
theorem monitor_Good.mono_l : ∀ k, (∀ y0 y1 y2 y3 y4 y5 y6, LeO (monitor_Good.j0 k y0 y1 y2 y3 y4 y5 y6) (monitor_Good.j0 (k + 1) y0 y1 y2 y3 y4 y5 y6)) ∧ (∀ y0 y1 y2 y3 y4 y5 y6 y7 y8 y9, LeO (monitor_Good.l0 k y0 y1 y2 y3 y4 y5 y6 y7 y8 y9) (monitor_Good.l0 (k + 1) y0 y1 y2 y3 y4 y5 y6 y7 y8 y9))
  | 0 => ⟨fun _ _ _ _ _ _ _ r h => by simp [monitor_Good.j0] at h, fun _ _ _ _ _ _ _ _ _ _ r h => by simp [monitor_Good.l0] at h⟩
  | k + 1 => by
    obtain ⟨ih0, ih1⟩ := monitor_Good.mono_l k
    refine ⟨?_, ?_⟩
    · intro y0 y1 y2 y3 y4 y5 y6
      unfold monitor_Good.j0
      repeat' first
      | (with_reducible exact ih0 _ _ _ _ _ _ _)
      | (with_reducible exact ih1 _ _ _ _ _ _ _ _ _ _)
      | (with_reducible exact monitor_wrong.mono _ _)
      | (with_reducible exact LeO.refl _)
      | (with_reducible exact LeO.none _)
      | (with_reducible refine LeO.ite ?_ ?_)
      | (with_reducible refine LeO.bind ?_ (fun _ => ?_))
      | exact ih0 _ _ _ _ _ _ _
      | exact ih1 _ _ _ _ _ _ _ _ _ _
      | exact monitor_wrong.mono _ _
      | exact LeO.none _
      | refine LeO.ite ?_ ?_
      | refine LeO.bind ?_ (fun _ => ?_)
    · intro y0 y1 y2 y3 y4 y5 y6 y7 y8 y9
      unfold monitor_Good.l0
      repeat' first
      | (with_reducible exact ih0 _ _ _ _ _ _ _)
      | (with_reducible exact ih1 _ _ _ _ _ _ _ _ _ _)
      | (with_reducible exact monitor_wrong.mono _ _)
      | (with_reducible exact LeO.refl _)
      | (with_reducible exact LeO.none _)
      | (with_reducible refine LeO.ite ?_ ?_)
      | (with_reducible refine LeO.bind ?_ (fun _ => ?_))
      | exact ih0 _ _ _ _ _ _ _
      | exact ih1 _ _ _ _ _ _ _ _ _ _
      | exact monitor_wrong.mono _ _
      | exact LeO.none _
      | refine LeO.ite ?_ ?_
      | refine LeO.bind ?_ (fun _ => ?_)
theorem monitor_Good.mono : ∀ a0 a1 a2 a3 a4 a5 k, LeO (monitor_Good.f k a0 a1 a2 a3 a4 a5) (monitor_Good.f (k + 1) a0 a1 a2 a3 a4 a5) := by
  intro a0 a1 a2 a3 a4 a5 k
  obtain ⟨ih0, ih1⟩ := monitor_Good.mono_l k
  unfold monitor_Good.f
  repeat' first
      | (with_reducible exact ih0 _ _ _ _ _ _ _)
      | (with_reducible exact ih1 _ _ _ _ _ _ _ _ _ _)
      | (with_reducible exact monitor_wrong.mono _ _)
      | (with_reducible exact LeO.refl _)
      | (with_reducible exact LeO.none _)
      | (with_reducible refine LeO.ite ?_ ?_)
      | (with_reducible refine LeO.bind ?_ (fun _ => ?_))
      | exact ih0 _ _ _ _ _ _ _
      | exact ih1 _ _ _ _ _ _ _ _ _ _
      | exact monitor_wrong.mono _ _
      | exact LeO.none _
      | refine LeO.ite ?_ ?_
      | refine LeO.bind ?_ (fun _ => ?_)
def monitor_Good.T7 : Bool × List (List Nat × List Nat) := (true, [([], []), ([], []), ([0, 1], [0, 1]), ([2], [2]), ([3], [3]), ([], []), ([], []), ([5, 6], [5, 6]), ([7], [7]), ([8], [8]), ([4, 0, 1, 2, 3, 4], [4]), ([9, 10, 0, 1, 2, 3, 4, 5, 6, 7, 8, 9, 10], [9])])
def monitor_Good.B7 : List Nat := [0, 0, 3, 7, 15, 0, 0, 96, 224, 480, 31, 2047]
theorem monitor_Good.tab7 : rtab .any (opsOf Try.f16 7) = monitor_Good.T7 := by kernel_rfl
theorem monitor_Good.bits7 : waitsOk monitor_Good.T7.2 monitor_Good.B7 = true := by kernel_rfl
set_option maxHeartbeats 8000000 in
set_option maxRecDepth 100000 in
theorem monitor_Good.calls (k : Nat) (a0_0 : Int) (a0_1 : Int) (a0_2 : Int) (a0_3 : Int) (A1 : Option Addr) (c1 : Nat) (l1 : List Int) (A2 : Option Addr) (c2 : Nat) (l2 : List Int) (r : Bool) (w : World) (hr1 : Kd.C (Kd.int .i64) w A1 l1.length l1) (hc1 : l1.length ≤ c1) (hr2 : Kd.C (Kd.int .i64) w A2 l2.length l2) (hc2 : l2.length ≤ c2) (h : monitor_Good.f k a0_0 a0_1 a0_2 a0_3 l1 l2 = some r) :
    Calls Try.prog 16 #[.agg #[.int .i64 a0_0, .int .i64 a0_1, .int .i64 a0_2, .int .i64 a0_3], .slice A1 l1.length c1, .slice A2 l2.length c2] w fun e w' => e = .returned (.bool r) ∧ Below w.heap.size w w' := by
 have hu24 := Try.underlying24
 have HR1 := za hr1
 have HC1 := za hc1
 clear hr1 hc1
 have HR2 := za hr2
 have HC2 := za hc2
 clear hr2 hc2
 have HB := za (Below.refl w.heap.size w)
 have H : ((monitor_Check.f a0_0 a0_1 a0_2 a0_3).bind fun t116 => (if t116 = 0 then ((monitor_wrong.f k l1).bind fun t117 => (if t117 = true then (monitor_Good.j0 k l1 l2 true a0_0 a0_1 a0_2 a0_3) else ((monitor_wrong.f k l2).bind fun t118 => (if t118 = true then (monitor_Good.j0 k l1 l2 true a0_0 a0_1 a0_2 a0_3) else (monitor_Good.j0 k l1 l2 ((l1.length : Int) != (l2.length : Int)) a0_0 a0_1 a0_2 a0_3))))) else (monitor_Good.j0 k l1 l2 true a0_0 a0_1 a0_2 a0_3))) = some r := h
 clear h
 have HC4 := za H
 clear H
 go_enter Try.func16, Try.ntmps16
 go_upto_region 1 with (first | ((with_reducible refine gate_dst (N := 3) rfl ?_); (try (refine gate_guard (by rfl) ?_; dsimp only)); refine zE 3 #[.int .i64 a0_0, .int .i64 a0_1, .int .i64 a0_2, .int .i64 a0_3] 24 ?_; intro gb115 hg w5 hbox hb; have BK115 := za (hbox); have GW115 := zg HB hg; have GE115 := zg HB hg; replace HB := zs HB hb; clear hb hbox hg))
 (try simp only [Act.put, List.setIfInBounds_toArray, List.set_cons_zero, List.set_cons_succ])
 go_cut [29] (fun v29 wc => ∃ (kq : Nat) (x29_3 : Bool), v29 = .bool x29_3 ∧ Aside0 (monitor_Good.j0 kq l1 l2 x29_3 a0_0 a0_1 a0_2 a0_3 = some r) ∧ Aside0 (kq ≤ k) ∧ Aside0 (wc.heap[gb115]? = some (.cells #[.int .i64 a0_0, .int .i64 a0_1, .int .i64 a0_2, .int .i64 a0_3] 24 (0, 0))) ∧ Aside0 (Below w.heap.size w wc))
 case first =>
  have H := HC4.out
  clear HC4
  replace H := Option.bind_eq_some_iff.mp H
  obtain ⟨t116, A60, H⟩ := H
  replace H : (if t116 = 0 then ((monitor_wrong.f k l1).bind fun t117 => (if t117 = true then (monitor_Good.j0 k l1 l2 true a0_0 a0_1 a0_2 a0_3) else ((monitor_wrong.f k l2).bind fun t118 => (if t118 = true then (monitor_Good.j0 k l1 l2 true a0_0 a0_1 a0_2 a0_3) else (monitor_Good.j0 k l1 l2 ((l1.length : Int) != (l2.length : Int)) a0_0 a0_1 a0_2 a0_3))))) else (monitor_Good.j0 k l1 l2 true a0_0 a0_1 a0_2 a0_3)) = some r := H
  have A6 := za A60
  clear A60
  by_cases c7 : t116 = 0
  ·rw [if_pos c7] at H
   have c7b0 : (t116 == 0) = true := beq_iff_eq.mpr c7
   have c7b1 : (t116 != 0) = false := bne_eq_false_iff_eq.mpr c7
   clear c7
   (first | rw [c7b0] | (simp only [i64_w, i32_w]; rw [c7b0]) | skip)
   replace H := Option.bind_eq_some_iff.mp H
   obtain ⟨t117, A80, H⟩ := H
   replace H : (if t117 = true then (monitor_Good.j0 k l1 l2 true a0_0 a0_1 a0_2 a0_3) else ((monitor_wrong.f k l2).bind fun t118 => (if t118 = true then (monitor_Good.j0 k l1 l2 true a0_0 a0_1 a0_2 a0_3) else (monitor_Good.j0 k l1 l2 ((l1.length : Int) != (l2.length : Int)) a0_0 a0_1 a0_2 a0_3)))) = some r := H
   have A8 := za A80
   clear A80
   by_cases c9 : t117 = true
   ·subst c9
    have H1 : (monitor_Good.j0 k l1 l2 true a0_0 a0_1 a0_2 a0_3) = some r := by rw [if_pos rfl] at H; exact H
    clear H
    have H := H1
    clear H1
    have H' := za H
    clear H
    obtain ⟨hcz10_0, hcz10_1, hcz10_2, hcz10_3, hfz10_0, hfz10_1, hfz10_2, hfz10_3⟩ := z4 BK115
    go_wp2_with (first | ((with_reducible refine gate_callee (f := 14) rfl ?_); refine zL (some 13) Try.func14 #[.agg #[.int .i64 a0_0, .int .i64 a0_1, .int .i64 a0_2, .int .i64 a0_3]] ?_; (with_reducible refine (monitor_Check.calls a0_0 a0_1 a0_2 a0_3 t116 _ A6.out).mono ?_); rintro e w11 ⟨rfl, hb⟩; refine ⟨_, rfl, ?_⟩; replace BK115 := zb BK115 hb; replace HB := zs HB hb; (try clear hb); (try clear hb2); (try clear hk); (try clear hi)) | (go_at_call 27; (with_reducible refine (monitor_wrong.calls k _ _ l1 true _ ?side1 ?side2 A8.out).mono ?_); (case side1 => exact zC HR1 HB); (case side2 => exact HC1.out); rintro e w12 ⟨rfl, hb⟩; replace BK115 := zb BK115 hb; replace HB := zs HB hb; (try clear hb); (try clear hb2); (try clear hk); (try clear hi)))
    go_meet
    case rel => exact ⟨_, (true), (by first | rfl | (simp; done) | (simp [*]; done)), H', ⟨by first | omega | exact Nat.le_refl _⟩, ⟨by (with_reducible repeat (first | refine blk_drewN ?_ _ | refine blk_drew ?_ | refine blk_alloc ?_ _)); exact BK115.out⟩, ⟨zm HB⟩⟩
   ·replace c9 := Bool.eq_false_iff.mpr c9
    subst c9
    have H1 : ((monitor_wrong.f k l2).bind fun t118 => (if t118 = true then (monitor_Good.j0 k l1 l2 true a0_0 a0_1 a0_2 a0_3) else (monitor_Good.j0 k l1 l2 ((l1.length : Int) != (l2.length : Int)) a0_0 a0_1 a0_2 a0_3))) = some r := by rw [if_neg (show ¬ (false = true) by decide)] at H; exact H
    clear H
    have H := H1
    clear H1
    replace H := Option.bind_eq_some_iff.mp H
    obtain ⟨t118, A130, H⟩ := H
    replace H : (if t118 = true then (monitor_Good.j0 k l1 l2 true a0_0 a0_1 a0_2 a0_3) else (monitor_Good.j0 k l1 l2 ((l1.length : Int) != (l2.length : Int)) a0_0 a0_1 a0_2 a0_3)) = some r := H
    have A13 := za A130
    clear A130
    by_cases c14 : t118 = true
    ·subst c14
     have H1 : (monitor_Good.j0 k l1 l2 true a0_0 a0_1 a0_2 a0_3) = some r := by rw [if_pos rfl] at H; exact H
     clear H
     have H := H1
     clear H1
     have H' := za H
     clear H
     obtain ⟨hcz15_0, hcz15_1, hcz15_2, hcz15_3, hfz15_0, hfz15_1, hfz15_2, hfz15_3⟩ := z4 BK115
     go_wp2_with (first | ((with_reducible refine gate_callee (f := 14) rfl ?_); refine zL (some 13) Try.func14 #[.agg #[.int .i64 a0_0, .int .i64 a0_1, .int .i64 a0_2, .int .i64 a0_3]] ?_; (with_reducible refine (monitor_Check.calls a0_0 a0_1 a0_2 a0_3 t116 _ A6.out).mono ?_); rintro e w16 ⟨rfl, hb⟩; refine ⟨_, rfl, ?_⟩; replace BK115 := zb BK115 hb; replace HB := zs HB hb; (try clear hb); (try clear hb2); (try clear hk); (try clear hi)) | (go_at_call 27; (with_reducible refine (monitor_wrong.calls k _ _ l1 false _ ?side1 ?side2 A8.out).mono ?_); (case side1 => exact zC HR1 HB); (case side2 => exact HC1.out); rintro e w17 ⟨rfl, hb⟩; replace BK115 := zb BK115 hb; replace HB := zs HB hb; (try clear hb); (try clear hb2); (try clear hk); (try clear hi)) | (go_at_call 27; (with_reducible refine (monitor_wrong.calls k _ _ l2 true _ ?side1 ?side2 A13.out).mono ?_); (case side1 => exact zC HR2 HB); (case side2 => exact HC2.out); rintro e w18 ⟨rfl, hb⟩; replace BK115 := zb BK115 hb; replace HB := zs HB hb; (try clear hb); (try clear hb2); (try clear hk); (try clear hi)))
     go_meet
     case rel => exact ⟨_, (true), (by first | rfl | (simp; done) | (simp [*]; done)), H', ⟨by first | omega | exact Nat.le_refl _⟩, ⟨by (with_reducible repeat (first | refine blk_drewN ?_ _ | refine blk_drew ?_ | refine blk_alloc ?_ _)); exact BK115.out⟩, ⟨zm HB⟩⟩
    ·replace c14 := Bool.eq_false_iff.mpr c14
     subst c14
     have H1 : (monitor_Good.j0 k l1 l2 ((l1.length : Int) != (l2.length : Int)) a0_0 a0_1 a0_2 a0_3) = some r := by rw [if_neg (show ¬ (false = true) by decide)] at H; exact H
     clear H
     have H := H1
     clear H1
     have H' := za H
     clear H
     obtain ⟨hcz19_0, hcz19_1, hcz19_2, hcz19_3, hfz19_0, hfz19_1, hfz19_2, hfz19_3⟩ := z4 BK115
     go_wp2_with (first | ((with_reducible refine gate_callee (f := 14) rfl ?_); refine zL (some 13) Try.func14 #[.agg #[.int .i64 a0_0, .int .i64 a0_1, .int .i64 a0_2, .int .i64 a0_3]] ?_; (with_reducible refine (monitor_Check.calls a0_0 a0_1 a0_2 a0_3 t116 _ A6.out).mono ?_); rintro e w20 ⟨rfl, hb⟩; refine ⟨_, rfl, ?_⟩; replace BK115 := zb BK115 hb; replace HB := zs HB hb; (try clear hb); (try clear hb2); (try clear hk); (try clear hi)) | (go_at_call 27; (with_reducible refine (monitor_wrong.calls k _ _ l1 false _ ?side1 ?side2 A8.out).mono ?_); (case side1 => exact zC HR1 HB); (case side2 => exact HC1.out); rintro e w21 ⟨rfl, hb⟩; replace BK115 := zb BK115 hb; replace HB := zs HB hb; (try clear hb); (try clear hb2); (try clear hk); (try clear hi)) | (go_at_call 27; (with_reducible refine (monitor_wrong.calls k _ _ l2 false _ ?side1 ?side2 A13.out).mono ?_); (case side1 => exact zC HR2 HB); (case side2 => exact HC2.out); rintro e w22 ⟨rfl, hb⟩; replace BK115 := zb BK115 hb; replace HB := zs HB hb; (try clear hb); (try clear hb2); (try clear hk); (try clear hi)))
     go_meet
     case rel => exact ⟨_, (((l1.length : Int) != (l2.length : Int))), (by first | rfl | (simp; done) | (simp [*]; done)), H', ⟨by first | omega | exact Nat.le_refl _⟩, ⟨by (with_reducible repeat (first | refine blk_drewN ?_ _ | refine blk_drew ?_ | refine blk_alloc ?_ _)); exact BK115.out⟩, ⟨zm HB⟩⟩
  ·rw [if_neg c7] at H
   have c7b0 : (t116 == 0) = false := beq_eq_false_iff_ne.mpr c7
   have c7b1 : (t116 != 0) = true := bne_iff_ne.mpr c7
   (first | rw [c7b0] | (simp only [i64_w, i32_w]; rw [c7b0]) | skip)
   have H' := za H
   clear H
   obtain ⟨hcz23_0, hcz23_1, hcz23_2, hcz23_3, hfz23_0, hfz23_1, hfz23_2, hfz23_3⟩ := z4 BK115
   go_wp2_with (first | ((with_reducible refine gate_callee (f := 14) rfl ?_); refine zL (some 13) Try.func14 #[.agg #[.int .i64 a0_0, .int .i64 a0_1, .int .i64 a0_2, .int .i64 a0_3]] ?_; (with_reducible refine (monitor_Check.calls a0_0 a0_1 a0_2 a0_3 t116 _ A6.out).mono ?_); rintro e w24 ⟨rfl, hb⟩; refine ⟨_, rfl, ?_⟩; replace BK115 := zb BK115 hb; replace HB := zs HB hb; (try clear hb); (try clear hb2); (try clear hk); (try clear hi)))
   go_meet
   case rel => exact ⟨_, (true), (by first | rfl | (simp; done) | (simp [*]; done)), H', ⟨by first | omega | exact Nat.le_refl _⟩, ⟨by (with_reducible repeat (first | refine blk_drewN ?_ _ | refine blk_drew ?_ | refine blk_alloc ?_ _)); exact BK115.out⟩, ⟨zm HB⟩⟩
 case rest =>
  clear HC4
  try clear c1
  try clear c2
  try clear p2
  try clear c7
  try clear c7b0
  try clear c7b1
  try clear c9
  try clear c14
  try clear c16
  try clear hcz10_0
  try clear hcz10_1
  try clear hcz10_2
  try clear hcz10_3
  try clear hcz15_0
  try clear hcz15_1
  try clear hcz15_2
  try clear hcz15_3
  try clear hcz19_0
  try clear hcz19_1
  try clear hcz19_2
  try clear hcz19_3
  try clear hcz23_0
  try clear hcz23_1
  try clear hcz23_2
  try clear hcz23_3
  try clear hfz10_0
  try clear hfz10_1
  try clear hfz10_2
  try clear hfz10_3
  try clear hfz15_0
  try clear hfz15_1
  try clear hfz15_2
  try clear hfz15_3
  try clear hfz19_0
  try clear hfz19_1
  try clear hfz19_2
  try clear hfz19_3
  try clear hfz23_0
  try clear hfz23_1
  try clear hfz23_2
  try clear hfz23_3
  obtain ⟨kq, x29_3, rfl, HA, HJ3, BK115, HB⟩ := hcut
  cases kq with
  | zero => exact absurd HA.out (by simp [monitor_Good.j0])
  | succ kj3 =>
   have H := HA.out
   clear HA
   simp only [monitor_Good.j0] at H
   by_cases c25 : x29_3 = true
   ·subst c25
    have H1 : (some false) = some r := by rw [if_pos rfl] at H; exact H
    clear H
    have H := H1
    clear H1
    obtain rfl := Option.some.inj H
    go_wp2
    go_ret
    exact ⟨zf, zm HB⟩
   ·replace c25 := Bool.eq_false_iff.mpr c25
    subst c25
    have H1 : (monitor_Good.l0 kj3 l1 l2 0 0 (l2.length : Int) 0 a0_0 a0_1 a0_2 a0_3) = some r := by rw [if_neg (show ¬ (false = true) by decide)] at H; exact H
    clear H
    have H := H1
    clear H1
    have H' := za H
    clear H
    go_wp2
    go_loopg [7, 8, 32] kj3 (fun kq v7 v8 v32 w' => ∃ (x7_2 : Int) (x8_2 : Int) (x32_2 : Int), v7 = .int .i64 x7_2 ∧ v8 = .int .i64 x8_2 ∧ v32 = .int .i64 x32_2 ∧ Aside0 (monitor_Good.l0 kq l1 l2 x7_2 x8_2 (l2.length : Int) x32_2 a0_0 a0_1 a0_2 a0_3 = some r) ∧ Aside0 (kq ≤ kj3) ∧ Aside0 (w'.heap[gb115]? = some (.cells #[.int .i64 a0_0, .int .i64 a0_1, .int .i64 a0_2, .int .i64 a0_3] 24 (0, 0))) ∧ Aside0 (Below w.heap.size w w'))
    case atStart => exact ⟨(0), (0), (0), (by first | rfl | (simp; done) | (simp [*]; done)), (by first | rfl | (simp; done) | (simp [*]; done)), (by first | rfl | (simp; done) | (simp [*]; done)), H', ⟨Nat.le_refl _⟩, ⟨by (with_reducible repeat (first | refine blk_drewN ?_ _ | refine blk_drew ?_ | refine blk_alloc ?_ _)); exact BK115.out⟩, ⟨zm HB⟩⟩
    case round =>
     clear H'
     try clear c1
     try clear c2
     try clear p2
     try clear c7
     try clear c7b0
     try clear c7b1
     try clear c9
     try clear c14
     try clear c16
     try clear c25
     try clear hcz10_0
     try clear hcz10_1
     try clear hcz10_2
     try clear hcz10_3
     try clear hcz15_0
     try clear hcz15_1
     try clear hcz15_2
     try clear hcz15_3
     try clear hcz19_0
     try clear hcz19_1
     try clear hcz19_2
     try clear hcz19_3
     try clear hcz23_0
     try clear hcz23_1
     try clear hcz23_2
     try clear hcz23_3
     try clear hfz10_0
     try clear hfz10_1
     try clear hfz10_2
     try clear hfz10_3
     try clear hfz15_0
     try clear hfz15_1
     try clear hfz15_2
     try clear hfz15_3
     try clear hfz19_0
     try clear hfz19_1
     try clear hfz19_2
     try clear hfz19_3
     try clear hfz23_0
     try clear hfz23_1
     try clear hfz23_2
     try clear hfz23_3
     try clear p2
     obtain ⟨x7_2, x8_2, x32_2, rfl, rfl, rfl, HA, HK2, BK115, HB⟩ := hrel
     cases gk with
     | zero => exact absurd HA.out (by simp [monitor_Good.l0])
     | succ k2 =>
      have H := HA.out
      clear HA
      simp only [monitor_Good.l0] at H
      by_cases c26 : x32_2 < (l2.length : Int)
      ·rw [if_pos c26] at H
       have c26b0 : decide (x32_2 < (l2.length : Int)) = true := decide_eq_true c26
       clear c26
       by_cases c27 : 0 ≤ x32_2
       ·rw [if_pos c27] at H
        have c27b0 : decide (0 ≤ x32_2) = true := decide_eq_true c27
        clear c27
        by_cases c28 : x32_2 < (l1.length : Int)
        ·rw [if_pos c28] at H
         have c28b0 : decide (x32_2 < (l1.length : Int)) = true := decide_eq_true c28
         clear c28
         obtain ⟨ji29, hji29⟩ : ∃ j_ : Int, (mx (rd l1 x32_2) 0) = j_ := ⟨_, rfl⟩
         replace H : (if x32_2 < (l2.length : Int) then ((monitor_far.f (ji29) (mx (rd l2 x32_2) 0)).bind fun t121 => (if t121 > a0_0 then (some false) else (monitor_Good.l0 k2 l1 l2 (wrap64 (x7_2 + (ji29))) (wrap64 (x8_2 + (mx (rd l2 x32_2) 0))) (l2.length : Int) (wrap64 (x32_2 + 1)) a0_0 a0_1 a0_2 a0_3))) else (none)) = some r := by first | (rw [hji29] at H; exact H) | (simp only [hji29] at H ⊢; exact H)
         have hji29_ : (if (rd l1 x32_2) < 0 then 0 else (rd l1 x32_2)) = ji29 := hji29
         by_cases c30 : x32_2 < (l2.length : Int)
         ·rw [if_pos c30] at H
          have c30b0 : decide (x32_2 < (l2.length : Int)) = true := decide_eq_true c30
          clear c30
          obtain ⟨ji31, hji31⟩ : ∃ j_ : Int, (mx (rd l2 x32_2) 0) = j_ := ⟨_, rfl⟩
          replace H : ((monitor_far.f (ji29) (ji31)).bind fun t121 => (if t121 > a0_0 then (some false) else (monitor_Good.l0 k2 l1 l2 (wrap64 (x7_2 + (ji29))) (wrap64 (x8_2 + (ji31))) (l2.length : Int) (wrap64 (x32_2 + 1)) a0_0 a0_1 a0_2 a0_3))) = some r := by first | (rw [hji31] at H; exact H) | (simp only [hji31] at H ⊢; exact H)
          have hji31_ : (if (rd l2 x32_2) < 0 then 0 else (rd l2 x32_2)) = ji31 := hji31
          replace H := Option.bind_eq_some_iff.mp H
          obtain ⟨t121, A320, H⟩ := H
          replace H : (if t121 > a0_0 then (some false) else (monitor_Good.l0 k2 l1 l2 (wrap64 (x7_2 + (ji29))) (wrap64 (x8_2 + (ji31))) (l2.length : Int) (wrap64 (x32_2 + 1)) a0_0 a0_1 a0_2 a0_3)) = some r := H
          have A32 := za A320
          clear A320
          by_cases c33 : t121 > a0_0
          ·rw [if_pos c33] at H
           have c33b0 : decide (a0_0 < t121) = true := decide_eq_true c33
           clear c33
           obtain rfl := Option.some.inj H
           try go_wp2
           replace BK115 := za (blk_drew BK115.out)
           replace HB := za (below_drew1 HB.out)
           have p119 : 0 ≤ (x32_2 : Int) := of_decide_eq_true (by first | (with_reducible assumption) | assumption)
           have q119 : x32_2 < (l1.length : Int) := of_decide_eq_true (by first | (with_reducible assumption) | assumption)
           obtain ⟨ad119, e119, hx119_0⟩ := Kd.at_int HR1.out x32_2 p119 q119
           have hw119_0 := hx119_0
           cases e119
           replace hx119_0 := zx HB hx119_0
           replace p119 := eq_true p119
           replace q119 := eq_true q119
           have p120 : 0 ≤ (x32_2 : Int) := of_decide_eq_true (by first | (with_reducible assumption) | assumption)
           have q120 : x32_2 < (l2.length : Int) := of_decide_eq_true (by first | (with_reducible assumption) | assumption)
           obtain ⟨ad120, e120, hx120_0⟩ := Kd.at_int HR2.out x32_2 p120 q120
           have hw120_0 := hx120_0
           cases e120
           replace hx120_0 := zx HB hx120_0
           replace p120 := eq_true p120
           replace q120 := eq_true q120
           refine start_ (n := 12) (S := fun w' => w'.cell? (ad119.add (x32_2).toNat) = some (.int .i64 (rd l1 x32_2)) ∧ w'.cell? (ad120.add (x32_2).toNat) = some (.int .i64 (rd l2 x32_2))) (ds := []) #[false, false, false, false, false, false, false, false, false, false, false, false] (by kernel_rfl) rfl rfl ⟨(zx HB hw119_0), (zx HB hw120_0)⟩ (fun hHeld => ?_); refine with_tabW monitor_Good.tab7 monitor_Good.bits7 (fun HT_ HW_ => ?_)
           generalize wr.drew = w34 at BK115 HB hx119_0 hx120_0 hHeld ⊢
           refine pure_ (i := 0) (N := some 35) (v := ?_) (a' := ?_) #[true, false, false, false, false, false, false, false, false, false, false, false] rfl rfl (any_of HT_.out (by kernel_rfl)) (fun _ _ _ h => h) (Or.inl ⟨by rfl, ?_⟩) ?_ ?_
           rotate_left
           ·intro w'
            go_simp
            with_reducible rfl
           rotate_left
           ·simp only [Act.put, List.setIfInBounds_toArray, List.set_cons_zero, List.set_cons_succ, i64_w, i32_w]
            rfl
           refine pure_ (i := 1) (N := some 36) (v := ?_) (a' := ?_) #[true, true, false, false, false, false, false, false, false, false, false, false] rfl rfl (any_of HT_.out (by kernel_rfl)) (fun _ _ _ h => h) (Or.inl ⟨by rfl, ?_⟩) ?_ ?_
           rotate_left
           ·intro w'
            go_simp
            with_reducible rfl
           rotate_left
           ·simp only [Act.put, List.setIfInBounds_toArray, List.set_cons_zero, List.set_cons_succ, i64_w, i32_w]
            rfl
           refine pure_ (i := 2) (N := some 37) (v := ?_) (a' := ?_) #[true, true, true, false, false, false, false, false, false, false, false, false] rfl rfl (any_of HT_.out (by kernel_rfl)) (fun _ _ _ h => h) (Or.inl ⟨by rfl, ?_⟩) ?_ ?_
           rotate_left
           ·intro w'
            go_simp
            with_reducible rfl
           rotate_left
           ·simp only [Act.put, List.setIfInBounds_toArray, List.set_cons_zero, List.set_cons_succ, i64_w, i32_w]
            rfl
           refine pure_ (i := 5) (N := some 40) (v := ?_) (a' := ?_) #[true, true, true, false, false, true, false, false, false, false, false, false] rfl rfl (any_of HT_.out (by kernel_rfl)) (fun _ _ _ h => h) (Or.inl ⟨by rfl, ?_⟩) ?_ ?_
           rotate_left
           ·intro w'
            go_simp
            with_reducible rfl
           rotate_left
           ·simp only [Act.put, List.setIfInBounds_toArray, List.set_cons_zero, List.set_cons_succ, i64_w, i32_w]
            rfl
           refine pure_ (i := 6) (N := some 41) (v := ?_) (a' := ?_) #[true, true, true, false, false, true, true, false, false, false, false, false] rfl rfl (any_of HT_.out (by kernel_rfl)) (fun _ _ _ h => h) (Or.inl ⟨by rfl, ?_⟩) ?_ ?_
           rotate_left
           ·intro w'
            go_simp
            with_reducible rfl
           rotate_left
           ·simp only [Act.put, List.setIfInBounds_toArray, List.set_cons_zero, List.set_cons_succ, i64_w, i32_w]
            rfl
           refine pure_ (i := 7) (N := some 42) (v := ?_) (a' := ?_) #[true, true, true, false, false, true, true, true, false, false, false, false] rfl rfl (any_of HT_.out (by kernel_rfl)) (fun _ _ _ h => h) (Or.inl ⟨by rfl, ?_⟩) ?_ ?_
           rotate_left
           ·intro w'
            go_simp
            with_reducible rfl
           rotate_left
           ·simp only [Act.put, List.setIfInBounds_toArray, List.set_cons_zero, List.set_cons_succ, i64_w, i32_w]
            rfl
           refine take_ (i := 3) (N := some 38) (v := ?_) (a' := ?_) #[true, true, true, true, false, true, true, true, false, false, false, false] rfl rfl (take_ofW HT_.out HW_.out (by kernel_rfl)) (fun _ _ _ h => h) (Or.inl ⟨by rfl, ?_⟩) hHeld ?_ ?_
           rotate_left
           ·rintro w' ⟨s0, s1⟩
            go_simp
            with_reducible rfl
           rotate_left
           ·simp only [Act.put, List.setIfInBounds_toArray, List.set_cons_zero, List.set_cons_succ, i64_w, i32_w]
            rfl
           refine pure_ (i := 4) (N := some 39) (v := ?_) (a' := ?_) #[true, true, true, true, true, true, true, true, false, false, false, false] rfl rfl (any_of HT_.out (by kernel_rfl)) (fun _ _ _ h => h) (Or.inl ⟨by rfl, ?_⟩) ?_ ?_
           rotate_left
           ·intro w'
            go_simp
            with_reducible rfl
           rotate_left
           ·simp only [Act.put, List.setIfInBounds_toArray, List.set_cons_zero, List.set_cons_succ, i64_w, i32_w]
            rfl
           refine pure_ (i := 10) (N := some 10) (v := ?_) (a' := ?_) #[true, true, true, true, true, true, true, true, false, false, true, false] rfl rfl (any_of HT_.out (by kernel_rfl)) (fun _ _ _ h => h) (Or.inl ⟨by rfl, ?_⟩) ?_ ?_
           rotate_left
           ·intro w'
            go_simp
            with_reducible rfl
           rotate_left
           ·simp only [Act.put, List.setIfInBounds_toArray, List.set_cons_zero, List.set_cons_succ, i64_w, i32_w]
            rfl
           refine take_ (i := 8) (N := some 43) (v := ?_) (a' := ?_) #[true, true, true, true, true, true, true, true, true, false, true, false] rfl rfl (take_ofW HT_.out HW_.out (by kernel_rfl)) (fun _ _ _ h => h) (Or.inl ⟨by rfl, ?_⟩) hHeld ?_ ?_
           rotate_left
           ·rintro w' ⟨s0, s1⟩
            go_simp
            with_reducible rfl
           rotate_left
           ·simp only [Act.put, List.setIfInBounds_toArray, List.set_cons_zero, List.set_cons_succ, i64_w, i32_w]
            rfl
           refine pure_ (i := 9) (N := some 44) (v := ?_) (a' := ?_) #[true, true, true, true, true, true, true, true, true, true, true, false] rfl rfl (any_of HT_.out (by kernel_rfl)) (fun _ _ _ h => h) (Or.inl ⟨by rfl, ?_⟩) ?_ ?_
           rotate_left
           ·intro w'
            go_simp
            with_reducible rfl
           rotate_left
           ·simp only [Act.put, List.setIfInBounds_toArray, List.set_cons_zero, List.set_cons_succ, i64_w, i32_w]
            rfl
           refine pure_ (i := 11) (N := some 11) (v := ?_) (a' := ?_) #[true, true, true, true, true, true, true, true, true, true, true, true] rfl rfl (any_of HT_.out (by kernel_rfl)) (fun _ _ _ h => h) (Or.inl ⟨by rfl, ?_⟩) ?_ ?_
           rotate_left
           ·intro w'
            go_simp
            with_reducible rfl
           rotate_left
           ·simp only [Act.put, List.setIfInBounds_toArray, List.set_cons_zero, List.set_cons_succ, i64_w, i32_w]
            rfl
           refine done_ (done_of HT_.out (by kernel_rfl)) ?_
           try go_wp2
           replace BK115 := za (blk_drew BK115.out)
           replace HB := za (below_drew1 HB.out)
           refine start_ (n := 6) (S := fun w' => w'.cell? ⟨gb115, 0, none⟩ = some (.int .i64 a0_0) ∧ w'.cell? ⟨gb115, 1, none⟩ = some (.int .i64 a0_1) ∧ w'.cell? ⟨gb115, 2, none⟩ = some (.int .i64 a0_2) ∧ w'.cell? ⟨gb115, 3, none⟩ = some (.int .i64 a0_3)) (ds := []) #[false, false, false, false, false, false] (by kernel_rfl) rfl rfl ⟨(blk_cell BK115.out 0).trans rfl, (blk_cell BK115.out 1).trans rfl, (blk_cell BK115.out 2).trans rfl, (blk_cell BK115.out 3).trans rfl⟩ (fun hHeld => ?_)
           generalize w34.drew = w35 at BK115 HB hHeld ⊢
           refine pure_ (i := 0) (N := some 45) (v := ?_) (a' := ?_) #[true, false, false, false, false, false] rfl rfl (by kernel_rfl) (fun _ _ _ h => h) (Or.inl ⟨by rfl, ?_⟩) ?_ ?_
           rotate_left
           ·intro w'
            go_simp
            with_reducible rfl
           rotate_left
           ·simp only [Act.put, List.setIfInBounds_toArray, List.set_cons_zero, List.set_cons_succ, i64_w, i32_w]
            rfl
           refine pure_ (i := 1) (N := some 46) (v := ?_) (a' := ?_) #[true, true, false, false, false, false] rfl rfl (by kernel_rfl) (fun _ _ _ h => h) (Or.inl ⟨by rfl, ?_⟩) ?_ ?_
           rotate_left
           ·intro w'
            go_simp
            with_reducible rfl
           rotate_left
           ·simp only [Act.put, List.setIfInBounds_toArray, List.set_cons_zero, List.set_cons_succ, i64_w, i32_w]
            rfl
           refine pure_ (i := 3) (N := some 48) (v := ?_) (a' := ?_) #[true, true, false, true, false, false] rfl rfl (by kernel_rfl) (fun _ _ _ h => h) (Or.inl ⟨by rfl, ?_⟩) ?_ ?_
           rotate_left
           ·intro w'
            go_simp
            with_reducible rfl
           rotate_left
           ·simp only [Act.put, List.setIfInBounds_toArray, List.set_cons_zero, List.set_cons_succ, i64_w, i32_w]
            rfl
           refine take_ (i := 4) (N := some 49) (v := ?_) (a' := ?_) #[true, true, false, true, true, false] rfl rfl (by kernel_rfl) (fun _ _ _ h => h) (Or.inl ⟨by rfl, ?_⟩) hHeld ?_ ?_
           rotate_left
           ·rintro w' ⟨s0, s1, s2, s3⟩
            go_simp
            with_reducible rfl
           rotate_left
           ·simp only [Act.put, List.setIfInBounds_toArray, List.set_cons_zero, List.set_cons_succ, i64_w, i32_w]
            rfl
           refine one_ (i := 2) (N := some 47) #[true, true, true, true, true, false] rfl rfl (by kernel_rfl) (by decide) (fun K hK => ?_)
           refine goes_ Try.func28 (by kernel_rfl) rfl #[.int .i64 ji29, .int .i64 ji31] (by rfl) rfl rfl (by (try simp only [List.map_toArray, List.map_cons, List.map_nil]); first | done | (simp only [hji29, hji31]; rfl) | rfl | (simp only [List.length_drop, List.length_take]; rfl)) ?_
           with_reducible refine (monitor_far.calls ji29 ji31 t121 _ A32.out).mono ?_
           rintro e w36 ⟨rfl, hb⟩
           refine ⟨_, rfl, ?_⟩
           replace BK115 := zb BK115 hb
           replace HB := zs HB hb
           (try clear hb)
           (try clear hb2)
           (try clear hk)
           (try clear hi)
           refine hK.out _ _ ⟨(blk_cell BK115.out 0).trans rfl, (blk_cell BK115.out 1).trans rfl, (blk_cell BK115.out 2).trans rfl, (blk_cell BK115.out 3).trans rfl⟩ (fun hHeld => ?_)
           clear hK K
           refine norm_ (a' := ?_) ?_ ?_
           rotate_left
           ·show Act.put _ (some 47) _ = _
            simp only [Act.put, List.setIfInBounds_toArray, List.set_cons_zero, List.set_cons_succ, i64_w, i32_w]
            rfl
           refine pure_ (i := 5) (N := some 50) (v := ?_) (a' := ?_) #[true, true, true, true, true, true] rfl rfl (by kernel_rfl) (fun _ _ _ h => h) (Or.inl ⟨by rfl, ?_⟩) ?_ ?_
           rotate_left
           ·intro w'
            go_simp
            with_reducible rfl
           rotate_left
           ·simp only [Act.put, List.setIfInBounds_toArray, List.set_cons_zero, List.set_cons_succ, i64_w, i32_w]
            rfl
           refine done_ (by kernel_rfl) ?_
           try go_wp2
           go_ret
           exact ⟨by first | rfl | (simp [errW_none, errW_some] <;> rfl) | (simp only [← hji29, ← hji31]; first | rfl | (simp [errW_none, errW_some] <;> rfl)) | (simp [*, errW_none, errW_some] <;> rfl), zm HB⟩
          ·rw [if_neg c33] at H
           have c33b0 : decide (a0_0 < t121) = false := decide_eq_false c33
           clear c33
           have H' := za H
           clear H
           try go_wp2
           replace BK115 := za (blk_drew BK115.out)
           replace HB := za (below_drew1 HB.out)
           have p119 : 0 ≤ (x32_2 : Int) := of_decide_eq_true (by first | (with_reducible assumption) | assumption)
           have q119 : x32_2 < (l1.length : Int) := of_decide_eq_true (by first | (with_reducible assumption) | assumption)
           obtain ⟨ad119, e119, hx119_0⟩ := Kd.at_int HR1.out x32_2 p119 q119
           have hw119_0 := hx119_0
           cases e119
           replace hx119_0 := zx HB hx119_0
           replace p119 := eq_true p119
           replace q119 := eq_true q119
           have p120 : 0 ≤ (x32_2 : Int) := of_decide_eq_true (by first | (with_reducible assumption) | assumption)
           have q120 : x32_2 < (l2.length : Int) := of_decide_eq_true (by first | (with_reducible assumption) | assumption)
           obtain ⟨ad120, e120, hx120_0⟩ := Kd.at_int HR2.out x32_2 p120 q120
           have hw120_0 := hx120_0
           cases e120
           replace hx120_0 := zx HB hx120_0
           replace p120 := eq_true p120
           replace q120 := eq_true q120
           refine start_ (n := 12) (S := fun w' => w'.cell? (ad119.add (x32_2).toNat) = some (.int .i64 (rd l1 x32_2)) ∧ w'.cell? (ad120.add (x32_2).toNat) = some (.int .i64 (rd l2 x32_2))) (ds := []) #[false, false, false, false, false, false, false, false, false, false, false, false] (by kernel_rfl) rfl rfl ⟨(zx HB hw119_0), (zx HB hw120_0)⟩ (fun hHeld => ?_); refine with_tabW monitor_Good.tab7 monitor_Good.bits7 (fun HT_ HW_ => ?_)
           generalize wr.drew = w37 at BK115 HB hx119_0 hx120_0 hHeld ⊢
           refine pure_ (i := 0) (N := some 35) (v := ?_) (a' := ?_) #[true, false, false, false, false, false, false, false, false, false, false, false] rfl rfl (any_of HT_.out (by kernel_rfl)) (fun _ _ _ h => h) (Or.inl ⟨by rfl, ?_⟩) ?_ ?_
           rotate_left
           ·intro w'
            go_simp
            with_reducible rfl
           rotate_left
           ·simp only [Act.put, List.setIfInBounds_toArray, List.set_cons_zero, List.set_cons_succ, i64_w, i32_w]
            rfl
           refine pure_ (i := 1) (N := some 36) (v := ?_) (a' := ?_) #[true, true, false, false, false, false, false, false, false, false, false, false] rfl rfl (any_of HT_.out (by kernel_rfl)) (fun _ _ _ h => h) (Or.inl ⟨by rfl, ?_⟩) ?_ ?_
           rotate_left
           ·intro w'
            go_simp
            with_reducible rfl
           rotate_left
           ·simp only [Act.put, List.setIfInBounds_toArray, List.set_cons_zero, List.set_cons_succ, i64_w, i32_w]
            rfl
           refine pure_ (i := 2) (N := some 37) (v := ?_) (a' := ?_) #[true, true, true, false, false, false, false, false, false, false, false, false] rfl rfl (any_of HT_.out (by kernel_rfl)) (fun _ _ _ h => h) (Or.inl ⟨by rfl, ?_⟩) ?_ ?_
           rotate_left
           ·intro w'
            go_simp
            with_reducible rfl
           rotate_left
           ·simp only [Act.put, List.setIfInBounds_toArray, List.set_cons_zero, List.set_cons_succ, i64_w, i32_w]
            rfl
           refine pure_ (i := 5) (N := some 40) (v := ?_) (a' := ?_) #[true, true, true, false, false, true, false, false, false, false, false, false] rfl rfl (any_of HT_.out (by kernel_rfl)) (fun _ _ _ h => h) (Or.inl ⟨by rfl, ?_⟩) ?_ ?_
           rotate_left
           ·intro w'
            go_simp
            with_reducible rfl
           rotate_left
           ·simp only [Act.put, List.setIfInBounds_toArray, List.set_cons_zero, List.set_cons_succ, i64_w, i32_w]
            rfl
           refine pure_ (i := 6) (N := some 41) (v := ?_) (a' := ?_) #[true, true, true, false, false, true, true, false, false, false, false, false] rfl rfl (any_of HT_.out (by kernel_rfl)) (fun _ _ _ h => h) (Or.inl ⟨by rfl, ?_⟩) ?_ ?_
           rotate_left
           ·intro w'
            go_simp
            with_reducible rfl
           rotate_left
           ·simp only [Act.put, List.setIfInBounds_toArray, List.set_cons_zero, List.set_cons_succ, i64_w, i32_w]
            rfl
           refine pure_ (i := 7) (N := some 42) (v := ?_) (a' := ?_) #[true, true, true, false, false, true, true, true, false, false, false, false] rfl rfl (any_of HT_.out (by kernel_rfl)) (fun _ _ _ h => h) (Or.inl ⟨by rfl, ?_⟩) ?_ ?_
           rotate_left
           ·intro w'
            go_simp
            with_reducible rfl
           rotate_left
           ·simp only [Act.put, List.setIfInBounds_toArray, List.set_cons_zero, List.set_cons_succ, i64_w, i32_w]
            rfl
           refine take_ (i := 3) (N := some 38) (v := ?_) (a' := ?_) #[true, true, true, true, false, true, true, true, false, false, false, false] rfl rfl (take_ofW HT_.out HW_.out (by kernel_rfl)) (fun _ _ _ h => h) (Or.inl ⟨by rfl, ?_⟩) hHeld ?_ ?_
           rotate_left
           ·rintro w' ⟨s0, s1⟩
            go_simp
            with_reducible rfl
           rotate_left
           ·simp only [Act.put, List.setIfInBounds_toArray, List.set_cons_zero, List.set_cons_succ, i64_w, i32_w]
            rfl
           refine pure_ (i := 4) (N := some 39) (v := ?_) (a' := ?_) #[true, true, true, true, true, true, true, true, false, false, false, false] rfl rfl (any_of HT_.out (by kernel_rfl)) (fun _ _ _ h => h) (Or.inl ⟨by rfl, ?_⟩) ?_ ?_
           rotate_left
           ·intro w'
            go_simp
            with_reducible rfl
           rotate_left
           ·simp only [Act.put, List.setIfInBounds_toArray, List.set_cons_zero, List.set_cons_succ, i64_w, i32_w]
            rfl
           refine pure_ (i := 10) (N := some 10) (v := ?_) (a' := ?_) #[true, true, true, true, true, true, true, true, false, false, true, false] rfl rfl (any_of HT_.out (by kernel_rfl)) (fun _ _ _ h => h) (Or.inl ⟨by rfl, ?_⟩) ?_ ?_
           rotate_left
           ·intro w'
            go_simp
            with_reducible rfl
           rotate_left
           ·simp only [Act.put, List.setIfInBounds_toArray, List.set_cons_zero, List.set_cons_succ, i64_w, i32_w]
            rfl
           refine take_ (i := 8) (N := some 43) (v := ?_) (a' := ?_) #[true, true, true, true, true, true, true, true, true, false, true, false] rfl rfl (take_ofW HT_.out HW_.out (by kernel_rfl)) (fun _ _ _ h => h) (Or.inl ⟨by rfl, ?_⟩) hHeld ?_ ?_
           rotate_left
           ·rintro w' ⟨s0, s1⟩
            go_simp
            with_reducible rfl
           rotate_left
           ·simp only [Act.put, List.setIfInBounds_toArray, List.set_cons_zero, List.set_cons_succ, i64_w, i32_w]
            rfl
           refine pure_ (i := 9) (N := some 44) (v := ?_) (a' := ?_) #[true, true, true, true, true, true, true, true, true, true, true, false] rfl rfl (any_of HT_.out (by kernel_rfl)) (fun _ _ _ h => h) (Or.inl ⟨by rfl, ?_⟩) ?_ ?_
           rotate_left
           ·intro w'
            go_simp
            with_reducible rfl
           rotate_left
           ·simp only [Act.put, List.setIfInBounds_toArray, List.set_cons_zero, List.set_cons_succ, i64_w, i32_w]
            rfl
           refine pure_ (i := 11) (N := some 11) (v := ?_) (a' := ?_) #[true, true, true, true, true, true, true, true, true, true, true, true] rfl rfl (any_of HT_.out (by kernel_rfl)) (fun _ _ _ h => h) (Or.inl ⟨by rfl, ?_⟩) ?_ ?_
           rotate_left
           ·intro w'
            go_simp
            with_reducible rfl
           rotate_left
           ·simp only [Act.put, List.setIfInBounds_toArray, List.set_cons_zero, List.set_cons_succ, i64_w, i32_w]
            rfl
           refine done_ (done_of HT_.out (by kernel_rfl)) ?_
           try go_wp2
           replace BK115 := za (blk_drew BK115.out)
           replace HB := za (below_drew1 HB.out)
           refine start_ (n := 6) (S := fun w' => w'.cell? ⟨gb115, 0, none⟩ = some (.int .i64 a0_0) ∧ w'.cell? ⟨gb115, 1, none⟩ = some (.int .i64 a0_1) ∧ w'.cell? ⟨gb115, 2, none⟩ = some (.int .i64 a0_2) ∧ w'.cell? ⟨gb115, 3, none⟩ = some (.int .i64 a0_3)) (ds := []) #[false, false, false, false, false, false] (by kernel_rfl) rfl rfl ⟨(blk_cell BK115.out 0).trans rfl, (blk_cell BK115.out 1).trans rfl, (blk_cell BK115.out 2).trans rfl, (blk_cell BK115.out 3).trans rfl⟩ (fun hHeld => ?_)
           generalize w37.drew = w38 at BK115 HB hHeld ⊢
           refine pure_ (i := 0) (N := some 45) (v := ?_) (a' := ?_) #[true, false, false, false, false, false] rfl rfl (by kernel_rfl) (fun _ _ _ h => h) (Or.inl ⟨by rfl, ?_⟩) ?_ ?_
           rotate_left
           ·intro w'
            go_simp
            with_reducible rfl
           rotate_left
           ·simp only [Act.put, List.setIfInBounds_toArray, List.set_cons_zero, List.set_cons_succ, i64_w, i32_w]
            rfl
           refine pure_ (i := 1) (N := some 46) (v := ?_) (a' := ?_) #[true, true, false, false, false, false] rfl rfl (by kernel_rfl) (fun _ _ _ h => h) (Or.inl ⟨by rfl, ?_⟩) ?_ ?_
           rotate_left
           ·intro w'
            go_simp
            with_reducible rfl
           rotate_left
           ·simp only [Act.put, List.setIfInBounds_toArray, List.set_cons_zero, List.set_cons_succ, i64_w, i32_w]
            rfl
           refine pure_ (i := 3) (N := some 48) (v := ?_) (a' := ?_) #[true, true, false, true, false, false] rfl rfl (by kernel_rfl) (fun _ _ _ h => h) (Or.inl ⟨by rfl, ?_⟩) ?_ ?_
           rotate_left
           ·intro w'
            go_simp
            with_reducible rfl
           rotate_left
           ·simp only [Act.put, List.setIfInBounds_toArray, List.set_cons_zero, List.set_cons_succ, i64_w, i32_w]
            rfl
           refine take_ (i := 4) (N := some 49) (v := ?_) (a' := ?_) #[true, true, false, true, true, false] rfl rfl (by kernel_rfl) (fun _ _ _ h => h) (Or.inl ⟨by rfl, ?_⟩) hHeld ?_ ?_
           rotate_left
           ·rintro w' ⟨s0, s1, s2, s3⟩
            go_simp
            with_reducible rfl
           rotate_left
           ·simp only [Act.put, List.setIfInBounds_toArray, List.set_cons_zero, List.set_cons_succ, i64_w, i32_w]
            rfl
           refine one_ (i := 2) (N := some 47) #[true, true, true, true, true, false] rfl rfl (by kernel_rfl) (by decide) (fun K hK => ?_)
           refine goes_ Try.func28 (by kernel_rfl) rfl #[.int .i64 ji29, .int .i64 ji31] (by rfl) rfl rfl (by (try simp only [List.map_toArray, List.map_cons, List.map_nil]); first | done | (simp only [hji29, hji31]; rfl) | rfl | (simp only [List.length_drop, List.length_take]; rfl)) ?_
           with_reducible refine (monitor_far.calls ji29 ji31 t121 _ A32.out).mono ?_
           rintro e w39 ⟨rfl, hb⟩
           refine ⟨_, rfl, ?_⟩
           replace BK115 := zb BK115 hb
           replace HB := zs HB hb
           (try clear hb)
           (try clear hb2)
           (try clear hk)
           (try clear hi)
           refine hK.out _ _ ⟨(blk_cell BK115.out 0).trans rfl, (blk_cell BK115.out 1).trans rfl, (blk_cell BK115.out 2).trans rfl, (blk_cell BK115.out 3).trans rfl⟩ (fun hHeld => ?_)
           clear hK K
           refine norm_ (a' := ?_) ?_ ?_
           rotate_left
           ·show Act.put _ (some 47) _ = _
            simp only [Act.put, List.setIfInBounds_toArray, List.set_cons_zero, List.set_cons_succ, i64_w, i32_w]
            rfl
           refine pure_ (i := 5) (N := some 50) (v := ?_) (a' := ?_) #[true, true, true, true, true, true] rfl rfl (by kernel_rfl) (fun _ _ _ h => h) (Or.inl ⟨by rfl, ?_⟩) ?_ ?_
           rotate_left
           ·intro w'
            go_simp
            with_reducible rfl
           rotate_left
           ·simp only [Act.put, List.setIfInBounds_toArray, List.set_cons_zero, List.set_cons_succ, i64_w, i32_w]
            rfl
           refine done_ (by kernel_rfl) ?_
           try go_wp2
           go_roundg k2
           case measure => have := HJ3.out; have := HK2.out; omega
           case rel => exact ⟨(wrap64 (x7_2 + (ji29))), (wrap64 (x8_2 + (ji31))), (wrap64 (x32_2 + 1)), (by first | rfl | (simp; done) | (simp only [← hji29] <;> (first | rfl | simp)) | (simp [*]; done)), (by first | rfl | (simp; done) | (simp only [← hji31] <;> (first | rfl | simp)) | (simp [*]; done)), (by first | rfl | (simp; done) | (simp [*]; done)), H', ⟨by have := HJ3.out; have := HK2.out; omega⟩, ⟨by (with_reducible repeat (first | refine blk_drewN ?_ _ | refine blk_drew ?_ | refine blk_alloc ?_ _)); exact BK115.out⟩, ⟨zm HB⟩⟩
         ·rw [if_neg c30] at H
          exact absurd H (by simp)
        ·rw [if_neg c28] at H
         exact absurd H (by simp)
       ·rw [if_neg c27] at H
        exact absurd H (by simp)
      ·rw [if_neg c26] at H
       have c26b0 : decide (x32_2 < (l2.length : Int)) = false := decide_eq_false c26
       clear c26
       replace H := Option.bind_eq_some_iff.mp H
       obtain ⟨t122, A400, H⟩ := H
       replace H : (some (decide (t122 ≤ a0_1))) = some r := H
       have A40 := za A400
       clear A400
       obtain rfl := Option.some.inj H
       try go_wp2
       replace BK115 := za (blk_drew BK115.out)
       replace HB := za (below_drew1 HB.out)
       refine start_ (n := 7) (S := fun w' => w'.cell? ⟨gb115, 0, none⟩ = some (.int .i64 a0_0) ∧ w'.cell? ⟨gb115, 1, none⟩ = some (.int .i64 a0_1) ∧ w'.cell? ⟨gb115, 2, none⟩ = some (.int .i64 a0_2) ∧ w'.cell? ⟨gb115, 3, none⟩ = some (.int .i64 a0_3)) (ds := []) #[false, false, false, false, false, false, false] (by kernel_rfl) rfl rfl ⟨(blk_cell BK115.out 0).trans rfl, (blk_cell BK115.out 1).trans rfl, (blk_cell BK115.out 2).trans rfl, (blk_cell BK115.out 3).trans rfl⟩ (fun hHeld => ?_)
       generalize wr.drew = w41 at BK115 HB hHeld ⊢
       refine pure_ (i := 0) (N := some 58) (v := ?_) (a' := ?_) #[true, false, false, false, false, false, false] rfl rfl (by kernel_rfl) (fun _ _ _ h => h) (Or.inl ⟨by rfl, ?_⟩) ?_ ?_
       rotate_left
       ·intro w'
        go_simp
        with_reducible rfl
       rotate_left
       ·simp only [Act.put, List.setIfInBounds_toArray, List.set_cons_zero, List.set_cons_succ, i64_w, i32_w]
        rfl
       refine pure_ (i := 1) (N := some 59) (v := ?_) (a' := ?_) #[true, true, false, false, false, false, false] rfl rfl (by kernel_rfl) (fun _ _ _ h => h) (Or.inl ⟨by rfl, ?_⟩) ?_ ?_
       rotate_left
       ·intro w'
        go_simp
        with_reducible rfl
       rotate_left
       ·simp only [Act.put, List.setIfInBounds_toArray, List.set_cons_zero, List.set_cons_succ, i64_w, i32_w]
        rfl
       refine pure_ (i := 3) (N := some 61) (v := ?_) (a' := ?_) #[true, true, false, true, false, false, false] rfl rfl (by kernel_rfl) (fun _ _ _ h => h) (Or.inl ⟨by rfl, ?_⟩) ?_ ?_
       rotate_left
       ·intro w'
        go_simp
        with_reducible rfl
       rotate_left
       ·simp only [Act.put, List.setIfInBounds_toArray, List.set_cons_zero, List.set_cons_succ, i64_w, i32_w]
        rfl
       refine take_ (i := 4) (N := some 62) (v := ?_) (a' := ?_) #[true, true, false, true, true, false, false] rfl rfl (by kernel_rfl) (fun _ _ _ h => h) (Or.inl ⟨by rfl, ?_⟩) hHeld ?_ ?_
       rotate_left
       ·rintro w' ⟨s0, s1, s2, s3⟩
        go_simp
        with_reducible rfl
       rotate_left
       ·simp only [Act.put, List.setIfInBounds_toArray, List.set_cons_zero, List.set_cons_succ, i64_w, i32_w]
        rfl
       refine one_ (i := 2) (N := some 60) #[true, true, true, true, true, false, false] rfl rfl (by kernel_rfl) (by decide) (fun K hK => ?_)
       refine goes_ Try.func28 (by kernel_rfl) rfl #[.int .i64 x7_2, .int .i64 x8_2] (by rfl) rfl rfl (by (try simp only [List.map_toArray, List.map_cons, List.map_nil]); first | done | rfl | (simp only [List.length_drop, List.length_take]; rfl)) ?_
       with_reducible refine (monitor_far.calls x7_2 x8_2 t122 _ A40.out).mono ?_
       rintro e w42 ⟨rfl, hb⟩
       refine ⟨_, rfl, ?_⟩
       replace BK115 := zb BK115 hb
       replace HB := zs HB hb
       (try clear hb)
       (try clear hb2)
       (try clear hk)
       (try clear hi)
       refine hK.out _ _ ⟨(blk_cell BK115.out 0).trans rfl, (blk_cell BK115.out 1).trans rfl, (blk_cell BK115.out 2).trans rfl, (blk_cell BK115.out 3).trans rfl⟩ (fun hHeld => ?_)
       clear hK K
       refine norm_ (a' := ?_) ?_ ?_
       rotate_left
       ·show Act.put _ (some 60) _ = _
        simp only [Act.put, List.setIfInBounds_toArray, List.set_cons_zero, List.set_cons_succ, i64_w, i32_w]
        rfl
       refine pure_ (i := 5) (N := some 63) (v := ?_) (a' := ?_) #[true, true, true, true, true, true, false] rfl rfl (by kernel_rfl) (fun _ _ _ h => h) (Or.inl ⟨by rfl, ?_⟩) ?_ ?_
       rotate_left
       ·intro w'
        go_simp
        with_reducible rfl
       rotate_left
       ·simp only [Act.put, List.setIfInBounds_toArray, List.set_cons_zero, List.set_cons_succ, i64_w, i32_w]
        rfl
       refine pure_ (i := 6) (N := some 6) (v := ?_) (a' := ?_) #[true, true, true, true, true, true, true] rfl rfl (by kernel_rfl) (fun _ _ _ h => h) (Or.inl ⟨by rfl, ?_⟩) ?_ ?_
       rotate_left
       ·intro w'
        go_simp
        with_reducible rfl
       rotate_left
       ·simp only [Act.put, List.setIfInBounds_toArray, List.set_cons_zero, List.set_cons_succ, i64_w, i32_w]
        rfl
       refine done_ (by kernel_rfl) ?_
       try go_wp2
       go_ret
       exact ⟨zf, zm HB⟩

/-! ### monitor_fails: function 30 -/
def monitor_fails.l0 : Nat → Int → List Bool → Int → Int → Option (Int)
  | 0, _, _, _, _ => none
  | k + 1, x3, x6, x7, x8 => if x8 < x7 then (if 0 ≤ x8 then (if x8 < (x6.length : Int) then (if rdOf false x6 x8 = true then (monitor_fails.l0 k x3 x6 x7 (wrap64 (x8 + 1))) else (monitor_fails.l0 k (wrap64 (x3 + 1)) x6 x7 (wrap64 (x8 + 1)))) else (none)) else (none)) else (some x3)
def monitor_fails.f (k : Nat) (l0 : List Bool) : Option (Int) := monitor_fails.l0 k 0 l0 (l0.length : Int) 0
theorem monitor_fails.mono_l : ∀ k, (∀ y0 y1 y2 y3, LeO (monitor_fails.l0 k y0 y1 y2 y3) (monitor_fails.l0 (k + 1) y0 y1 y2 y3))
  | 0 => fun _ _ _ _ r h => by simp [monitor_fails.l0] at h
  | k + 1 => by
    have ih0 := monitor_fails.mono_l k
    · intro y0 y1 y2 y3
      unfold monitor_fails.l0
      repeat' first
      | (with_reducible exact ih0 _ _ _ _)
      | (with_reducible exact LeO.refl _)
      | (with_reducible exact LeO.none _)
      | (with_reducible refine LeO.ite ?_ ?_)
      | (with_reducible refine LeO.bind ?_ (fun _ => ?_))
      | exact ih0 _ _ _ _
      | exact LeO.none _
      | refine LeO.ite ?_ ?_
      | refine LeO.bind ?_ (fun _ => ?_)
theorem monitor_fails.mono : ∀ a0 k, LeO (monitor_fails.f k a0) (monitor_fails.f (k + 1) a0) := by
  intro a0 k
  have ih0 := monitor_fails.mono_l k
  unfold monitor_fails.f
  repeat' first
      | (with_reducible exact ih0 _ _ _ _)
      | (with_reducible exact LeO.refl _)
      | (with_reducible exact LeO.none _)
      | (with_reducible refine LeO.ite ?_ ?_)
      | (with_reducible refine LeO.bind ?_ (fun _ => ?_))
      | exact ih0 _ _ _ _
      | exact LeO.none _
      | refine LeO.ite ?_ ?_
      | refine LeO.bind ?_ (fun _ => ?_)
set_option maxHeartbeats 8000000 in
set_option maxRecDepth 100000 in
theorem monitor_fails.calls (k : Nat) (A0 : Option Addr) (c0 : Nat) (l0 : List Bool) (r : Int) (w : World) (hr0 : Kd.C Kd.bool w A0 l0.length l0) (hc0 : l0.length ≤ c0) (h : monitor_fails.f k l0 = some r) :
    Calls Try.prog 30 #[.slice A0 l0.length c0] w fun e w' => e = .returned (.int .i64 r) ∧ Drawn0 w w' := by
 have HR0 := za hr0
 have HC0 := za hc0
 clear hr0 hc0
 have H : (monitor_fails.l0 k 0 l0 (l0.length : Int) 0) = some r := h
 clear h
 have H' := za H
 clear H
 go_enter Try.func30, Try.ntmps30
 go_wp2
 go_loopg [3, 8] k (fun kq v3 v8 w' => ∃ (x3_1 : Int) (x8_1 : Int), v3 = .int .i64 x3_1 ∧ v8 = .int .i64 x8_1 ∧ Aside0 (monitor_fails.l0 kq x3_1 l0 (l0.length : Int) x8_1 = some r) ∧ Aside0 (kq ≤ k) ∧ Drawn0 w w')
 case atStart => exact ⟨(0), (0), (by first | rfl | (simp; done) | (simp [*]; done)), (by first | rfl | (simp; done) | (simp [*]; done)), H', ⟨Nat.le_refl _⟩, by repeat (first | exact Drawn0.refl _ | apply Drawn0.step)⟩
 case round =>
  clear H'
  obtain ⟨x3_1, x8_1, rfl, rfl, HA, HK1, ⟨m1, rfl⟩⟩ := hrel
  cases gk with
  | zero => exact absurd HA.out (by simp [monitor_fails.l0])
  | succ k1 =>
   have H := HA.out
   clear HA
   simp only [monitor_fails.l0] at H
   by_cases c2 : x8_1 < (l0.length : Int)
   ·rw [if_pos c2] at H
    have c2b0 : decide (x8_1 < (l0.length : Int)) = true := decide_eq_true c2
    clear c2
    by_cases c3 : 0 ≤ x8_1
    ·rw [if_pos c3] at H
     have c3b0 : decide (0 ≤ x8_1) = true := decide_eq_true c3
     clear c3
     by_cases c4 : x8_1 < (l0.length : Int)
     ·rw [if_pos c4] at H
      have c4b0 : decide (x8_1 < (l0.length : Int)) = true := decide_eq_true c4
      clear c4
      obtain ⟨bq5, hbq5⟩ : ∃ b_ : Bool, b_ = (rdOf false l0 x8_1) := ⟨_, rfl⟩
      replace H : (if bq5 = true then (monitor_fails.l0 k1 x3_1 l0 (l0.length : Int) (wrap64 (x8_1 + 1))) else (monitor_fails.l0 k1 (wrap64 (x3_1 + 1)) l0 (l0.length : Int) (wrap64 (x8_1 + 1)))) = some r := by rw [← hbq5] at H; exact H
      have Nbq5 := za hbq5
      clear hbq5
      by_cases c6 : bq5 = true
      ·subst c6
       have H1 : (monitor_fails.l0 k1 x3_1 l0 (l0.length : Int) (wrap64 (x8_1 + 1))) = some r := by rw [if_pos rfl] at H; exact H
       clear H
       have H := H1
       clear H1
       have H' := za H
       clear H
       have p123 : 0 ≤ (x8_1 : Int) := of_decide_eq_true (by first | (with_reducible assumption) | assumption)
       have q123 : x8_1 < (l0.length : Int) := of_decide_eq_true (by first | (with_reducible assumption) | assumption)
       obtain ⟨ad123, e123, hx123_0⟩ := Kd.at_bool HR0.out x8_1 p123 q123
       (try rw [← Nbq5.out] at hx123_0)
       (try rw [← Nbq5.out] at hw123_0)
       cases e123
       replace p123 := eq_true p123
       replace q123 := eq_true q123
       go_wp2
       go_roundg k1
       case measure => have := HK1.out; omega
       case rel => exact ⟨(x3_1), (wrap64 (x8_1 + 1)), (by first | rfl | (simp; done) | (simp [*]; done)), (by first | rfl | (simp; done) | (simp [*]; done)), H', ⟨by have := HK1.out; omega⟩, by repeat (first | exact Drawn0.refl _ | apply Drawn0.step)⟩
      ·replace c6 := Bool.eq_false_iff.mpr c6
       subst c6
       have H1 : (monitor_fails.l0 k1 (wrap64 (x3_1 + 1)) l0 (l0.length : Int) (wrap64 (x8_1 + 1))) = some r := by rw [if_neg (show ¬ (false = true) by decide)] at H; exact H
       clear H
       have H := H1
       clear H1
       have H' := za H
       clear H
       have p123 : 0 ≤ (x8_1 : Int) := of_decide_eq_true (by first | (with_reducible assumption) | assumption)
       have q123 : x8_1 < (l0.length : Int) := of_decide_eq_true (by first | (with_reducible assumption) | assumption)
       obtain ⟨ad123, e123, hx123_0⟩ := Kd.at_bool HR0.out x8_1 p123 q123
       (try rw [← Nbq5.out] at hx123_0)
       (try rw [← Nbq5.out] at hw123_0)
       cases e123
       replace p123 := eq_true p123
       replace q123 := eq_true q123
       go_wp2
       go_roundg k1
       case measure => have := HK1.out; omega
       case rel => exact ⟨(wrap64 (x3_1 + 1)), (wrap64 (x8_1 + 1)), (by first | rfl | (simp; done) | (simp [*]; done)), (by first | rfl | (simp; done) | (simp [*]; done)), H', ⟨by have := HK1.out; omega⟩, by repeat (first | exact Drawn0.refl _ | apply Drawn0.step)⟩
     ·rw [if_neg c4] at H
      exact absurd H (by simp)
    ·rw [if_neg c3] at H
     exact absurd H (by simp)
   ·rw [if_neg c2] at H
    have c2b0 : decide (x8_1 < (l0.length : Int)) = false := decide_eq_false c2
    clear c2
    obtain rfl := Option.some.inj H
    go_wp2
    go_ret
    exact ⟨by first | rfl | (simp; done) | (simp [*]; done), by repeat (first | exact Drawn0.refl _ | apply Drawn0.step)⟩

/-! ### monitor_Valid: function 18 -/
def monitor_Valid.f (k : Nat) (a0_0 : Int) (a0_1 : Int) (a0_2 : Int) (a0_3 : Int) (l1_0 : List Bool) (a1_1 : Bool) : Option (Bool) := (monitor_Check.f a0_0 a0_1 a0_2 a0_3).bind fun t126 => (if t126 = 0 then (if (l1_0.length : Int) ≤ a0_2 then ((monitor_fails.f k l1_0).bind fun t127 => (some (a1_1 == (decide (t127 ≥ a0_3))))) else (some false)) else (some false))
theorem monitor_Valid.mono : ∀ a0 a1 a2 a3 a4 a5 k, LeO (monitor_Valid.f k a0 a1 a2 a3 a4 a5) (monitor_Valid.f (k + 1) a0 a1 a2 a3 a4 a5) := by
  intro a0 a1 a2 a3 a4 a5 k
  unfold monitor_Valid.f
  repeat' first
      | (with_reducible exact monitor_fails.mono _ _)
      | (with_reducible exact LeO.refl _)
      | (with_reducible exact LeO.none _)
      | (with_reducible refine LeO.ite ?_ ?_)
      | (with_reducible refine LeO.bind ?_ (fun _ => ?_))
      | exact monitor_fails.mono _ _
      | exact LeO.none _
      | refine LeO.ite ?_ ?_
      | refine LeO.bind ?_ (fun _ => ?_)
def monitor_Valid.T1 : Bool × List (List Nat × List Nat) := (true, [([], []), ([0], [0]), ([1], [1]), ([2, 1], [2]), ([3], [3]), ([4, 3], [3, 4]), ([5, 3], [3, 5]), ([3], [3]), ([7, 3], [3, 7]), ([6, 8, 3], [3, 6, 8]), ([3, 9], [3, 9]), ([10, 3], [10]), ([11], [11]), ([12, 11], [11, 12]), ([11], [11]), ([14, 11], [11, 14]), ([15, 11, 11], [11, 15]), ([11], [11]), ([17, 11], [11, 17]), ([16, 18, 11], [11, 16, 18]), ([13, 19, 11], [11, 13, 19]), ([11, 20], [11, 20]), ([21, 16, 0, 1, 2, 3, 4, 5, 6, 7, 8, 9, 10, 11, 12, 13, 14, 15, 16, 17, 18, 19, 20, 21], [21])])
def monitor_Valid.B1 : List Nat := [0, 1, 3, 7, 15, 31, 63, 15, 143, 511, 1023, 2047, 4095, 8191, 4095, 20479, 53247, 4095, 135167, 511999, 1048575, 2097151, 4194303]
theorem monitor_Valid.tab1 : rtab .any (opsOf Try.f18 1) = monitor_Valid.T1 := by kernel_rfl
theorem monitor_Valid.bits1 : waitsOk monitor_Valid.T1.2 monitor_Valid.B1 = true := by kernel_rfl
set_option maxHeartbeats 8000000 in
set_option maxRecDepth 100000 in
theorem monitor_Valid.calls (k : Nat) (a0_0 : Int) (a0_1 : Int) (a0_2 : Int) (a0_3 : Int) (A1_0 : Option Addr) (c1_0 : Nat) (l1_0 : List Bool) (a1_1 : Bool) (r : Bool) (w : World) (hr1_0 : Kd.C Kd.bool w A1_0 l1_0.length l1_0) (hc1_0 : l1_0.length ≤ c1_0) (h : monitor_Valid.f k a0_0 a0_1 a0_2 a0_3 l1_0 a1_1 = some r) :
    Calls Try.prog 18 #[.agg #[.int .i64 a0_0, .int .i64 a0_1, .int .i64 a0_2, .int .i64 a0_3], .agg #[.slice A1_0 l1_0.length c1_0, .bool a1_1]] w fun e w' => e = .returned (.bool r) ∧ Below w.heap.size w w' := by
 have hu24 := Try.underlying24
 have hu27 := Try.underlying27
 have HR1_0 := za hr1_0
 have HC1_0 := za hc1_0
 clear hr1_0 hc1_0
 have HB := za (Below.refl w.heap.size w)
 have H : ((monitor_Check.f a0_0 a0_1 a0_2 a0_3).bind fun t126 => (if t126 = 0 then (if (l1_0.length : Int) ≤ a0_2 then ((monitor_fails.f k l1_0).bind fun t127 => (some (a1_1 == (decide (t127 ≥ a0_3))))) else (some false)) else (some false))) = some r := h
 clear h
 replace H := Option.bind_eq_some_iff.mp H
 obtain ⟨t126, A30, H⟩ := H
 replace H : (if t126 = 0 then (if (l1_0.length : Int) ≤ a0_2 then ((monitor_fails.f k l1_0).bind fun t127 => (some (a1_1 == (decide (t127 ≥ a0_3))))) else (some false)) else (some false)) = some r := H
 have A3 := za A30
 clear A30
 by_cases c4 : t126 = 0
 ·rw [if_pos c4] at H
  have c4b0 : (t126 == 0) = true := beq_iff_eq.mpr c4
  have c4b1 : (t126 != 0) = false := bne_eq_false_iff_eq.mpr c4
  clear c4
  by_cases c5 : (l1_0.length : Int) ≤ a0_2
  ·rw [if_pos c5] at H
   have c5b0 : decide ((l1_0.length : Int) ≤ a0_2) = true := decide_eq_true c5
   clear c5
   replace H := Option.bind_eq_some_iff.mp H
   obtain ⟨t127, A60, H⟩ := H
   replace H : (some (a1_1 == (decide (t127 ≥ a0_3)))) = some r := H
   have A6 := za A60
   clear A60
   obtain rfl := Option.some.inj H
   go_enter Try.func18, Try.ntmps18
   try go_wp2_with (first | ((with_reducible refine gate_dst (N := 2) rfl ?_); (try (refine gate_guard (by rfl) ?_; dsimp only)); refine zE 2 #[.int .i64 a0_0, .int .i64 a0_1, .int .i64 a0_2, .int .i64 a0_3] 24 ?_; intro gb124 hg w7 hbox hb; have BK124 := za (hbox); have GW124 := zg HB hg; have GE124 := zg HB hg; replace HB := zs HB hb; clear hb hbox hg) | ((with_reducible refine gate_dst (N := 3) rfl ?_); (try (refine gate_guard (by rfl) ?_; dsimp only)); refine zE 3 #[.slice A1_0 l1_0.length c1_0, .bool a1_1] 27 ?_; intro gb125 hg w8 hbox hb; have BK125 := za (hbox); have GW125 := zg HB hg; have GE125 := zg HB hg; have NB124_125 := zl BK124 hg; have NB125_124 := zr BK124 hg; replace BK124 := zb BK124 hb; replace HB := zs HB hb; clear hb hbox hg))
   replace BK124 := za (blk_drew BK124.out)
   replace BK125 := za (blk_drew BK125.out)
   replace HB := za (below_drew1 HB.out)
   refine start_ (n := 23) (S := fun w' => w'.cell? ⟨gb124, 0, none⟩ = some (.int .i64 a0_0) ∧ w'.cell? ⟨gb124, 1, none⟩ = some (.int .i64 a0_1) ∧ w'.cell? ⟨gb124, 2, none⟩ = some (.int .i64 a0_2) ∧ w'.cell? ⟨gb124, 3, none⟩ = some (.int .i64 a0_3) ∧ w'.cell? ⟨gb125, 0, none⟩ = some (.slice A1_0 l1_0.length c1_0) ∧ w'.cell? ⟨gb125, 1, none⟩ = some (.bool a1_1)) (ds := []) #[false, false, false, false, false, false, false, false, false, false, false, false, false, false, false, false, false, false, false, false, false, false, false] (by kernel_rfl) rfl rfl ⟨(blk_cell BK124.out 0).trans rfl, (blk_cell BK124.out 1).trans rfl, (blk_cell BK124.out 2).trans rfl, (blk_cell BK124.out 3).trans rfl, (blk_cell BK125.out 0).trans rfl, (blk_cell BK125.out 1).trans rfl⟩ (fun hHeld => ?_); refine with_tabW monitor_Valid.tab1 monitor_Valid.bits1 (fun HT_ HW_ => ?_)
   generalize w8.drew = w9 at BK124 BK125 HB hHeld ⊢
   refine take_ (i := 0) (N := some 5) (v := ?_) (a' := ?_) #[true, false, false, false, false, false, false, false, false, false, false, false, false, false, false, false, false, false, false, false, false, false, false] rfl rfl (take_ofW HT_.out HW_.out (by kernel_rfl)) (fun _ _ _ h => h) (Or.inl ⟨by rfl, ?_⟩) hHeld ?_ ?_
   rotate_left
   ·rintro w' ⟨s0, s1, s2, s3, s4, s5⟩
    go_simp
    with_reducible rfl
   rotate_left
   ·simp only [Act.put, List.setIfInBounds_toArray, List.set_cons_zero, List.set_cons_succ, i64_w, i32_w]
    rfl
   refine one_ (i := 1) (N := some 6) #[true, true, false, false, false, false, false, false, false, false, false, false, false, false, false, false, false, false, false, false, false, false, false] rfl rfl (one_of HT_.out (by kernel_rfl)) (by decide) (fun K hK => ?_)
   refine goes_ Try.func14 (by kernel_rfl) rfl #[.agg #[.int .i64 a0_0, .int .i64 a0_1, .int .i64 a0_2, .int .i64 a0_3]] (by rfl) rfl rfl (by (try simp only [List.map_toArray, List.map_cons, List.map_nil]); first | done | rfl | (simp only [List.length_drop, List.length_take]; rfl)) ?_
   with_reducible refine (monitor_Check.calls a0_0 a0_1 a0_2 a0_3 t126 _ A3.out).mono ?_
   rintro e w10 ⟨rfl, hb⟩
   refine ⟨_, rfl, ?_⟩
   replace BK124 := zb BK124 hb
   replace BK125 := zb BK125 hb
   replace HB := zs HB hb
   (try clear hb)
   (try clear hb2)
   (try clear hk)
   (try clear hi)
   refine hK.out _ _ ⟨(blk_cell BK124.out 0).trans rfl, (blk_cell BK124.out 1).trans rfl, (blk_cell BK124.out 2).trans rfl, (blk_cell BK124.out 3).trans rfl, (blk_cell BK125.out 0).trans rfl, (blk_cell BK125.out 1).trans rfl⟩ (fun hHeld => ?_)
   clear hK K
   refine norm_ (a' := ?_) ?_ ?_
   rotate_left
   ·show Act.put _ (some 6) _ = _
    simp only [Act.put, List.setIfInBounds_toArray, List.set_cons_zero, List.set_cons_succ, i64_w, i32_w]
    rfl
   refine pure_ (i := 2) (N := some 7) (v := ?_) (a' := ?_) #[true, true, true, false, false, false, false, false, false, false, false, false, false, false, false, false, false, false, false, false, false, false, false] rfl rfl (any_of HT_.out (by kernel_rfl)) (fun _ _ _ h => h) (Or.inl ⟨by rfl, ?_⟩) ?_ ?_
   rotate_left
   ·intro w'
    go_simp
    with_reducible rfl
   rotate_left
   ·simp only [Act.put, List.setIfInBounds_toArray, List.set_cons_zero, List.set_cons_succ, i64_w, i32_w]
    rfl
   refine pure_ (i := 3) (N := some 8) (v := ?_) (a' := ?_) #[true, true, true, true, false, false, false, false, false, false, false, false, false, false, false, false, false, false, false, false, false, false, false] rfl rfl (any_of HT_.out (by kernel_rfl)) (fun _ _ _ h => h) (Or.inl ⟨by rfl, ?_⟩) ?_ ?_
   rotate_left
   ·intro w'
    go_simp
    with_reducible rfl
   rotate_left
   ·simp only [Act.put, List.setIfInBounds_toArray, List.set_cons_zero, List.set_cons_succ, i64_w, i32_w]
    rfl
   refine pure_ (i := 4) (N := some 9) (v := ?_) (a' := ?_) #[true, true, true, true, true, false, false, false, false, false, false, false, false, false, false, false, false, false, false, false, false, false, false] rfl rfl (any_of HT_.out (by kernel_rfl)) (fun _ _ _ h => h) (Or.inl ⟨by rfl, ?_⟩) ?_ ?_
   rotate_left
   ·intro w'
    go_simp
    with_reducible rfl
   rotate_left
   ·simp only [Act.put, List.setIfInBounds_toArray, List.set_cons_zero, List.set_cons_succ, i64_w, i32_w]
    rfl
   refine pure_ (i := 7) (N := some 12) (v := ?_) (a' := ?_) #[true, true, true, true, true, false, false, true, false, false, false, false, false, false, false, false, false, false, false, false, false, false, false] rfl rfl (any_of HT_.out (by kernel_rfl)) (fun _ _ _ h => h) (Or.inl ⟨by rfl, ?_⟩) ?_ ?_
   rotate_left
   ·intro w'
    go_simp
    with_reducible rfl
   rotate_left
   ·simp only [Act.put, List.setIfInBounds_toArray, List.set_cons_zero, List.set_cons_succ, i64_w, i32_w]
    rfl
   refine take_ (i := 5) (N := some 10) (v := ?_) (a' := ?_) #[true, true, true, true, true, true, false, true, false, false, false, false, false, false, false, false, false, false, false, false, false, false, false] rfl rfl (take_ofW HT_.out HW_.out (by kernel_rfl)) (fun _ _ _ h => h) (Or.inl ⟨by rfl, ?_⟩) hHeld ?_ ?_
   rotate_left
   ·rintro w' ⟨s0, s1, s2, s3, s4, s5⟩
    go_simp
    with_reducible rfl
   rotate_left
   ·simp only [Act.put, List.setIfInBounds_toArray, List.set_cons_zero, List.set_cons_succ, i64_w, i32_w]
    rfl
   refine pure_ (i := 6) (N := some 11) (v := ?_) (a' := ?_) #[true, true, true, true, true, true, true, true, false, false, false, false, false, false, false, false, false, false, false, false, false, false, false] rfl rfl (any_of HT_.out (by kernel_rfl)) (fun _ _ _ h => h) (Or.inl ⟨by rfl, ?_⟩) ?_ ?_
   rotate_left
   ·intro w'
    go_simp
    with_reducible rfl
   rotate_left
   ·simp only [Act.put, List.setIfInBounds_toArray, List.set_cons_zero, List.set_cons_succ, i64_w, i32_w]
    rfl
   refine take_ (i := 8) (N := some 13) (v := ?_) (a' := ?_) #[true, true, true, true, true, true, true, true, true, false, false, false, false, false, false, false, false, false, false, false, false, false, false] rfl rfl (take_ofW HT_.out HW_.out (by kernel_rfl)) (fun _ _ _ h => h) (Or.inl ⟨by rfl, ?_⟩) hHeld ?_ ?_
   rotate_left
   ·rintro w' ⟨s0, s1, s2, s3, s4, s5⟩
    go_simp
    with_reducible rfl
   rotate_left
   ·simp only [Act.put, List.setIfInBounds_toArray, List.set_cons_zero, List.set_cons_succ, i64_w, i32_w]
    rfl
   refine pure_ (i := 9) (N := some 14) (v := ?_) (a' := ?_) #[true, true, true, true, true, true, true, true, true, true, false, false, false, false, false, false, false, false, false, false, false, false, false] rfl rfl (any_of HT_.out (by kernel_rfl)) (fun _ _ _ h => h) (Or.inl ⟨by rfl, ?_⟩) ?_ ?_
   rotate_left
   ·intro w'
    go_simp
    with_reducible rfl
   rotate_left
   ·simp only [Act.put, List.setIfInBounds_toArray, List.set_cons_zero, List.set_cons_succ, i64_w, i32_w]
    rfl
   refine pure_ (i := 10) (N := some 15) (v := ?_) (a' := ?_) #[true, true, true, true, true, true, true, true, true, true, true, false, false, false, false, false, false, false, false, false, false, false, false] rfl rfl (any_of HT_.out (by kernel_rfl)) (fun _ _ _ h => h) (Or.inl ⟨by rfl, ?_⟩) ?_ ?_
   rotate_left
   ·intro w'
    go_simp
    with_reducible rfl
   rotate_left
   ·simp only [Act.put, List.setIfInBounds_toArray, List.set_cons_zero, List.set_cons_succ, i64_w, i32_w]
    rfl
   refine pure_ (i := 11) (N := some 16) (v := ?_) (a' := ?_) #[true, true, true, true, true, true, true, true, true, true, true, true, false, false, false, false, false, false, false, false, false, false, false] rfl rfl (any_of HT_.out (by kernel_rfl)) (fun _ _ _ h => h) (Or.inl ⟨by rfl, ?_⟩) ?_ ?_
   rotate_left
   ·intro w'
    go_simp
    with_reducible rfl
   rotate_left
   ·simp only [Act.put, List.setIfInBounds_toArray, List.set_cons_zero, List.set_cons_succ, i64_w, i32_w]
    rfl
   refine pure_ (i := 12) (N := some 17) (v := ?_) (a' := ?_) #[true, true, true, true, true, true, true, true, true, true, true, true, true, false, false, false, false, false, false, false, false, false, false] rfl rfl (any_of HT_.out (by kernel_rfl)) (fun _ _ _ h => h) (Or.inl ⟨by rfl, ?_⟩) ?_ ?_
   rotate_left
   ·intro w'
    go_simp
    with_reducible rfl
   rotate_left
   ·simp only [Act.put, List.setIfInBounds_toArray, List.set_cons_zero, List.set_cons_succ, i64_w, i32_w]
    rfl
   refine pure_ (i := 14) (N := some 19) (v := ?_) (a' := ?_) #[true, true, true, true, true, true, true, true, true, true, true, true, true, false, true, false, false, false, false, false, false, false, false] rfl rfl (any_of HT_.out (by kernel_rfl)) (fun _ _ _ h => h) (Or.inl ⟨by rfl, ?_⟩) ?_ ?_
   rotate_left
   ·intro w'
    go_simp
    with_reducible rfl
   rotate_left
   ·simp only [Act.put, List.setIfInBounds_toArray, List.set_cons_zero, List.set_cons_succ, i64_w, i32_w]
    rfl
   refine pure_ (i := 17) (N := some 22) (v := ?_) (a' := ?_) #[true, true, true, true, true, true, true, true, true, true, true, true, true, false, true, false, false, true, false, false, false, false, false] rfl rfl (any_of HT_.out (by kernel_rfl)) (fun _ _ _ h => h) (Or.inl ⟨by rfl, ?_⟩) ?_ ?_
   rotate_left
   ·intro w'
    go_simp
    with_reducible rfl
   rotate_left
   ·simp only [Act.put, List.setIfInBounds_toArray, List.set_cons_zero, List.set_cons_succ, i64_w, i32_w]
    rfl
   refine take_ (i := 13) (N := some 18) (v := ?_) (a' := ?_) #[true, true, true, true, true, true, true, true, true, true, true, true, true, true, true, false, false, true, false, false, false, false, false] rfl rfl (take_ofW HT_.out HW_.out (by kernel_rfl)) (fun _ _ _ h => h) (Or.inl ⟨by rfl, ?_⟩) hHeld ?_ ?_
   rotate_left
   ·rintro w' ⟨s0, s1, s2, s3, s4, s5⟩
    go_simp
    with_reducible rfl
   rotate_left
   ·simp only [Act.put, List.setIfInBounds_toArray, List.set_cons_zero, List.set_cons_succ, i64_w, i32_w]
    rfl
   refine take_ (i := 15) (N := some 20) (v := ?_) (a' := ?_) #[true, true, true, true, true, true, true, true, true, true, true, true, true, true, true, true, false, true, false, false, false, false, false] rfl rfl (take_ofW HT_.out HW_.out (by kernel_rfl)) (fun _ _ _ h => h) (Or.inl ⟨by rfl, ?_⟩) hHeld ?_ ?_
   rotate_left
   ·rintro w' ⟨s0, s1, s2, s3, s4, s5⟩
    go_simp
    with_reducible rfl
   rotate_left
   ·simp only [Act.put, List.setIfInBounds_toArray, List.set_cons_zero, List.set_cons_succ, i64_w, i32_w]
    rfl
   refine take_ (i := 18) (N := some 23) (v := ?_) (a' := ?_) #[true, true, true, true, true, true, true, true, true, true, true, true, true, true, true, true, false, true, true, false, false, false, false] rfl rfl (take_ofW HT_.out HW_.out (by kernel_rfl)) (fun _ _ _ h => h) (Or.inl ⟨by rfl, ?_⟩) hHeld ?_ ?_
   rotate_left
   ·rintro w' ⟨s0, s1, s2, s3, s4, s5⟩
    go_simp
    with_reducible rfl
   rotate_left
   ·simp only [Act.put, List.setIfInBounds_toArray, List.set_cons_zero, List.set_cons_succ, i64_w, i32_w]
    rfl
   refine one_ (i := 16) (N := some 21) #[true, true, true, true, true, true, true, true, true, true, true, true, true, true, true, true, true, true, true, false, false, false, false] rfl rfl (one_of HT_.out (by kernel_rfl)) (by decide) (fun K hK => ?_)
   refine goes_ Try.func30 (by kernel_rfl) rfl #[.slice A1_0 l1_0.length c1_0] (by rfl) rfl rfl (by (try simp only [List.map_toArray, List.map_cons, List.map_nil]); first | done | rfl | (simp only [List.length_drop, List.length_take]; rfl)) ?_
   with_reducible refine (monitor_fails.calls k _ _ l1_0 t127 _ ?side1 ?side2 A6.out).mono ?_
   (case side1 => exact zC HR1_0 HB)
   (case side2 => exact HC1_0.out)
   rintro e w' ⟨rfl, ⟨nd, rfl⟩⟩
   refine ⟨_, rfl, ?_⟩
   refine hK.out _ _ ⟨(blk_cell BK124.out 0).trans rfl, (blk_cell BK124.out 1).trans rfl, (blk_cell BK124.out 2).trans rfl, (blk_cell BK124.out 3).trans rfl, (blk_cell BK125.out 0).trans rfl, (blk_cell BK125.out 1).trans rfl⟩ (fun hHeld => ?_)
   clear hK K
   refine norm_ (a' := ?_) ?_ ?_
   rotate_left
   ·show Act.put _ (some 21) _ = _
    simp only [Act.put, List.setIfInBounds_toArray, List.set_cons_zero, List.set_cons_succ, i64_w, i32_w]
    rfl
   refine pure_ (i := 19) (N := some 24) (v := ?_) (a' := ?_) #[true, true, true, true, true, true, true, true, true, true, true, true, true, true, true, true, true, true, true, true, false, false, false] rfl rfl (any_of HT_.out (by kernel_rfl)) (fun _ _ _ h => h) (Or.inl ⟨by rfl, ?_⟩) ?_ ?_
   rotate_left
   ·intro w'
    go_simp
    with_reducible rfl
   rotate_left
   ·simp only [Act.put, List.setIfInBounds_toArray, List.set_cons_zero, List.set_cons_succ, i64_w, i32_w]
    rfl
   refine pure_ (i := 20) (N := some 25) (v := ?_) (a' := ?_) #[true, true, true, true, true, true, true, true, true, true, true, true, true, true, true, true, true, true, true, true, true, false, false] rfl rfl (any_of HT_.out (by kernel_rfl)) (fun _ _ _ h => h) (Or.inl ⟨by rfl, ?_⟩) ?_ ?_
   rotate_left
   ·intro w'
    go_simp
    with_reducible rfl
   rotate_left
   ·simp only [Act.put, List.setIfInBounds_toArray, List.set_cons_zero, List.set_cons_succ, i64_w, i32_w]
    rfl
   refine pure_ (i := 21) (N := some 26) (v := ?_) (a' := ?_) #[true, true, true, true, true, true, true, true, true, true, true, true, true, true, true, true, true, true, true, true, true, true, false] rfl rfl (any_of HT_.out (by kernel_rfl)) (fun _ _ _ h => h) (Or.inl ⟨by rfl, ?_⟩) ?_ ?_
   rotate_left
   ·intro w'
    go_simp
    with_reducible rfl
   rotate_left
   ·simp only [Act.put, List.setIfInBounds_toArray, List.set_cons_zero, List.set_cons_succ, i64_w, i32_w]
    rfl
   refine pure_ (i := 22) (N := some 4) (v := ?_) (a' := ?_) #[true, true, true, true, true, true, true, true, true, true, true, true, true, true, true, true, true, true, true, true, true, true, true] rfl rfl (any_of HT_.out (by kernel_rfl)) (fun _ _ _ h => h) (Or.inl ⟨by rfl, ?_⟩) ?_ ?_
   rotate_left
   ·intro w'
    go_simp
    with_reducible rfl
   rotate_left
   ·simp only [Act.put, List.setIfInBounds_toArray, List.set_cons_zero, List.set_cons_succ, i64_w, i32_w]
    rfl
   refine done_ (done_of HT_.out (by kernel_rfl)) ?_
   try go_wp2
   go_ret
   exact ⟨zf, zm HB⟩
  ·rw [if_neg c5] at H
   have c5b0 : decide ((l1_0.length : Int) ≤ a0_2) = false := decide_eq_false c5
   clear c5
   obtain rfl := Option.some.inj H
   go_enter Try.func18, Try.ntmps18
   try go_wp2_with (first | ((with_reducible refine gate_dst (N := 2) rfl ?_); (try (refine gate_guard (by rfl) ?_; dsimp only)); refine zE 2 #[.int .i64 a0_0, .int .i64 a0_1, .int .i64 a0_2, .int .i64 a0_3] 24 ?_; intro gb124 hg w11 hbox hb; have BK124 := za (hbox); have GW124 := zg HB hg; have GE124 := zg HB hg; replace HB := zs HB hb; clear hb hbox hg) | ((with_reducible refine gate_dst (N := 3) rfl ?_); (try (refine gate_guard (by rfl) ?_; dsimp only)); refine zE 3 #[.slice A1_0 l1_0.length c1_0, .bool a1_1] 27 ?_; intro gb125 hg w12 hbox hb; have BK125 := za (hbox); have GW125 := zg HB hg; have GE125 := zg HB hg; have NB124_125 := zl BK124 hg; have NB125_124 := zr BK124 hg; replace BK124 := zb BK124 hb; replace HB := zs HB hb; clear hb hbox hg))
   replace BK124 := za (blk_drew BK124.out)
   replace BK125 := za (blk_drew BK125.out)
   replace HB := za (below_drew1 HB.out)
   refine start_ (n := 23) (S := fun w' => w'.cell? ⟨gb124, 0, none⟩ = some (.int .i64 a0_0) ∧ w'.cell? ⟨gb124, 1, none⟩ = some (.int .i64 a0_1) ∧ w'.cell? ⟨gb124, 2, none⟩ = some (.int .i64 a0_2) ∧ w'.cell? ⟨gb124, 3, none⟩ = some (.int .i64 a0_3) ∧ w'.cell? ⟨gb125, 0, none⟩ = some (.slice A1_0 l1_0.length c1_0) ∧ w'.cell? ⟨gb125, 1, none⟩ = some (.bool a1_1)) (ds := []) #[false, false, false, false, false, false, false, false, false, false, false, false, false, false, false, false, false, false, false, false, false, false, false] (by kernel_rfl) rfl rfl ⟨(blk_cell BK124.out 0).trans rfl, (blk_cell BK124.out 1).trans rfl, (blk_cell BK124.out 2).trans rfl, (blk_cell BK124.out 3).trans rfl, (blk_cell BK125.out 0).trans rfl, (blk_cell BK125.out 1).trans rfl⟩ (fun hHeld => ?_); refine with_tabW monitor_Valid.tab1 monitor_Valid.bits1 (fun HT_ HW_ => ?_)
   generalize w12.drew = w13 at BK124 BK125 HB hHeld ⊢
   refine take_ (i := 0) (N := some 5) (v := ?_) (a' := ?_) #[true, false, false, false, false, false, false, false, false, false, false, false, false, false, false, false, false, false, false, false, false, false, false] rfl rfl (take_ofW HT_.out HW_.out (by kernel_rfl)) (fun _ _ _ h => h) (Or.inl ⟨by rfl, ?_⟩) hHeld ?_ ?_
   rotate_left
   ·rintro w' ⟨s0, s1, s2, s3, s4, s5⟩
    go_simp
    with_reducible rfl
   rotate_left
   ·simp only [Act.put, List.setIfInBounds_toArray, List.set_cons_zero, List.set_cons_succ, i64_w, i32_w]
    rfl
   refine one_ (i := 1) (N := some 6) #[true, true, false, false, false, false, false, false, false, false, false, false, false, false, false, false, false, false, false, false, false, false, false] rfl rfl (one_of HT_.out (by kernel_rfl)) (by decide) (fun K hK => ?_)
   refine goes_ Try.func14 (by kernel_rfl) rfl #[.agg #[.int .i64 a0_0, .int .i64 a0_1, .int .i64 a0_2, .int .i64 a0_3]] (by rfl) rfl rfl (by (try simp only [List.map_toArray, List.map_cons, List.map_nil]); first | done | rfl | (simp only [List.length_drop, List.length_take]; rfl)) ?_
   with_reducible refine (monitor_Check.calls a0_0 a0_1 a0_2 a0_3 t126 _ A3.out).mono ?_
   rintro e w14 ⟨rfl, hb⟩
   refine ⟨_, rfl, ?_⟩
   replace BK124 := zb BK124 hb
   replace BK125 := zb BK125 hb
   replace HB := zs HB hb
   (try clear hb)
   (try clear hb2)
   (try clear hk)
   (try clear hi)
   refine hK.out _ _ ⟨(blk_cell BK124.out 0).trans rfl, (blk_cell BK124.out 1).trans rfl, (blk_cell BK124.out 2).trans rfl, (blk_cell BK124.out 3).trans rfl, (blk_cell BK125.out 0).trans rfl, (blk_cell BK125.out 1).trans rfl⟩ (fun hHeld => ?_)
   clear hK K
   refine norm_ (a' := ?_) ?_ ?_
   rotate_left
   ·show Act.put _ (some 6) _ = _
    simp only [Act.put, List.setIfInBounds_toArray, List.set_cons_zero, List.set_cons_succ, i64_w, i32_w]
    rfl
   refine pure_ (i := 2) (N := some 7) (v := ?_) (a' := ?_) #[true, true, true, false, false, false, false, false, false, false, false, false, false, false, false, false, false, false, false, false, false, false, false] rfl rfl (any_of HT_.out (by kernel_rfl)) (fun _ _ _ h => h) (Or.inl ⟨by rfl, ?_⟩) ?_ ?_
   rotate_left
   ·intro w'
    go_simp
    with_reducible rfl
   rotate_left
   ·simp only [Act.put, List.setIfInBounds_toArray, List.set_cons_zero, List.set_cons_succ, i64_w, i32_w]
    rfl
   refine pure_ (i := 3) (N := some 8) (v := ?_) (a' := ?_) #[true, true, true, true, false, false, false, false, false, false, false, false, false, false, false, false, false, false, false, false, false, false, false] rfl rfl (any_of HT_.out (by kernel_rfl)) (fun _ _ _ h => h) (Or.inl ⟨by rfl, ?_⟩) ?_ ?_
   rotate_left
   ·intro w'
    go_simp
    with_reducible rfl
   rotate_left
   ·simp only [Act.put, List.setIfInBounds_toArray, List.set_cons_zero, List.set_cons_succ, i64_w, i32_w]
    rfl
   refine pure_ (i := 4) (N := some 9) (v := ?_) (a' := ?_) #[true, true, true, true, true, false, false, false, false, false, false, false, false, false, false, false, false, false, false, false, false, false, false] rfl rfl (any_of HT_.out (by kernel_rfl)) (fun _ _ _ h => h) (Or.inl ⟨by rfl, ?_⟩) ?_ ?_
   rotate_left
   ·intro w'
    go_simp
    with_reducible rfl
   rotate_left
   ·simp only [Act.put, List.setIfInBounds_toArray, List.set_cons_zero, List.set_cons_succ, i64_w, i32_w]
    rfl
   refine pure_ (i := 7) (N := some 12) (v := ?_) (a' := ?_) #[true, true, true, true, true, false, false, true, false, false, false, false, false, false, false, false, false, false, false, false, false, false, false] rfl rfl (any_of HT_.out (by kernel_rfl)) (fun _ _ _ h => h) (Or.inl ⟨by rfl, ?_⟩) ?_ ?_
   rotate_left
   ·intro w'
    go_simp
    with_reducible rfl
   rotate_left
   ·simp only [Act.put, List.setIfInBounds_toArray, List.set_cons_zero, List.set_cons_succ, i64_w, i32_w]
    rfl
   refine take_ (i := 5) (N := some 10) (v := ?_) (a' := ?_) #[true, true, true, true, true, true, false, true, false, false, false, false, false, false, false, false, false, false, false, false, false, false, false] rfl rfl (take_ofW HT_.out HW_.out (by kernel_rfl)) (fun _ _ _ h => h) (Or.inl ⟨by rfl, ?_⟩) hHeld ?_ ?_
   rotate_left
   ·rintro w' ⟨s0, s1, s2, s3, s4, s5⟩
    go_simp
    with_reducible rfl
   rotate_left
   ·simp only [Act.put, List.setIfInBounds_toArray, List.set_cons_zero, List.set_cons_succ, i64_w, i32_w]
    rfl
   refine pure_ (i := 6) (N := some 11) (v := ?_) (a' := ?_) #[true, true, true, true, true, true, true, true, false, false, false, false, false, false, false, false, false, false, false, false, false, false, false] rfl rfl (any_of HT_.out (by kernel_rfl)) (fun _ _ _ h => h) (Or.inl ⟨by rfl, ?_⟩) ?_ ?_
   rotate_left
   ·intro w'
    go_simp
    with_reducible rfl
   rotate_left
   ·simp only [Act.put, List.setIfInBounds_toArray, List.set_cons_zero, List.set_cons_succ, i64_w, i32_w]
    rfl
   refine take_ (i := 8) (N := some 13) (v := ?_) (a' := ?_) #[true, true, true, true, true, true, true, true, true, false, false, false, false, false, false, false, false, false, false, false, false, false, false] rfl rfl (take_ofW HT_.out HW_.out (by kernel_rfl)) (fun _ _ _ h => h) (Or.inl ⟨by rfl, ?_⟩) hHeld ?_ ?_
   rotate_left
   ·rintro w' ⟨s0, s1, s2, s3, s4, s5⟩
    go_simp
    with_reducible rfl
   rotate_left
   ·simp only [Act.put, List.setIfInBounds_toArray, List.set_cons_zero, List.set_cons_succ, i64_w, i32_w]
    rfl
   refine pure_ (i := 9) (N := some 14) (v := ?_) (a' := ?_) #[true, true, true, true, true, true, true, true, true, true, false, false, false, false, false, false, false, false, false, false, false, false, false] rfl rfl (any_of HT_.out (by kernel_rfl)) (fun _ _ _ h => h) (Or.inl ⟨by rfl, ?_⟩) ?_ ?_
   rotate_left
   ·intro w'
    go_simp
    with_reducible rfl
   rotate_left
   ·simp only [Act.put, List.setIfInBounds_toArray, List.set_cons_zero, List.set_cons_succ, i64_w, i32_w]
    rfl
   refine pure_ (i := 10) (N := some 15) (v := ?_) (a' := ?_) #[true, true, true, true, true, true, true, true, true, true, true, false, false, false, false, false, false, false, false, false, false, false, false] rfl rfl (any_of HT_.out (by kernel_rfl)) (fun _ _ _ h => h) (Or.inl ⟨by rfl, ?_⟩) ?_ ?_
   rotate_left
   ·intro w'
    go_simp
    with_reducible rfl
   rotate_left
   ·simp only [Act.put, List.setIfInBounds_toArray, List.set_cons_zero, List.set_cons_succ, i64_w, i32_w]
    rfl
   refine pure_ (i := 11) (N := some 16) (v := ?_) (a' := ?_) #[true, true, true, true, true, true, true, true, true, true, true, true, false, false, false, false, false, false, false, false, false, false, false] rfl rfl (any_of HT_.out (by kernel_rfl)) (fun _ _ _ h => h) (Or.inl ⟨by rfl, ?_⟩) ?_ ?_
   rotate_left
   ·intro w'
    go_simp
    with_reducible rfl
   rotate_left
   ·simp only [Act.put, List.setIfInBounds_toArray, List.set_cons_zero, List.set_cons_succ, i64_w, i32_w]
    rfl
   refine pure_ (i := 12) (N := some 17) (v := undef) (a' := ?_) #[true, true, true, true, true, true, true, true, true, true, true, true, true, false, false, false, false, false, false, false, false, false, false] rfl rfl (any_of HT_.out (by kernel_rfl)) (fun _ _ _ h => h) (Or.inr ⟨by rfl, rfl⟩) ?_ ?_
   rotate_left
   ·simp only [Act.put, List.setIfInBounds_toArray, List.set_cons_zero, List.set_cons_succ, i64_w, i32_w]
    rfl
   refine pure_ (i := 13) (N := some 18) (v := undef) (a' := ?_) #[true, true, true, true, true, true, true, true, true, true, true, true, true, true, false, false, false, false, false, false, false, false, false] rfl rfl (any_of HT_.out (by kernel_rfl)) (fun _ _ _ h => h) (Or.inr ⟨by rfl, rfl⟩) ?_ ?_
   rotate_left
   ·simp only [Act.put, List.setIfInBounds_toArray, List.set_cons_zero, List.set_cons_succ, i64_w, i32_w]
    rfl
   refine pure_ (i := 14) (N := some 19) (v := undef) (a' := ?_) #[true, true, true, true, true, true, true, true, true, true, true, true, true, true, true, false, false, false, false, false, false, false, false] rfl rfl (any_of HT_.out (by kernel_rfl)) (fun _ _ _ h => h) (Or.inr ⟨by rfl, rfl⟩) ?_ ?_
   rotate_left
   ·simp only [Act.put, List.setIfInBounds_toArray, List.set_cons_zero, List.set_cons_succ, i64_w, i32_w]
    rfl
   refine pure_ (i := 15) (N := some 20) (v := undef) (a' := ?_) #[true, true, true, true, true, true, true, true, true, true, true, true, true, true, true, true, false, false, false, false, false, false, false] rfl rfl (any_of HT_.out (by kernel_rfl)) (fun _ _ _ h => h) (Or.inr ⟨by rfl, rfl⟩) ?_ ?_
   rotate_left
   ·simp only [Act.put, List.setIfInBounds_toArray, List.set_cons_zero, List.set_cons_succ, i64_w, i32_w]
    rfl
   refine pure_ (i := 16) (N := some 21) (v := undef) (a' := ?_) #[true, true, true, true, true, true, true, true, true, true, true, true, true, true, true, true, true, false, false, false, false, false, false] rfl rfl (any_of HT_.out (by kernel_rfl)) (fun _ _ _ h => h) (Or.inr ⟨by rfl, rfl⟩) ?_ ?_
   rotate_left
   ·simp only [Act.put, List.setIfInBounds_toArray, List.set_cons_zero, List.set_cons_succ, i64_w, i32_w]
    rfl
   refine pure_ (i := 17) (N := some 22) (v := undef) (a' := ?_) #[true, true, true, true, true, true, true, true, true, true, true, true, true, true, true, true, true, true, false, false, false, false, false] rfl rfl (any_of HT_.out (by kernel_rfl)) (fun _ _ _ h => h) (Or.inr ⟨by rfl, rfl⟩) ?_ ?_
   rotate_left
   ·simp only [Act.put, List.setIfInBounds_toArray, List.set_cons_zero, List.set_cons_succ, i64_w, i32_w]
    rfl
   refine pure_ (i := 18) (N := some 23) (v := undef) (a' := ?_) #[true, true, true, true, true, true, true, true, true, true, true, true, true, true, true, true, true, true, true, false, false, false, false] rfl rfl (any_of HT_.out (by kernel_rfl)) (fun _ _ _ h => h) (Or.inr ⟨by rfl, rfl⟩) ?_ ?_
   rotate_left
   ·simp only [Act.put, List.setIfInBounds_toArray, List.set_cons_zero, List.set_cons_succ, i64_w, i32_w]
    rfl
   refine pure_ (i := 19) (N := some 24) (v := undef) (a' := ?_) #[true, true, true, true, true, true, true, true, true, true, true, true, true, true, true, true, true, true, true, true, false, false, false] rfl rfl (any_of HT_.out (by kernel_rfl)) (fun _ _ _ h => h) (Or.inr ⟨by rfl, rfl⟩) ?_ ?_
   rotate_left
   ·simp only [Act.put, List.setIfInBounds_toArray, List.set_cons_zero, List.set_cons_succ, i64_w, i32_w]
    rfl
   refine pure_ (i := 20) (N := some 25) (v := undef) (a' := ?_) #[true, true, true, true, true, true, true, true, true, true, true, true, true, true, true, true, true, true, true, true, true, false, false] rfl rfl (any_of HT_.out (by kernel_rfl)) (fun _ _ _ h => h) (Or.inr ⟨by rfl, rfl⟩) ?_ ?_
   rotate_left
   ·simp only [Act.put, List.setIfInBounds_toArray, List.set_cons_zero, List.set_cons_succ, i64_w, i32_w]
    rfl
   refine pure_ (i := 21) (N := some 26) (v := ?_) (a' := ?_) #[true, true, true, true, true, true, true, true, true, true, true, true, true, true, true, true, true, true, true, true, true, true, false] rfl rfl (any_of HT_.out (by kernel_rfl)) (fun _ _ _ h => h) (Or.inl ⟨by rfl, ?_⟩) ?_ ?_
   rotate_left
   ·intro w'
    go_simp
    with_reducible rfl
   rotate_left
   ·simp only [Act.put, List.setIfInBounds_toArray, List.set_cons_zero, List.set_cons_succ, i64_w, i32_w]
    rfl
   refine pure_ (i := 22) (N := some 4) (v := ?_) (a' := ?_) #[true, true, true, true, true, true, true, true, true, true, true, true, true, true, true, true, true, true, true, true, true, true, true] rfl rfl (any_of HT_.out (by kernel_rfl)) (fun _ _ _ h => h) (Or.inl ⟨by rfl, ?_⟩) ?_ ?_
   rotate_left
   ·intro w'
    go_simp
    with_reducible rfl
   rotate_left
   ·simp only [Act.put, List.setIfInBounds_toArray, List.set_cons_zero, List.set_cons_succ, i64_w, i32_w]
    rfl
   refine done_ (done_of HT_.out (by kernel_rfl)) ?_
   try go_wp2
   go_ret
   exact ⟨zf, zm HB⟩
 ·rw [if_neg c4] at H
  have c4b0 : (t126 == 0) = false := beq_eq_false_iff_ne.mpr c4
  have c4b1 : (t126 != 0) = true := bne_iff_ne.mpr c4
  obtain rfl := Option.some.inj H
  go_enter Try.func18, Try.ntmps18
  try go_wp2_with (first | ((with_reducible refine gate_dst (N := 2) rfl ?_); (try (refine gate_guard (by rfl) ?_; dsimp only)); refine zE 2 #[.int .i64 a0_0, .int .i64 a0_1, .int .i64 a0_2, .int .i64 a0_3] 24 ?_; intro gb124 hg w15 hbox hb; have BK124 := za (hbox); have GW124 := zg HB hg; have GE124 := zg HB hg; replace HB := zs HB hb; clear hb hbox hg) | ((with_reducible refine gate_dst (N := 3) rfl ?_); (try (refine gate_guard (by rfl) ?_; dsimp only)); refine zE 3 #[.slice A1_0 l1_0.length c1_0, .bool a1_1] 27 ?_; intro gb125 hg w16 hbox hb; have BK125 := za (hbox); have GW125 := zg HB hg; have GE125 := zg HB hg; have NB124_125 := zl BK124 hg; have NB125_124 := zr BK124 hg; replace BK124 := zb BK124 hb; replace HB := zs HB hb; clear hb hbox hg))
  replace BK124 := za (blk_drew BK124.out)
  replace BK125 := za (blk_drew BK125.out)
  replace HB := za (below_drew1 HB.out)
  refine start_ (n := 23) (S := fun w' => w'.cell? ⟨gb124, 0, none⟩ = some (.int .i64 a0_0) ∧ w'.cell? ⟨gb124, 1, none⟩ = some (.int .i64 a0_1) ∧ w'.cell? ⟨gb124, 2, none⟩ = some (.int .i64 a0_2) ∧ w'.cell? ⟨gb124, 3, none⟩ = some (.int .i64 a0_3)) (ds := []) #[false, false, false, false, false, false, false, false, false, false, false, false, false, false, false, false, false, false, false, false, false, false, false] (by kernel_rfl) rfl rfl ⟨(blk_cell BK124.out 0).trans rfl, (blk_cell BK124.out 1).trans rfl, (blk_cell BK124.out 2).trans rfl, (blk_cell BK124.out 3).trans rfl⟩ (fun hHeld => ?_); refine with_tabW monitor_Valid.tab1 monitor_Valid.bits1 (fun HT_ HW_ => ?_)
  generalize w16.drew = w17 at BK124 BK125 HB hHeld ⊢
  refine take_ (i := 0) (N := some 5) (v := ?_) (a' := ?_) #[true, false, false, false, false, false, false, false, false, false, false, false, false, false, false, false, false, false, false, false, false, false, false] rfl rfl (take_ofW HT_.out HW_.out (by kernel_rfl)) (fun _ _ _ h => h) (Or.inl ⟨by rfl, ?_⟩) hHeld ?_ ?_
  rotate_left
  ·rintro w' ⟨s0, s1, s2, s3⟩
   go_simp
   with_reducible rfl
  rotate_left
  ·simp only [Act.put, List.setIfInBounds_toArray, List.set_cons_zero, List.set_cons_succ, i64_w, i32_w]
   rfl
  refine one_ (i := 1) (N := some 6) #[true, true, false, false, false, false, false, false, false, false, false, false, false, false, false, false, false, false, false, false, false, false, false] rfl rfl (one_of HT_.out (by kernel_rfl)) (by decide) (fun K hK => ?_)
  refine goes_ Try.func14 (by kernel_rfl) rfl #[.agg #[.int .i64 a0_0, .int .i64 a0_1, .int .i64 a0_2, .int .i64 a0_3]] (by rfl) rfl rfl (by (try simp only [List.map_toArray, List.map_cons, List.map_nil]); first | done | rfl | (simp only [List.length_drop, List.length_take]; rfl)) ?_
  with_reducible refine (monitor_Check.calls a0_0 a0_1 a0_2 a0_3 t126 _ A3.out).mono ?_
  rintro e w18 ⟨rfl, hb⟩
  refine ⟨_, rfl, ?_⟩
  replace BK124 := zb BK124 hb
  replace BK125 := zb BK125 hb
  replace HB := zs HB hb
  (try clear hb)
  (try clear hb2)
  (try clear hk)
  (try clear hi)
  refine hK.out _ _ ⟨(blk_cell BK124.out 0).trans rfl, (blk_cell BK124.out 1).trans rfl, (blk_cell BK124.out 2).trans rfl, (blk_cell BK124.out 3).trans rfl⟩ (fun hHeld => ?_)
  clear hK K
  refine norm_ (a' := ?_) ?_ ?_
  rotate_left
  ·show Act.put _ (some 6) _ = _
   simp only [Act.put, List.setIfInBounds_toArray, List.set_cons_zero, List.set_cons_succ, i64_w, i32_w]
   rfl
  refine pure_ (i := 2) (N := some 7) (v := ?_) (a' := ?_) #[true, true, true, false, false, false, false, false, false, false, false, false, false, false, false, false, false, false, false, false, false, false, false] rfl rfl (any_of HT_.out (by kernel_rfl)) (fun _ _ _ h => h) (Or.inl ⟨by rfl, ?_⟩) ?_ ?_
  rotate_left
  ·intro w'
   go_simp
   with_reducible rfl
  rotate_left
  ·simp only [Act.put, List.setIfInBounds_toArray, List.set_cons_zero, List.set_cons_succ, i64_w, i32_w]
   rfl
  refine pure_ (i := 3) (N := some 8) (v := ?_) (a' := ?_) #[true, true, true, true, false, false, false, false, false, false, false, false, false, false, false, false, false, false, false, false, false, false, false] rfl rfl (any_of HT_.out (by kernel_rfl)) (fun _ _ _ h => h) (Or.inl ⟨by rfl, ?_⟩) ?_ ?_
  rotate_left
  ·intro w'
   go_simp
   with_reducible rfl
  rotate_left
  ·simp only [Act.put, List.setIfInBounds_toArray, List.set_cons_zero, List.set_cons_succ, i64_w, i32_w]
   rfl
  refine pure_ (i := 4) (N := some 9) (v := undef) (a' := ?_) #[true, true, true, true, true, false, false, false, false, false, false, false, false, false, false, false, false, false, false, false, false, false, false] rfl rfl (any_of HT_.out (by kernel_rfl)) (fun _ _ _ h => h) (Or.inr ⟨by rfl, rfl⟩) ?_ ?_
  rotate_left
  ·simp only [Act.put, List.setIfInBounds_toArray, List.set_cons_zero, List.set_cons_succ, i64_w, i32_w]
   rfl
  refine pure_ (i := 5) (N := some 10) (v := undef) (a' := ?_) #[true, true, true, true, true, true, false, false, false, false, false, false, false, false, false, false, false, false, false, false, false, false, false] rfl rfl (any_of HT_.out (by kernel_rfl)) (fun _ _ _ h => h) (Or.inr ⟨by rfl, rfl⟩) ?_ ?_
  rotate_left
  ·simp only [Act.put, List.setIfInBounds_toArray, List.set_cons_zero, List.set_cons_succ, i64_w, i32_w]
   rfl
  refine pure_ (i := 6) (N := some 11) (v := undef) (a' := ?_) #[true, true, true, true, true, true, true, false, false, false, false, false, false, false, false, false, false, false, false, false, false, false, false] rfl rfl (any_of HT_.out (by kernel_rfl)) (fun _ _ _ h => h) (Or.inr ⟨by rfl, rfl⟩) ?_ ?_
  rotate_left
  ·simp only [Act.put, List.setIfInBounds_toArray, List.set_cons_zero, List.set_cons_succ, i64_w, i32_w]
   rfl
  refine pure_ (i := 7) (N := some 12) (v := undef) (a' := ?_) #[true, true, true, true, true, true, true, true, false, false, false, false, false, false, false, false, false, false, false, false, false, false, false] rfl rfl (any_of HT_.out (by kernel_rfl)) (fun _ _ _ h => h) (Or.inr ⟨by rfl, rfl⟩) ?_ ?_
  rotate_left
  ·simp only [Act.put, List.setIfInBounds_toArray, List.set_cons_zero, List.set_cons_succ, i64_w, i32_w]
   rfl
  refine pure_ (i := 8) (N := some 13) (v := undef) (a' := ?_) #[true, true, true, true, true, true, true, true, true, false, false, false, false, false, false, false, false, false, false, false, false, false, false] rfl rfl (any_of HT_.out (by kernel_rfl)) (fun _ _ _ h => h) (Or.inr ⟨by rfl, rfl⟩) ?_ ?_
  rotate_left
  ·simp only [Act.put, List.setIfInBounds_toArray, List.set_cons_zero, List.set_cons_succ, i64_w, i32_w]
   rfl
  refine pure_ (i := 9) (N := some 14) (v := undef) (a' := ?_) #[true, true, true, true, true, true, true, true, true, true, false, false, false, false, false, false, false, false, false, false, false, false, false] rfl rfl (any_of HT_.out (by kernel_rfl)) (fun _ _ _ h => h) (Or.inr ⟨by rfl, rfl⟩) ?_ ?_
  rotate_left
  ·simp only [Act.put, List.setIfInBounds_toArray, List.set_cons_zero, List.set_cons_succ, i64_w, i32_w]
   rfl
  refine pure_ (i := 10) (N := some 15) (v := ?_) (a' := ?_) #[true, true, true, true, true, true, true, true, true, true, true, false, false, false, false, false, false, false, false, false, false, false, false] rfl rfl (any_of HT_.out (by kernel_rfl)) (fun _ _ _ h => h) (Or.inl ⟨by rfl, ?_⟩) ?_ ?_
  rotate_left
  ·intro w'
   go_simp
   with_reducible rfl
  rotate_left
  ·simp only [Act.put, List.setIfInBounds_toArray, List.set_cons_zero, List.set_cons_succ, i64_w, i32_w]
   rfl
  refine pure_ (i := 11) (N := some 16) (v := ?_) (a' := ?_) #[true, true, true, true, true, true, true, true, true, true, true, true, false, false, false, false, false, false, false, false, false, false, false] rfl rfl (any_of HT_.out (by kernel_rfl)) (fun _ _ _ h => h) (Or.inl ⟨by rfl, ?_⟩) ?_ ?_
  rotate_left
  ·intro w'
   go_simp
   with_reducible rfl
  rotate_left
  ·simp only [Act.put, List.setIfInBounds_toArray, List.set_cons_zero, List.set_cons_succ, i64_w, i32_w]
   rfl
  refine pure_ (i := 12) (N := some 17) (v := undef) (a' := ?_) #[true, true, true, true, true, true, true, true, true, true, true, true, true, false, false, false, false, false, false, false, false, false, false] rfl rfl (any_of HT_.out (by kernel_rfl)) (fun _ _ _ h => h) (Or.inr ⟨by rfl, rfl⟩) ?_ ?_
  rotate_left
  ·simp only [Act.put, List.setIfInBounds_toArray, List.set_cons_zero, List.set_cons_succ, i64_w, i32_w]
   rfl
  refine pure_ (i := 13) (N := some 18) (v := undef) (a' := ?_) #[true, true, true, true, true, true, true, true, true, true, true, true, true, true, false, false, false, false, false, false, false, false, false] rfl rfl (any_of HT_.out (by kernel_rfl)) (fun _ _ _ h => h) (Or.inr ⟨by rfl, rfl⟩) ?_ ?_
  rotate_left
  ·simp only [Act.put, List.setIfInBounds_toArray, List.set_cons_zero, List.set_cons_succ, i64_w, i32_w]
   rfl
  refine pure_ (i := 14) (N := some 19) (v := undef) (a' := ?_) #[true, true, true, true, true, true, true, true, true, true, true, true, true, true, true, false, false, false, false, false, false, false, false] rfl rfl (any_of HT_.out (by kernel_rfl)) (fun _ _ _ h => h) (Or.inr ⟨by rfl, rfl⟩) ?_ ?_
  rotate_left
  ·simp only [Act.put, List.setIfInBounds_toArray, List.set_cons_zero, List.set_cons_succ, i64_w, i32_w]
   rfl
  refine pure_ (i := 15) (N := some 20) (v := undef) (a' := ?_) #[true, true, true, true, true, true, true, true, true, true, true, true, true, true, true, true, false, false, false, false, false, false, false] rfl rfl (any_of HT_.out (by kernel_rfl)) (fun _ _ _ h => h) (Or.inr ⟨by rfl, rfl⟩) ?_ ?_
  rotate_left
  ·simp only [Act.put, List.setIfInBounds_toArray, List.set_cons_zero, List.set_cons_succ, i64_w, i32_w]
   rfl
  refine pure_ (i := 16) (N := some 21) (v := undef) (a' := ?_) #[true, true, true, true, true, true, true, true, true, true, true, true, true, true, true, true, true, false, false, false, false, false, false] rfl rfl (any_of HT_.out (by kernel_rfl)) (fun _ _ _ h => h) (Or.inr ⟨by rfl, rfl⟩) ?_ ?_
  rotate_left
  ·simp only [Act.put, List.setIfInBounds_toArray, List.set_cons_zero, List.set_cons_succ, i64_w, i32_w]
   rfl
  refine pure_ (i := 17) (N := some 22) (v := undef) (a' := ?_) #[true, true, true, true, true, true, true, true, true, true, true, true, true, true, true, true, true, true, false, false, false, false, false] rfl rfl (any_of HT_.out (by kernel_rfl)) (fun _ _ _ h => h) (Or.inr ⟨by rfl, rfl⟩) ?_ ?_
  rotate_left
  ·simp only [Act.put, List.setIfInBounds_toArray, List.set_cons_zero, List.set_cons_succ, i64_w, i32_w]
   rfl
  refine pure_ (i := 18) (N := some 23) (v := undef) (a' := ?_) #[true, true, true, true, true, true, true, true, true, true, true, true, true, true, true, true, true, true, true, false, false, false, false] rfl rfl (any_of HT_.out (by kernel_rfl)) (fun _ _ _ h => h) (Or.inr ⟨by rfl, rfl⟩) ?_ ?_
  rotate_left
  ·simp only [Act.put, List.setIfInBounds_toArray, List.set_cons_zero, List.set_cons_succ, i64_w, i32_w]
   rfl
  refine pure_ (i := 19) (N := some 24) (v := undef) (a' := ?_) #[true, true, true, true, true, true, true, true, true, true, true, true, true, true, true, true, true, true, true, true, false, false, false] rfl rfl (any_of HT_.out (by kernel_rfl)) (fun _ _ _ h => h) (Or.inr ⟨by rfl, rfl⟩) ?_ ?_
  rotate_left
  ·simp only [Act.put, List.setIfInBounds_toArray, List.set_cons_zero, List.set_cons_succ, i64_w, i32_w]
   rfl
  refine pure_ (i := 20) (N := some 25) (v := undef) (a' := ?_) #[true, true, true, true, true, true, true, true, true, true, true, true, true, true, true, true, true, true, true, true, true, false, false] rfl rfl (any_of HT_.out (by kernel_rfl)) (fun _ _ _ h => h) (Or.inr ⟨by rfl, rfl⟩) ?_ ?_
  rotate_left
  ·simp only [Act.put, List.setIfInBounds_toArray, List.set_cons_zero, List.set_cons_succ, i64_w, i32_w]
   rfl
  refine pure_ (i := 21) (N := some 26) (v := ?_) (a' := ?_) #[true, true, true, true, true, true, true, true, true, true, true, true, true, true, true, true, true, true, true, true, true, true, false] rfl rfl (any_of HT_.out (by kernel_rfl)) (fun _ _ _ h => h) (Or.inl ⟨by rfl, ?_⟩) ?_ ?_
  rotate_left
  ·intro w'
   go_simp
   with_reducible rfl
  rotate_left
  ·simp only [Act.put, List.setIfInBounds_toArray, List.set_cons_zero, List.set_cons_succ, i64_w, i32_w]
   rfl
  refine pure_ (i := 22) (N := some 4) (v := ?_) (a' := ?_) #[true, true, true, true, true, true, true, true, true, true, true, true, true, true, true, true, true, true, true, true, true, true, true] rfl rfl (any_of HT_.out (by kernel_rfl)) (fun _ _ _ h => h) (Or.inl ⟨by rfl, ?_⟩) ?_ ?_
  rotate_left
  ·intro w'
   go_simp
   with_reducible rfl
  rotate_left
  ·simp only [Act.put, List.setIfInBounds_toArray, List.set_cons_zero, List.set_cons_succ, i64_w, i32_w]
   rfl
  refine done_ (done_of HT_.out (by kernel_rfl)) ?_
  try go_wp2
  go_ret
  exact ⟨zf, zm HB⟩

/-! ### slices_Clone_bool_bool: function 32 -/
def slices_Clone_bool_bool.f (l0 : List Bool) : Option (List Bool) := (some (([] : List Bool) : List Bool)).bind fun y128 => (if y128.length + l0.length < 140737488355328 then (some (y128 ++ l0)) else (none))
theorem slices_Clone_bool_bool.isnil {P : Program} (w : World) {t e : TypeId} (n c : Nat) (ht : P.underlying t = some (.slice e)) : (binOp .eql t (.slice none n c) (.slice none 0 0)).run P w = .ok (.bool true) w := by
  have h : ∀ d : Nat, (Op.equalIn (d + 1) t (.slice none n c) (.slice none 0 0)).run P w = .ok true w := fun d => by
    simp [Op.equalIn, run_underlying ht]
  simp only [binOp]
  simp [Op.equal, Op.maxDepth, h 9999]
theorem slices_Clone_bool_bool.nonil {P : Program} (w : World) {t e : TypeId} (a : Addr) (n c : Nat) (ht : P.underlying t = some (.slice e)) : (binOp .eql t (.slice (some a) n c) (.slice none 0 0)).run P w = .ok (.bool false) w := by
  have h : ∀ d : Nat, (Op.equalIn (d + 1) t (.slice (some a) n c) (.slice none 0 0)).run P w = .ok false w := fun d => by
    simp [Op.equalIn, run_underlying ht]
  simp only [binOp]
  simp [Op.equal, Op.maxDepth, h 9999]
set_option maxHeartbeats 8000000 in
set_option maxRecDepth 100000 in
theorem slices_Clone_bool_bool.calls (A0 : Option Addr) (c0 : Nat) (l0 : List Bool) (r : List Bool) (w : World) (hr0 : Kd.C Kd.bool w A0 l0.length l0) (hc0 : l0.length ≤ c0) (h : slices_Clone_bool_bool.f l0 = some r) :
    Calls Try.prog 32 #[.slice A0 l0.length c0] w fun e w' => ∃ v0_ : Value, e = .returned (v0_) ∧ Kd.R Kd.bool 4 w' w.heap.size (fun _ => True) v0_ r ∧ Below w.heap.size w w' := by
 by_cases hn_ : A0 = none
 ·subst hn_
  have hz_ : l0 = [] := by
   cases l0 with
   | nil => rfl
   | cons x xs => obtain ⟨ad, h_, _⟩ := hr0.2.2 (by simp); cases h_
  subst hz_
  have hr_ : ([] : List Bool) = r := by simpa [slices_Clone_bool_bool.f] using h
  subst hr_
  have he_ := fun W n => slices_Clone_bool_bool.isnil (P := Try.prog) W n c0 Try.underlying25
  clear h hr0 hc0
  go_enter Try.func32, Try.ntmps32
  go_wp2
  go_ret
  exact ⟨_, rfl, Kd.R_nil _ _ _ _ _, Below.refl _ _⟩
 have he_ : ∀ W, (binOp .eql 25 (.slice A0 l0.length c0) (.slice none 0 0)).run Try.prog W = .ok (.bool false) W := by
  obtain ⟨ad_, rfl⟩ := Option.ne_none_iff_exists'.1 hn_
  exact fun W => slices_Clone_bool_bool.nonil W ad_ _ _ Try.underlying25
 clear hn_
 have HR0 := za hr0
 have HC0 := za hc0
 clear hr0 hc0
 have HB := za (Below.refl w.heap.size w)
 have H : ((some (([] : List Bool) : List Bool)).bind fun y128 => (if y128.length + l0.length < 140737488355328 then (some (y128 ++ l0)) else (none))) = some r := h
 clear h
 obtain ⟨y128, hy128⟩ : ∃ y_ : List Bool, y_ = (([] : List Bool)) := ⟨_, rfl⟩
 replace H : (if y128.length + l0.length < 140737488355328 then (some (y128 ++ l0)) else (none)) = some r := by first | (rw [hy128]; with_reducible exact H) | (have H2_ := (Option.bind_some _ _).symm.trans H; rw [hy128]; with_reducible exact H2_) | (have H2_ := (Option.bind_some _ _).symm.trans H; with_reducible exact H2_) | with_reducible exact H | (rw [hy128]; exact H) | exact H
 have Ny128 := za hy128
 clear hy128
 by_cases c2 : y128.length + l0.length < 140737488355328
 ·rw [if_pos c2] at H
  have LMc2 := za c2
  clear c2
  obtain ⟨y131, hy131⟩ : ∃ y_ : List Bool, y_ = (y128 ++ l0) := ⟨_, rfl⟩
  replace H : (some y131) = some r := by first | (rw [hy131]; with_reducible exact H) | (have H2_ := (Option.bind_some _ _).symm.trans H; rw [hy131]; with_reducible exact H2_) | (have H2_ := (Option.bind_some _ _).symm.trans H; with_reducible exact H2_) | with_reducible exact H | (rw [hy131]; exact H) | exact H
  have Ny131 := za hy131
  clear hy131
  obtain rfl := Option.some.inj H
  go_enter Try.func32, Try.ntmps32
  go_wp2_with (first | ((with_reducible refine gate_dst (N := 5) rfl ?_); refine Kd.R_lit Kd.bool _ 4 ?hg (N := 5) ?hd (xs := ([] : List Bool)) (inner := []) (ok := fun _ => True) (okp := fun _ => True) ?hr ?hp (fun _ hk => hk) trivial (Below.refl _ _) (Nat.le_refl _) (by simp) ?_; (case hd => rfl); (case hg => rfl); (case hr => first | (go_simp; done) | (go_simp; rfl)); (case hp => exact (Reps.none _ _)); intro v129 w3 ho4 hb hg_ hnew_; clear hg_ hnew_; (first | rw [← Ny128.out] at ho4 | (simp only [Int.reduceToNat] at ho4; rw [← Ny128.out] at ho4)); have HO130 := za (Kd.R_lower ho4 (below_size (zm HB))); replace HB := zs HB hb; clear hb ho4) | ((with_reducible refine gate_builtin (b := .append) (xs := #[.tmp 5, .tmp 6]) rfl ?_); at_builtin; refine Kd.R_append_rows Kd.bool (w0 := w) w.heap.size rfl (.tmp 5) (.tmp 6) 25 4 (.bool false) 1 rfl Try.underlying25 info4 rfl (by decide) (by omega) v129 y128 l0 _ _ _ (fun _ => True) (fun _ => False) rfl rfl ?aO ?aR (fun _ _ h => h) (fun _ h => h.elim) ?aF ?aB ?aS ?aL ?_; (case aR => exact zC HR0 HB); (case aB => exact (zm HB)); (case aF => exact (fun _ _ => trivial)); (case aO => exact (by (with_reducible repeat (first | apply Kd.R_alloc | apply Kd.R_drewN | apply Kd.R_drew)); exact HO130.out)); (case aS => exact (below_size (zm HB))); (case aL => have := LMc2.out; omega); intro v132 w5 ho hb hg hat; rw [← Ny131.out] at ho; have HO133 := za (ho); replace HB := za (hb); clear HO130 ho hb hg hat))
  go_ret
  exact ⟨_, zf, by (with_reducible repeat (first | apply Kd.R_alloc | apply Kd.R_drewN | apply Kd.R_drew)); exact HO133.out, zm HB⟩
 ·rw [if_neg c2] at H
  exact absurd H (by simp)

/-! ### monitor_Step: function 23 -/
def monitor_Step.f (k : Nat) (a0_0 : Int) (a0_1 : Int) (a0_2 : Int) (a0_3 : Int) (l1_0 : List Bool) (a1_1 : Bool) (a2 : Bool) : Option (List Bool × Bool × Int) := (monitor_Valid.f k a0_0 a0_1 a0_2 a0_3 l1_0 a1_1).bind fun t137 => (if t137 = true then (if a1_1 = true then (some (([] : List Bool), false, 8)) else ((slices_Clone_bool_bool.f l1_0).bind fun t138 => (if t138.length < 140737488355328 then ((some (t138 ++ [a2] : List Bool)).bind fun y141 => (if 0 ≤ (mx 0 (wrap64 ((y141.length : Int) - a0_2))) then (if (mx 0 (wrap64 ((y141.length : Int) - a0_2))) ≤ (y141.length : Int) then ((some (y141.drop ((mx 0 (wrap64 ((y141.length : Int) - a0_2))) : Int).toNat : List Bool)).bind fun y144 => ((monitor_fails.f k y144).bind fun t147 => (some (y144, decide (t147 ≥ a0_3), 0)))) else (none)) else (none))) else (none)))) else (some (([] : List Bool), false, 1)))
theorem monitor_Step.mono : ∀ a0 a1 a2 a3 a4 a5 a6 k, LeO (monitor_Step.f k a0 a1 a2 a3 a4 a5 a6) (monitor_Step.f (k + 1) a0 a1 a2 a3 a4 a5 a6) := by
  intro a0 a1 a2 a3 a4 a5 a6 k
  unfold monitor_Step.f
  repeat' first
      | (with_reducible exact monitor_Valid.mono _ _ _ _ _ _ _)
      | (with_reducible exact monitor_fails.mono _ _)
      | (with_reducible exact LeO.refl _)
      | (with_reducible exact LeO.none _)
      | (with_reducible refine LeO.ite ?_ ?_)
      | (with_reducible refine LeO.bind ?_ (fun _ => ?_))
      | exact monitor_Valid.mono _ _ _ _ _ _ _
      | exact monitor_fails.mono _ _
      | exact LeO.none _
      | refine LeO.ite ?_ ?_
      | refine LeO.bind ?_ (fun _ => ?_)
def monitor_Step.T7 : Bool × List (List Nat × List Nat) := (true, [([], []), ([], []), ([1], [1]), ([], []), ([3], [3]), ([2, 4], [2, 4]), ([0, 5], [0, 5]), ([6, 2, 0, 1, 2, 3, 4, 5, 6], [6]), ([7, 0, 1, 2, 3, 4, 5, 6, 7], [])])
def monitor_Step.B7 : List Nat := [0, 0, 2, 0, 8, 30, 63, 127, 255]
theorem monitor_Step.tab7 : rtab .any (opsOf Try.f23 7) = monitor_Step.T7 := by kernel_rfl
theorem monitor_Step.bits7 : waitsOk monitor_Step.T7.2 monitor_Step.B7 = true := by kernel_rfl
set_option maxHeartbeats 8000000 in
set_option maxRecDepth 100000 in
theorem monitor_Step.calls (k : Nat) (a0_0 : Int) (a0_1 : Int) (a0_2 : Int) (a0_3 : Int) (A1_0 : Option Addr) (c1_0 : Nat) (l1_0 : List Bool) (a1_1 : Bool) (a2 : Bool) (r1 : List Bool) (r2 : Bool) (r3 : Int) (w : World) (hr1_0 : Kd.C Kd.bool w A1_0 l1_0.length l1_0) (hc1_0 : l1_0.length ≤ c1_0) (h : monitor_Step.f k a0_0 a0_1 a0_2 a0_3 l1_0 a1_1 a2 = some (r1, r2, r3)) :
    Calls Try.prog 23 #[.agg #[.int .i64 a0_0, .int .i64 a0_1, .int .i64 a0_2, .int .i64 a0_3], .agg #[.slice A1_0 l1_0.length c1_0, .bool a1_1], .bool a2] w fun e w' => ∃ v0_ : Value, e = .returned (.tuple #[.agg #[v0_, .bool r2], .int .i64 r3]) ∧ Kd.Q Kd.bool 4 w' w.heap.size (fun _ => True) v0_ r1 ∧ Below w.heap.size w w' := by
 have hu24 := Try.underlying24
 have hu27 := Try.underlying27
 have HR1_0 := za hr1_0
 have HC1_0 := za hc1_0
 clear hr1_0 hc1_0
 have HB := za (Below.refl w.heap.size w)
 have H : ((monitor_Valid.f k a0_0 a0_1 a0_2 a0_3 l1_0 a1_1).bind fun t137 => (if t137 = true then (if a1_1 = true then (some (([] : List Bool), false, 8)) else ((slices_Clone_bool_bool.f l1_0).bind fun t138 => (if t138.length < 140737488355328 then ((some (t138 ++ [a2] : List Bool)).bind fun y141 => (if 0 ≤ (mx 0 (wrap64 ((y141.length : Int) - a0_2))) then (if (mx 0 (wrap64 ((y141.length : Int) - a0_2))) ≤ (y141.length : Int) then ((some (y141.drop ((mx 0 (wrap64 ((y141.length : Int) - a0_2))) : Int).toNat : List Bool)).bind fun y144 => ((monitor_fails.f k y144).bind fun t147 => (some (y144, decide (t147 ≥ a0_3), 0)))) else (none)) else (none))) else (none)))) else (some (([] : List Bool), false, 1)))) = some (r1, r2, r3) := h
 clear h
 replace H := Option.bind_eq_some_iff.mp H
 obtain ⟨t137, A40, H⟩ := H
 replace H : (if t137 = true then (if a1_1 = true then (some (([] : List Bool), false, 8)) else ((slices_Clone_bool_bool.f l1_0).bind fun t138 => (if t138.length < 140737488355328 then ((some (t138 ++ [a2] : List Bool)).bind fun y141 => (if 0 ≤ (mx 0 (wrap64 ((y141.length : Int) - a0_2))) then (if (mx 0 (wrap64 ((y141.length : Int) - a0_2))) ≤ (y141.length : Int) then ((some (y141.drop ((mx 0 (wrap64 ((y141.length : Int) - a0_2))) : Int).toNat : List Bool)).bind fun y144 => ((monitor_fails.f k y144).bind fun t147 => (some (y144, decide (t147 ≥ a0_3), 0)))) else (none)) else (none))) else (none)))) else (some (([] : List Bool), false, 1))) = some (r1, r2, r3) := H
 have A4 := za A40
 clear A40
 by_cases c5 : t137 = true
 ·subst c5
  have H1 : (if a1_1 = true then (some (([] : List Bool), false, 8)) else ((slices_Clone_bool_bool.f l1_0).bind fun t138 => (if t138.length < 140737488355328 then ((some (t138 ++ [a2] : List Bool)).bind fun y141 => (if 0 ≤ (mx 0 (wrap64 ((y141.length : Int) - a0_2))) then (if (mx 0 (wrap64 ((y141.length : Int) - a0_2))) ≤ (y141.length : Int) then ((some (y141.drop ((mx 0 (wrap64 ((y141.length : Int) - a0_2))) : Int).toNat : List Bool)).bind fun y144 => ((monitor_fails.f k y144).bind fun t147 => (some (y144, decide (t147 ≥ a0_3), 0)))) else (none)) else (none))) else (none)))) = some (r1, r2, r3) := by rw [if_pos rfl] at H; exact H
  clear H
  have H := H1
  clear H1
  by_cases c6 : a1_1 = true
  ·subst c6
   have H1 : (some (([] : List Bool), false, 8)) = some (r1, r2, r3) := by rw [if_pos rfl] at H; exact H
   clear H
   have H := H1
   clear H1
   simp only [Option.some.injEq, Prod.mk.injEq] at H
   obtain ⟨rfl, rfl, rfl⟩ := H
   go_enter Try.func23, Try.ntmps23
   go_wp2_with (first | ((with_reducible refine gate_dst (N := 3) rfl ?_); refine zE 3 #[.int .i64 a0_0, .int .i64 a0_1, .int .i64 a0_2, .int .i64 a0_3] 24 ?_; intro gb134 hg w7 hbox hb; have BK134 := za (hbox); have GW134 := zg HB hg; have GE134 := zg HB hg; replace HB := zs HB hb; clear hb hbox hg) | ((with_reducible refine gate_dst (N := 4) rfl ?_); refine zE 4 #[.slice A1_0 l1_0.length c1_0, .bool true] 27 ?_; intro gb135 hg w8 hbox hb; have BK135 := za (hbox); have GW135 := zg HB hg; have GE135 := zg HB hg; have NB134_135 := zl BK134 hg; have NB135_134 := zr BK134 hg; replace BK134 := zb BK134 hb; replace HB := zs HB hb; clear hb hbox hg) | ((with_reducible refine gate_dst (N := 6) rfl ?_); refine zE 6 #[.slice none 0 0, .bool false] 27 ?_; intro gb136 hg w9 hbox hb; have BK136 := za (hbox); have GW136 := zg HB hg; have GE136 := zg HB hg; have NB134_136 := zl BK134 hg; have NB136_134 := zr BK134 hg; have NB135_136 := zl BK135 hg; have NB136_135 := zr BK135 hg; replace BK134 := zb BK134 hb; replace BK135 := zb BK135 hb; replace HB := zs HB hb; clear hb hbox hg; have hnb10 := NB134_135.out; have hnc10 := NB135_134.out; have hnb11 := NB134_136.out; have hnc11 := NB136_134.out; obtain ⟨hcz12_0, hcz12_1, hcz12_2, hcz12_3, hfz12_0, hfz12_1, hfz12_2, hfz12_3⟩ := z4 BK134; have hnb13 := NB135_136.out; have hnc13 := NB136_135.out; obtain ⟨hcz14_0, hcz14_1, hfz14_0, hfz14_1⟩ := z2 BK135) | ((with_reducible refine gate_callee (f := 18) rfl ?_); refine zL (some 12) Try.func18 #[.agg #[.int .i64 a0_0, .int .i64 a0_1, .int .i64 a0_2, .int .i64 a0_3], .agg #[.slice A1_0 l1_0.length c1_0, .bool true]] ?_; (with_reducible refine (monitor_Valid.calls k a0_0 a0_1 a0_2 a0_3 _ _ l1_0 true true _ ?side1 ?side2 A4.out).mono ?_); (case side1 => exact zC HR1_0 HB); (case side2 => exact HC1_0.out); rintro e w15 ⟨rfl, hb⟩; refine ⟨_, rfl, ?_⟩; replace BK134 := zb BK134 hb; replace BK135 := zb BK135 hb; replace BK136 := zb BK136 hb; replace HB := zs HB hb; (try clear hb); (try clear hb2); (try clear hk); (try clear hi); obtain ⟨hcz16_0, hcz16_1, hfz16_0, hfz16_1⟩ := z2 BK135; obtain ⟨hcz17_0, hcz17_1, hfz17_0, hfz17_1⟩ := z2 BK136))
   refine bodyPost_ret (results_ct rfl _ _ gb136 27 #[.slice none 0 0, .bool false] (0, 0) _ rfl (by (with_reducible repeat (first | refine blk_drewN ?_ _ | refine blk_drew ?_ | refine blk_alloc ?_ _)); refine blk_put (cs := #[.slice none 0 0, .bool false]) ?_ 1 _ rfl; (with_reducible repeat (first | refine blk_drewN ?_ _ | refine blk_drew ?_ | refine blk_alloc ?_ _)); refine blk_put (cs := #[.slice none 0 0, .bool false]) ?_ 0 _ rfl; (with_reducible repeat (first | refine blk_drewN ?_ _ | refine blk_drew ?_ | refine blk_alloc ?_ _)); exact BK136.out) Try.underlying27 rfl (by kernel_rfl)) rfl ?_
   exact ⟨_, zf, Kd.Q_of_R (by first | exact Kd.R_nil _ _ _ _ _ | exact Kd.N_nil _ _ _ _ _ | exact Kd.V_nil _ _ _ _ _ | exact Kd.Q_nil _ _ _ _ _ | exact Kd.S_nil _ _ _ _ _), zm HB⟩
  ·replace c6 := Bool.eq_false_iff.mpr c6
   subst c6
   have H1 : ((slices_Clone_bool_bool.f l1_0).bind fun t138 => (if t138.length < 140737488355328 then ((some (t138 ++ [a2] : List Bool)).bind fun y141 => (if 0 ≤ (mx 0 (wrap64 ((y141.length : Int) - a0_2))) then (if (mx 0 (wrap64 ((y141.length : Int) - a0_2))) ≤ (y141.length : Int) then ((some (y141.drop ((mx 0 (wrap64 ((y141.length : Int) - a0_2))) : Int).toNat : List Bool)).bind fun y144 => ((monitor_fails.f k y144).bind fun t147 => (some (y144, decide (t147 ≥ a0_3), 0)))) else (none)) else (none))) else (none))) = some (r1, r2, r3) := by rw [if_neg (show ¬ (false = true) by decide)] at H; exact H
   clear H
   have H := H1
   clear H1
   replace H := Option.bind_eq_some_iff.mp H
   obtain ⟨t138, A180, H⟩ := H
   replace H : (if t138.length < 140737488355328 then ((some (t138 ++ [a2] : List Bool)).bind fun y141 => (if 0 ≤ (mx 0 (wrap64 ((y141.length : Int) - a0_2))) then (if (mx 0 (wrap64 ((y141.length : Int) - a0_2))) ≤ (y141.length : Int) then ((some (y141.drop ((mx 0 (wrap64 ((y141.length : Int) - a0_2))) : Int).toNat : List Bool)).bind fun y144 => ((monitor_fails.f k y144).bind fun t147 => (some (y144, decide (t147 ≥ a0_3), 0)))) else (none)) else (none))) else (none)) = some (r1, r2, r3) := H
   have A18 := za A180
   clear A180
   by_cases c19 : t138.length < 140737488355328
   ·rw [if_pos c19] at H
    have LMc19 := za c19
    clear c19
    obtain ⟨y141, hy141⟩ : ∃ y_ : List Bool, y_ = (t138 ++ [a2]) := ⟨_, rfl⟩
    replace H : (if 0 ≤ (mx 0 (wrap64 ((y141.length : Int) - a0_2))) then (if (mx 0 (wrap64 ((y141.length : Int) - a0_2))) ≤ (y141.length : Int) then ((some (y141.drop ((mx 0 (wrap64 ((y141.length : Int) - a0_2))) : Int).toNat : List Bool)).bind fun y144 => ((monitor_fails.f k y144).bind fun t147 => (some (y144, decide (t147 ≥ a0_3), 0)))) else (none)) else (none)) = some (r1, r2, r3) := by first | (rw [hy141]; with_reducible exact H) | (have H2_ := (Option.bind_some _ _).symm.trans H; rw [hy141]; with_reducible exact H2_) | (have H2_ := (Option.bind_some _ _).symm.trans H; with_reducible exact H2_) | with_reducible exact H | (rw [hy141]; exact H) | exact H
    have Ny141 := za hy141
    clear hy141
    obtain ⟨ji20, hji20⟩ : ∃ j_ : Int, (mx 0 (wrap64 ((y141.length : Int) - a0_2))) = j_ := ⟨_, rfl⟩
    replace H : (if 0 ≤ (ji20) then (if (ji20) ≤ (y141.length : Int) then ((some (y141.drop ((ji20) : Int).toNat : List Bool)).bind fun y144 => ((monitor_fails.f k y144).bind fun t147 => (some (y144, decide (t147 ≥ a0_3), 0)))) else (none)) else (none)) = some (r1, r2, r3) := by first | (rw [hji20] at H; exact H) | (simp only [hji20] at H ⊢; exact H)
    (try rw [hji20] at A4)
    (try rw [hji20] at A18)
    (try (have hji20l : 0 ≤ ji20 := by (rw [← hji20]; unfold mx; (repeat' split) <;> omega)))
    (try (have hji20m : 0 ≤ ji20 := by omega))
    have hji20_ : (if 0 < (wrap64 ((y141.length : Int) - a0_2)) then (wrap64 ((y141.length : Int) - a0_2)) else 0) = ji20 := hji20
    by_cases c21 : 0 ≤ (ji20)
    ·rw [if_pos c21] at H
     have c21b0 := eq_true c21
     have c21b1 : decide (0 ≤ (ji20)) = true := decide_eq_true c21
     clear c21
     by_cases c22 : (ji20) ≤ (y141.length : Int)
     ·rw [if_pos c22] at H
      have c22b0 := eq_true c22
      have c22b1 : decide ((ji20) ≤ (y141.length : Int)) = true := decide_eq_true c22
      clear c22
      obtain ⟨y144, hy144⟩ : ∃ y_ : List Bool, y_ = (y141.drop ((ji20) : Int).toNat) := ⟨_, rfl⟩
      replace H : ((monitor_fails.f k y144).bind fun t147 => (some (y144, decide (t147 ≥ a0_3), 0))) = some (r1, r2, r3) := by first | (rw [hy144]; with_reducible exact H) | (have H2_ := (Option.bind_some _ _).symm.trans H; rw [hy144]; with_reducible exact H2_) | (have H2_ := (Option.bind_some _ _).symm.trans H; with_reducible exact H2_) | with_reducible exact H | (rw [hy144]; exact H) | exact H
      have Ny144 := za hy144
      clear hy144
      replace H := Option.bind_eq_some_iff.mp H
      obtain ⟨t147, A230, H⟩ := H
      replace H : (some (y144, decide (t147 ≥ a0_3), 0)) = some (r1, r2, r3) := H
      have A23 := za A230
      clear A230
      simp only [Option.some.injEq, Prod.mk.injEq] at H
      obtain ⟨rfl, rfl, rfl⟩ := H
      go_enter Try.func23, Try.ntmps23
      try go_wp2_with (first | ((with_reducible refine gate_dst (N := 3) rfl ?_); refine zE 3 #[.int .i64 a0_0, .int .i64 a0_1, .int .i64 a0_2, .int .i64 a0_3] 24 ?_; intro gb134 hg w24 hbox hb; have BK134 := za (hbox); have GW134 := zg HB hg; have GE134 := zg HB hg; replace HB := zs HB hb; clear hb hbox hg) | ((with_reducible refine gate_dst (N := 4) rfl ?_); refine zE 4 #[.slice A1_0 l1_0.length c1_0, .bool false] 27 ?_; intro gb135 hg w25 hbox hb; have BK135 := za (hbox); have GW135 := zg HB hg; have GE135 := zg HB hg; have NB134_135 := zl BK134 hg; have NB135_134 := zr BK134 hg; replace BK134 := zb BK134 hb; replace HB := zs HB hb; clear hb hbox hg) | ((with_reducible refine gate_dst (N := 6) rfl ?_); refine zE 6 #[.slice none 0 0, .bool false] 27 ?_; intro gb136 hg w26 hbox hb; have BK136 := za (hbox); have GW136 := zg HB hg; have GE136 := zg HB hg; have NB134_136 := zl BK134 hg; have NB136_134 := zr BK134 hg; have NB135_136 := zl BK135 hg; have NB136_135 := zr BK135 hg; replace BK134 := zb BK134 hb; replace BK135 := zb BK135 hb; replace HB := zs HB hb; clear hb hbox hg; have hnb27 := NB134_135.out; have hnc27 := NB135_134.out; have hnb28 := NB134_136.out; have hnc28 := NB136_134.out; obtain ⟨hcz29_0, hcz29_1, hcz29_2, hcz29_3, hfz29_0, hfz29_1, hfz29_2, hfz29_3⟩ := z4 BK134; have hnb30 := NB135_136.out; have hnc30 := NB136_135.out; obtain ⟨hcz31_0, hcz31_1, hfz31_0, hfz31_1⟩ := z2 BK135) | ((with_reducible refine gate_callee (f := 18) rfl ?_); refine zL (some 12) Try.func18 #[.agg #[.int .i64 a0_0, .int .i64 a0_1, .int .i64 a0_2, .int .i64 a0_3], .agg #[.slice A1_0 l1_0.length c1_0, .bool false]] ?_; (with_reducible refine (monitor_Valid.calls k a0_0 a0_1 a0_2 a0_3 _ _ l1_0 false true _ ?side1 ?side2 A4.out).mono ?_); (case side1 => exact zC HR1_0 HB); (case side2 => exact HC1_0.out); rintro e w32 ⟨rfl, hb⟩; refine ⟨_, rfl, ?_⟩; replace BK134 := zb BK134 hb; replace BK135 := zb BK135 hb; replace BK136 := zb BK136 hb; replace HB := zs HB hb; (try clear hb); (try clear hb2); (try clear hk); (try clear hi); obtain ⟨hcz33_0, hcz33_1, hfz33_0, hfz33_1⟩ := z2 BK135) | ((with_reducible refine gate_callee (f := 32) rfl ?_); refine zL (some 21) Try.func32 #[.slice A1_0 l1_0.length c1_0] ?_; (with_reducible refine (slices_Clone_bool_bool.calls _ _ l1_0 t138 _ ?side1 ?side2 A18.out).mono ?_); (case side1 => exact zC HR1_0 HB); (case side2 => exact HC1_0.out); rintro e w34 ⟨v139, rfl, ho0, hb⟩; refine ⟨_, rfl, ?_⟩; have HO140 := za (Kd.R_lower ho0 (below_size (zm HB))); replace BK134 := zb BK134 hb; replace BK135 := zb BK135 hb; replace BK136 := zb BK136 hb; replace HB := zs HB hb; (try clear hb); (try clear hb2); (try clear hk); (try clear hi); (try clear ho0)) | ((with_reducible refine gate_builtin (b := .append) (xs := #[.tmp 21, .tmp 23]) rfl ?_); at_builtin; refine Kd.R_append Kd.bool (w0 := w) w.heap.size rfl (.tmp 21) (.tmp 23) 25 4 (.bool false) 1 rfl Try.underlying25 info4 rfl (by decide) (by omega) v139 t138 a2 [.bool a2] (fun _ => True) (fun _ => False) rfl rfl ?aP (fun _ hk => hk.elim) ?aF ?aO ?aB ?aS ?aL ?_; (case aP => exact rfl); (case aB => exact (zm HB)); (case aF => exact (fun _ _ => trivial)); (case aO => exact (by (with_reducible repeat (first | apply Kd.R_alloc | apply Kd.R_drewN | apply Kd.R_drew)); exact HO140.out)); (case aS => exact (below_size (zm HB))); (case aL => have := LMc19.out; omega); intro v142 w35 ho hb hg hat; rw [← Ny141.out] at ho; have HO143 := za (ho); replace BK134 := (zw BK134 hg (Kd.R_ne HO140.out BK134.out (by decide))); replace BK135 := (zw BK135 hg (Kd.R_ne HO140.out BK135.out (by decide))); replace BK136 := (zw BK136 hg (Kd.R_ne HO140.out BK136.out (by decide))); replace HB := za (hb); clear HO140 ho hb hg hat; obtain ⟨Ao36, co36, eo36⟩ := Kd.R_slice HO143.out; subst eo36; obtain ⟨hcz37_0, hcz37_1, hcz37_2, hcz37_3, hfz37_0, hfz37_1, hfz37_2, hfz37_3⟩ := z4 BK134; have q38 : ((ji20) : Int) ≤ ((y141.length : Int) : Int) := of_decide_eq_true (by first | (with_reducible assumption) | assumption); obtain ⟨i038, hi038, _, hsz38, _⟩ := info_parts info4; have hcut38 := cut_from (P := Try.prog) 25 4 .i64 Try.underlying25 hi038 1 hsz38 Ao36 y141.length co36 (ji20) (of_decide_eq_true (by first | (with_reducible assumption) | assumption)) q38; have hr38 := Kd.Q_drop (k := ((ji20) : Int).toNat) (Kd.Q_of_R HO143.out) (by omega); obtain ⟨A38, hA38⟩ : ∃ A1, A1 = (if co36 = ((ji20) : Int).toNat then Ao36 else (Ao36 : Option Addr).map (·.add (((ji20) : Int).toNat * 1))) := ⟨_, rfl⟩; obtain ⟨c38, hc38⟩ : ∃ c1, c1 = co36 - ((ji20) : Int).toNat := ⟨_, rfl⟩; have hy38 : y144.length = y141.length - ((ji20) : Int).toNat := (by rw [Ny144.out, List.length_drop]); rw [← Ny144.out] at hr38; rw [← hy38, ← hA38, ← hc38] at hcut38; replace hr38 : Kd.Q Kd.bool 4 w35 w.heap.size (fun _ => True) (.slice A38 y144.length c38) y144 := (by rw [hA38, hc38, hy38]; exact hr38); have HE38 : Aside0 ((Value.slice A38 y144.length c38).ownBlock = (.slice Ao36 y141.length co36 : Value).ownBlock) := ⟨by rw [hA38]; split <;> (cases (Ao36 : Option Addr) <;> first | rfl | (show some (Addr.add _ _).block = some _; unfold Addr.add; split <;> rfl))⟩; clear hy38 hi038 hsz38 HO143 hA38 hc38; have HO146 := za hr38; clear hr38; replace q38 := eq_true q38))
      replace HO146 := za (Kd.Q_drew HO146.out)
      replace BK134 := za (blk_drew BK134.out)
      replace BK135 := za (blk_drew BK135.out)
      replace BK136 := za (blk_drew BK136.out)
      replace HB := za (below_drew1 HB.out)
      refine start_ (n := 9) (S := fun w' => w'.cell? ⟨gb134, 0, none⟩ = some (.int .i64 a0_0) ∧ w'.cell? ⟨gb134, 1, none⟩ = some (.int .i64 a0_1) ∧ w'.cell? ⟨gb134, 2, none⟩ = some (.int .i64 a0_2) ∧ w'.cell? ⟨gb134, 3, none⟩ = some (.int .i64 a0_3)) (ds := []) #[false, false, false, false, false, false, false, false, false] (by kernel_rfl) rfl rfl ⟨(blk_cell BK134.out 0).trans rfl, (blk_cell BK134.out 1).trans rfl, (blk_cell BK134.out 2).trans rfl, (blk_cell BK134.out 3).trans rfl⟩ (fun hHeld => ?_); refine with_tabW monitor_Step.tab7 monitor_Step.bits7 (fun HT_ HW_ => ?_)
      generalize w35.drew = w39 at HO146 BK134 BK135 BK136 HB hHeld ⊢
      refine pure_ (i := 0) (N := some 33) (v := ?_) (a' := ?_) #[true, false, false, false, false, false, false, false, false] rfl rfl (any_of HT_.out (by kernel_rfl)) (fun _ _ _ h => h) (Or.inl ⟨by rfl, ?_⟩) ?_ ?_
      rotate_left
      ·intro w'
       go_simp
       with_reducible rfl
      rotate_left
      ·simp only [Act.put, List.setIfInBounds_toArray, List.set_cons_zero, List.set_cons_succ, i64_w, i32_w]
       rfl
      refine pure_ (i := 1) (N := some 34) (v := ?_) (a' := ?_) #[true, true, false, false, false, false, false, false, false] rfl rfl (any_of HT_.out (by kernel_rfl)) (fun _ _ _ h => h) (Or.inl ⟨by rfl, ?_⟩) ?_ ?_
      rotate_left
      ·intro w'
       go_simp
       with_reducible rfl
      rotate_left
      ·simp only [Act.put, List.setIfInBounds_toArray, List.set_cons_zero, List.set_cons_succ, i64_w, i32_w]
       rfl
      refine pure_ (i := 3) (N := some 36) (v := ?_) (a' := ?_) #[true, true, false, true, false, false, false, false, false] rfl rfl (any_of HT_.out (by kernel_rfl)) (fun _ _ _ h => h) (Or.inl ⟨by rfl, ?_⟩) ?_ ?_
      rotate_left
      ·intro w'
       go_simp
       with_reducible rfl
      rotate_left
      ·simp only [Act.put, List.setIfInBounds_toArray, List.set_cons_zero, List.set_cons_succ, i64_w, i32_w]
       rfl
      refine take_ (i := 4) (N := some 37) (v := ?_) (a' := ?_) #[true, true, false, true, true, false, false, false, false] rfl rfl (take_ofW HT_.out HW_.out (by kernel_rfl)) (fun _ _ _ h => h) (Or.inl ⟨by rfl, ?_⟩) hHeld ?_ ?_
      rotate_left
      ·rintro w' ⟨s0, s1, s2, s3⟩
       go_simp
       with_reducible rfl
      rotate_left
      ·simp only [Act.put, List.setIfInBounds_toArray, List.set_cons_zero, List.set_cons_succ, i64_w, i32_w]
       rfl
      refine one_ (i := 2) (N := some 35) #[true, true, true, true, true, false, false, false, false] rfl rfl (one_of HT_.out (by kernel_rfl)) (by decide) (fun K hK => ?_)
      refine goes_ Try.func30 (by kernel_rfl) rfl #[.slice A38 y144.length c38] (by rfl) rfl rfl (by (try simp only [List.map_toArray, List.map_cons, List.map_nil]); first | done | rfl | (simp only [List.length_drop, List.length_take]; rfl)) ?_
      with_reducible refine (monitor_fails.calls k _ _ y144 t147 _ ?side1 ?side2 A23.out).mono ?_
      (case side1 => repeat (first | exact (Kd.Q_reads' HO146.out).2.2 | (with_reducible refine Kd.C_alloc ?_ _) | (with_reducible refine Kd.C_drewN ?_ _) | (with_reducible refine Kd.C_drew ?_)))
      (case side2 => exact (Kd.Q_reads' HO146.out).2.1)
      rintro e w' ⟨rfl, ⟨nd, rfl⟩⟩
      refine ⟨_, rfl, ?_⟩
      refine hK.out _ _ ⟨(blk_cell BK134.out 0).trans rfl, (blk_cell BK134.out 1).trans rfl, (blk_cell BK134.out 2).trans rfl, (blk_cell BK134.out 3).trans rfl⟩ (fun hHeld => ?_)
      clear hK K
      refine norm_ (a' := ?_) ?_ ?_
      rotate_left
      ·show Act.put _ (some 35) _ = _
       simp only [Act.put, List.setIfInBounds_toArray, List.set_cons_zero, List.set_cons_succ, i64_w, i32_w]
       rfl
      refine pure_ (i := 5) (N := some 38) (v := ?_) (a' := ?_) #[true, true, true, true, true, true, false, false, false] rfl rfl (any_of HT_.out (by kernel_rfl)) (fun _ _ _ h => h) (Or.inl ⟨by rfl, ?_⟩) ?_ ?_
      rotate_left
      ·intro w'
       go_simp
       with_reducible rfl
      rotate_left
      ·simp only [Act.put, List.setIfInBounds_toArray, List.set_cons_zero, List.set_cons_succ, i64_w, i32_w]
       rfl
      refine pure_ (i := 6) (N := some 39) (v := ?_) (a' := ?_) #[true, true, true, true, true, true, true, false, false] rfl rfl (any_of HT_.out (by kernel_rfl)) (fun _ _ _ h => h) (Or.inl ⟨by rfl, ?_⟩) ?_ ?_
      rotate_left
      ·intro w'
       go_simp
       with_reducible rfl
      rotate_left
      ·simp only [Act.put, List.setIfInBounds_toArray, List.set_cons_zero, List.set_cons_succ, i64_w, i32_w]
       rfl
      refine one_ (i := 7) (N := none) #[true, true, true, true, true, true, true, true, false] rfl rfl (one_of HT_.out (by kernel_rfl)) (by decide) (fun K hK => ?_)
      have hs40 : w39.cell? ⟨gb136, 0, none⟩ = some (.slice none 0 0) := (blk_cell BK136.out 0).trans rfl
      have hfs40 := blk_frozen BK136.out 0
      have hns40_0 := NB134_136.out
      have hns40_1 := NB135_136.out
      have hms40_0 := NB136_134.out
      have hms40_1 := NB136_135.out
      have hs41 : w39.cell? ⟨gb136, 1, none⟩ = some (.bool false) := (blk_cell BK136.out 1).trans rfl
      have hfs41 := blk_frozen BK136.out 1
      have hns41_0 := NB134_136.out
      have hns41_1 := NB135_136.out
      have hms41_0 := NB136_134.out
      have hms41_1 := NB136_135.out
      refine skip_ (w1 := ?_) (by rfl) rfl ?_ ?_
      rotate_left
      ·go_simp
       rfl
      refine hK.out _ _ ⟨((cell_far (p := ⟨gb136, _, none⟩) NB134_136.out _).trans (((cell_far (p := ⟨gb136, _, none⟩) NB134_136.out _).trans (hHeld.1)))), ((cell_far (p := ⟨gb136, _, none⟩) NB134_136.out _).trans (((cell_far (p := ⟨gb136, _, none⟩) NB134_136.out _).trans (hHeld.2.1)))), ((cell_far (p := ⟨gb136, _, none⟩) NB134_136.out _).trans (((cell_far (p := ⟨gb136, _, none⟩) NB134_136.out _).trans (hHeld.2.2.1)))), ((cell_far (p := ⟨gb136, _, none⟩) NB134_136.out _).trans (((cell_far (p := ⟨gb136, _, none⟩) NB134_136.out _).trans (hHeld.2.2.2))))⟩ (fun hHeld => ?_)
      clear hK K
      refine pure_ (i := 8) (N := some 7) (v := ?_) (a' := ?_) #[true, true, true, true, true, true, true, true, true] rfl rfl (any_of HT_.out (by kernel_rfl)) (fun _ _ _ h => h) (Or.inl ⟨by rfl, ?_⟩) ?_ ?_
      rotate_left
      ·intro w'
       go_simp
       with_reducible rfl
      rotate_left
      ·simp only [Act.put, List.setIfInBounds_toArray, List.set_cons_zero, List.set_cons_succ, i64_w, i32_w]
       rfl
      refine done_ (done_of HT_.out (by kernel_rfl)) ?_
      try go_wp2
      refine bodyPost_ret (results_ct rfl _ _ gb136 27 #[.slice A38 y144.length c38, .bool (decide (t147 ≥ a0_3))] (0, 0) _ rfl (by (with_reducible repeat (first | refine blk_drewN ?_ _ | refine blk_drew ?_ | refine blk_alloc ?_ _)); refine blk_put (cs := #[.slice A38 y144.length c38, .bool false]) ?_ 1 _ rfl; (with_reducible repeat (first | refine blk_drewN ?_ _ | refine blk_drew ?_ | refine blk_alloc ?_ _)); refine blk_put (cs := #[.slice none 0 0, .bool false]) ?_ 0 _ rfl; (with_reducible repeat (first | refine blk_drewN ?_ _ | refine blk_drew ?_ | refine blk_alloc ?_ _)); exact BK136.out) Try.underlying27 rfl (by kernel_rfl)) rfl ?_
      exact ⟨_, by first | rfl | (simp [errW_none, errW_some] <;> rfl) | (simp only [← hji20]; first | rfl | (simp [errW_none, errW_some] <;> rfl)) | (simp [*, errW_none, errW_some] <;> rfl), by (with_reducible repeat (first | apply Kd.Q_alloc | apply Kd.Q_drewN | apply Kd.Q_drew)); exact Kd.Q_mono (Kd.Q_far (p := ⟨gb136, 1, none⟩) (Kd.Q_far (p := ⟨gb136, 0, none⟩) (Kd.Q_types HO146.out BK136.out (by decide)) (fun _ hk => hk.2) (.slice A38 y144.length c38)) (fun _ hk => hk.2) (.bool (decide (t147 ≥ a0_3)))) (fun _ hk => trivial), zm HB⟩
     ·rw [if_neg c22] at H
      exact absurd H (by simp)
    ·rw [if_neg c21] at H
     exact absurd H (by simp)
   ·rw [if_neg c19] at H
    exact absurd H (by simp)
 ·replace c5 := Bool.eq_false_iff.mpr c5
  subst c5
  have H1 : (some (([] : List Bool), false, 1)) = some (r1, r2, r3) := by rw [if_neg (show ¬ (false = true) by decide)] at H; exact H
  clear H
  have H := H1
  clear H1
  simp only [Option.some.injEq, Prod.mk.injEq] at H
  obtain ⟨rfl, rfl, rfl⟩ := H
  go_enter Try.func23, Try.ntmps23
  go_wp2_with (first | ((with_reducible refine gate_dst (N := 3) rfl ?_); refine zE 3 #[.int .i64 a0_0, .int .i64 a0_1, .int .i64 a0_2, .int .i64 a0_3] 24 ?_; intro gb134 hg w42 hbox hb; have BK134 := za (hbox); have GW134 := zg HB hg; have GE134 := zg HB hg; replace HB := zs HB hb; clear hb hbox hg) | ((with_reducible refine gate_dst (N := 4) rfl ?_); refine zE 4 #[.slice A1_0 l1_0.length c1_0, .bool a1_1] 27 ?_; intro gb135 hg w43 hbox hb; have BK135 := za (hbox); have GW135 := zg HB hg; have GE135 := zg HB hg; have NB134_135 := zl BK134 hg; have NB135_134 := zr BK134 hg; replace BK134 := zb BK134 hb; replace HB := zs HB hb; clear hb hbox hg) | ((with_reducible refine gate_dst (N := 6) rfl ?_); refine zE 6 #[.slice none 0 0, .bool false] 27 ?_; intro gb136 hg w44 hbox hb; have BK136 := za (hbox); have GW136 := zg HB hg; have GE136 := zg HB hg; have NB134_136 := zl BK134 hg; have NB136_134 := zr BK134 hg; have NB135_136 := zl BK135 hg; have NB136_135 := zr BK135 hg; replace BK134 := zb BK134 hb; replace BK135 := zb BK135 hb; replace HB := zs HB hb; clear hb hbox hg; have hnb45 := NB134_135.out; have hnc45 := NB135_134.out; have hnb46 := NB134_136.out; have hnc46 := NB136_134.out; obtain ⟨hcz47_0, hcz47_1, hcz47_2, hcz47_3, hfz47_0, hfz47_1, hfz47_2, hfz47_3⟩ := z4 BK134; have hnb48 := NB135_136.out; have hnc48 := NB136_135.out; obtain ⟨hcz49_0, hcz49_1, hfz49_0, hfz49_1⟩ := z2 BK135) | ((with_reducible refine gate_callee (f := 18) rfl ?_); refine zL (some 12) Try.func18 #[.agg #[.int .i64 a0_0, .int .i64 a0_1, .int .i64 a0_2, .int .i64 a0_3], .agg #[.slice A1_0 l1_0.length c1_0, .bool a1_1]] ?_; (with_reducible refine (monitor_Valid.calls k a0_0 a0_1 a0_2 a0_3 _ _ l1_0 a1_1 false _ ?side1 ?side2 A4.out).mono ?_); (case side1 => exact zC HR1_0 HB); (case side2 => exact HC1_0.out); rintro e w50 ⟨rfl, hb⟩; refine ⟨_, rfl, ?_⟩; replace BK134 := zb BK134 hb; replace BK135 := zb BK135 hb; replace BK136 := zb BK136 hb; replace HB := zs HB hb; (try clear hb); (try clear hb2); (try clear hk); (try clear hi); obtain ⟨hcz51_0, hcz51_1, hfz51_0, hfz51_1⟩ := z2 BK136))
  refine bodyPost_ret (results_ct rfl _ _ gb136 27 #[.slice none 0 0, .bool false] (0, 0) _ rfl (by (with_reducible repeat (first | refine blk_drewN ?_ _ | refine blk_drew ?_ | refine blk_alloc ?_ _)); refine blk_put (cs := #[.slice none 0 0, .bool false]) ?_ 1 _ rfl; (with_reducible repeat (first | refine blk_drewN ?_ _ | refine blk_drew ?_ | refine blk_alloc ?_ _)); refine blk_put (cs := #[.slice none 0 0, .bool false]) ?_ 0 _ rfl; (with_reducible repeat (first | refine blk_drewN ?_ _ | refine blk_drew ?_ | refine blk_alloc ?_ _)); exact BK136.out) Try.underlying27 rfl (by kernel_rfl)) rfl ?_
  exact ⟨_, zf, Kd.Q_of_R (by first | exact Kd.R_nil _ _ _ _ _ | exact Kd.N_nil _ _ _ _ _ | exact Kd.V_nil _ _ _ _ _ | exact Kd.Q_nil _ _ _ _ _ | exact Kd.S_nil _ _ _ _ _), zm HB⟩

/-! ### monitor_Run: function 20 -/
def monitor_Run.l0 : Nat → Int → List Bool → Int → Int → Int → Int → Int → Int → List Bool → Bool → Option (Int × Int × Int)
  | 0, _, _, _, _, _, _, _, _, _, _ => none
  | k + 1, x5, x16, x17, x18, x149000, x149001, x149002, x149003, x151000, x151001 => if x18 < x17 then (if 0 ≤ x18 then (if x18 < (x16.length : Int) then ((monitor_Step.f k x149000 x149001 x149002 x149003 x151000 x151001 (rdOf false x16 x18)).bind fun bt152 => (if bt152.2.1 = true then (some (x18, x5, 0)) else (if rdOf false x16 x18 = true then (monitor_Run.l0 k x18 x16 x17 (wrap64 (x18 + 1)) x149000 x149001 x149002 x149003 bt152.1 bt152.2.1) else (monitor_Run.l0 k x5 x16 x17 (wrap64 (x18 + 1)) x149000 x149001 x149002 x149003 bt152.1 bt152.2.1)))) else (none)) else (none)) else (some ((-1), x5, 0))
def monitor_Run.f (k : Nat) (a0_0 : Int) (a0_1 : Int) (a0_2 : Int) (a0_3 : Int) (l1 : List Bool) : Option (Int × Int × Int) := (monitor_Check.f a0_0 a0_1 a0_2 a0_3).bind fun t149 => (if t149 = 0 then (monitor_Run.l0 k (-1) l1 (l1.length : Int) 0 a0_0 a0_1 a0_2 a0_3 ([] : List Bool) false) else (some (0, 0, t149)))
theorem monitor_Run.mono_l : ∀ k, (∀ y0 y1 y2 y3 y4 y5 y6 y7 y8 y9, LeO (monitor_Run.l0 k y0 y1 y2 y3 y4 y5 y6 y7 y8 y9) (monitor_Run.l0 (k + 1) y0 y1 y2 y3 y4 y5 y6 y7 y8 y9))
  | 0 => fun _ _ _ _ _ _ _ _ _ _ r h => by simp [monitor_Run.l0] at h
  | k + 1 => by
    have ih0 := monitor_Run.mono_l k
    · intro y0 y1 y2 y3 y4 y5 y6 y7 y8 y9
      unfold monitor_Run.l0
      repeat' first
      | (with_reducible exact ih0 _ _ _ _ _ _ _ _ _ _)
      | (with_reducible exact monitor_Step.mono _ _ _ _ _ _ _ _)
      | (with_reducible exact LeO.refl _)
      | (with_reducible exact LeO.none _)
      | (with_reducible refine LeO.ite ?_ ?_)
      | (with_reducible refine LeO.bind ?_ (fun _ => ?_))
      | exact ih0 _ _ _ _ _ _ _ _ _ _
      | exact monitor_Step.mono _ _ _ _ _ _ _ _
      | exact LeO.none _
      | refine LeO.ite ?_ ?_
      | refine LeO.bind ?_ (fun _ => ?_)
theorem monitor_Run.mono : ∀ a0 a1 a2 a3 a4 k, LeO (monitor_Run.f k a0 a1 a2 a3 a4) (monitor_Run.f (k + 1) a0 a1 a2 a3 a4) := by
  intro a0 a1 a2 a3 a4 k
  have ih0 := monitor_Run.mono_l k
  unfold monitor_Run.f
  repeat' first
      | (with_reducible exact ih0 _ _ _ _ _ _ _ _ _ _)
      | (with_reducible exact monitor_Step.mono _ _ _ _ _ _ _ _)
      | (with_reducible exact LeO.refl _)
      | (with_reducible exact LeO.none _)
      | (with_reducible refine LeO.ite ?_ ?_)
      | (with_reducible refine LeO.bind ?_ (fun _ => ?_))
      | exact ih0 _ _ _ _ _ _ _ _ _ _
      | exact monitor_Step.mono _ _ _ _ _ _ _ _
      | exact LeO.none _
      | refine LeO.ite ?_ ?_
      | refine LeO.bind ?_ (fun _ => ?_)
set_option maxHeartbeats 8000000 in
set_option maxRecDepth 100000 in
theorem monitor_Run.calls (k : Nat) (a0_0 : Int) (a0_1 : Int) (a0_2 : Int) (a0_3 : Int) (A1 : Option Addr) (c1 : Nat) (l1 : List Bool) (r1 : Int) (r2 : Int) (r3 : Int) (w : World) (hr1 : Kd.C Kd.bool w A1 l1.length l1) (hc1 : l1.length ≤ c1) (h : monitor_Run.f k a0_0 a0_1 a0_2 a0_3 l1 = some (r1, r2, r3)) :
    Calls Try.prog 20 #[.agg #[.int .i64 a0_0, .int .i64 a0_1, .int .i64 a0_2, .int .i64 a0_3], .slice A1 l1.length c1] w fun e w' => e = .returned (.tuple #[.int .i64 r1, .int .i64 r2, .int .i64 r3]) ∧ Below w.heap.size w w' := by
 have hu24 := Try.underlying24
 have hu27 := Try.underlying27
 have HR1 := za hr1
 have HC1 := za hc1
 clear hr1 hc1
 have HB := za (Below.refl w.heap.size w)
 have H : ((monitor_Check.f a0_0 a0_1 a0_2 a0_3).bind fun t149 => (if t149 = 0 then (monitor_Run.l0 k (-1) l1 (l1.length : Int) 0 a0_0 a0_1 a0_2 a0_3 ([] : List Bool) false) else (some (0, 0, t149)))) = some (r1, r2, r3) := h
 clear h
 replace H := Option.bind_eq_some_iff.mp H
 obtain ⟨t149, A30, H⟩ := H
 replace H : (if t149 = 0 then (monitor_Run.l0 k (-1) l1 (l1.length : Int) 0 a0_0 a0_1 a0_2 a0_3 ([] : List Bool) false) else (some (0, 0, t149))) = some (r1, r2, r3) := H
 have A3 := za A30
 clear A30
 by_cases c4 : t149 = 0
 ·rw [if_pos c4] at H
  have c4b0 : (t149 == 0) = true := beq_iff_eq.mpr c4
  have c4b1 : (t149 != 0) = false := bne_eq_false_iff_eq.mpr c4
  clear c4
  have H' := za H
  clear H
  go_enter Try.func20, Try.ntmps20
  go_wp2_with (first | ((with_reducible refine gate_dst (N := 2) rfl ?_); refine zE 2 #[.int .i64 a0_0, .int .i64 a0_1, .int .i64 a0_2, .int .i64 a0_3] 24 ?_; intro gb148 hg w5 hbox hb; have BK148 := za (hbox); have GW148 := zg HB hg; have GE148 := zg HB hg; replace HB := zs HB hb; clear hb hbox hg; obtain ⟨hcz6_0, hcz6_1, hcz6_2, hcz6_3, hfz6_0, hfz6_1, hfz6_2, hfz6_3⟩ := z4 BK148) | ((with_reducible refine gate_callee (f := 14) rfl ?_); refine zL (some 12) Try.func14 #[.agg #[.int .i64 a0_0, .int .i64 a0_1, .int .i64 a0_2, .int .i64 a0_3]] ?_; (with_reducible refine (monitor_Check.calls a0_0 a0_1 a0_2 a0_3 t149 _ A3.out).mono ?_); rintro e w7 ⟨rfl, hb⟩; refine ⟨_, rfl, ?_⟩; replace BK148 := zb BK148 hb; replace HB := zs HB hb; (try clear hb); (try clear hb2); (try clear hk); (try clear hi)) | ((with_reducible refine gate_dst (N := 8) rfl ?_); refine zE 8 #[.slice none 0 0, .bool false] 27 ?_; intro gb150 hg w8 hbox hb; have BK150 := za (hbox); have GW150 := zg HB hg; have GE150 := zg HB hg; have NB148_150 := zl BK148 hg; have NB150_148 := zr BK148 hg; replace BK148 := zb BK148 hb; replace HB := zs HB hb; clear hb hbox hg))
  go_loopg [5, 18] k (fun kq v5 v18 w' => ∃ (x5_1 : Int) (x18_1 : Int) (x151000_1 : List Bool) (x151001_1 : Bool) (u151000 : Value), v5 = .int .i64 x5_1 ∧ v18 = .int .i64 x18_1 ∧ Aside0 (monitor_Run.l0 kq x5_1 l1 (l1.length : Int) x18_1 a0_0 a0_1 a0_2 a0_3 x151000_1 x151001_1 = some (r1, r2, r3)) ∧ Aside0 (kq ≤ k) ∧ Aside0 (Kd.Q Kd.bool 4 w' w.heap.size (fun _ => True) u151000 x151000_1) ∧ Aside0 (w'.heap[gb148]? = some (.cells #[.int .i64 a0_0, .int .i64 a0_1, .int .i64 a0_2, .int .i64 a0_3] 24 (0, 0))) ∧ Aside0 (w'.heap[gb150]? = some (.cells #[u151000, .bool x151001_1] 27 (0, 0))) ∧ Aside0 (Below w.heap.size w w'))
  case atStart => exact ⟨((-1)), (0), (([] : List Bool)), (false), (.slice none 0 0), (by first | rfl | (simp; done) | (simp [*]; done)), (by first | rfl | (simp; done) | (simp [*]; done)), H', ⟨Nat.le_refl _⟩, ⟨Kd.Q_of_R (by first | exact Kd.R_nil _ _ _ _ _ | exact Kd.N_nil _ _ _ _ _ | exact Kd.V_nil _ _ _ _ _ | exact Kd.Q_nil _ _ _ _ _ | exact Kd.S_nil _ _ _ _ _)⟩, ⟨by (with_reducible repeat (first | refine blk_drewN ?_ _ | refine blk_drew ?_ | refine blk_alloc ?_ _)); exact BK148.out⟩, ⟨by (with_reducible repeat (first | refine blk_drewN ?_ _ | refine blk_drew ?_ | refine blk_alloc ?_ _)); exact BK150.out⟩, ⟨zm HB⟩⟩
  case round =>
   clear H'
   try clear c1
   try clear c2
   try clear p2
   try clear c4
   try clear c4b0
   try clear c4b1
   try clear hcz6_0
   try clear hcz6_1
   try clear hcz6_2
   try clear hcz6_3
   try clear hfz6_0
   try clear hfz6_1
   try clear hfz6_2
   try clear hfz6_3
   obtain ⟨x5_1, x18_1, x151000_1, x151001_1, u151000, rfl, rfl, HA, HK1, HO_151000, BK148, BK150, HB⟩ := hrel
   cases gk with
   | zero => exact absurd HA.out (by simp [monitor_Run.l0])
   | succ k1 =>
    have H := HA.out
    clear HA
    simp only [monitor_Run.l0] at H
    by_cases c9 : x18_1 < (l1.length : Int)
    ·rw [if_pos c9] at H
     have c9b0 : decide (x18_1 < (l1.length : Int)) = true := decide_eq_true c9
     clear c9
     by_cases c10 : 0 ≤ x18_1
     ·rw [if_pos c10] at H
      have c10b0 : decide (0 ≤ x18_1) = true := decide_eq_true c10
      clear c10
      by_cases c11 : x18_1 < (l1.length : Int)
      ·rw [if_pos c11] at H
       have c11b0 : decide (x18_1 < (l1.length : Int)) = true := decide_eq_true c11
       clear c11
       replace H := Option.bind_eq_some_iff.mp H
       obtain ⟨⟨t152, t155, t156⟩, A120, H⟩ := H
       replace H : (if t155 = true then (some (x18_1, x5_1, 0)) else (if rdOf false l1 x18_1 = true then (monitor_Run.l0 k1 x18_1 l1 (l1.length : Int) (wrap64 (x18_1 + 1)) a0_0 a0_1 a0_2 a0_3 t152 t155) else (monitor_Run.l0 k1 x5_1 l1 (l1.length : Int) (wrap64 (x18_1 + 1)) a0_0 a0_1 a0_2 a0_3 t152 t155))) = some (r1, r2, r3) := H
       have A12 := za A120
       clear A120
       by_cases c13 : t155 = true
       ·subst c13
        have H1 : (some (x18_1, x5_1, 0)) = some (r1, r2, r3) := by rw [if_pos rfl] at H; exact H
        clear H
        have H := H1
        clear H1
        simp only [Option.some.injEq, Prod.mk.injEq] at H
        obtain ⟨rfl, rfl, rfl⟩ := H
        have p151 : 0 ≤ (x18_1 : Int) := of_decide_eq_true (by first | (with_reducible assumption) | assumption)
        have q151 : x18_1 < (l1.length : Int) := of_decide_eq_true (by first | (with_reducible assumption) | assumption)
        obtain ⟨ad151, e151, hx151_0⟩ := Kd.at_bool HR1.out x18_1 p151 q151
        cases e151
        replace hx151_0 := zx HB hx151_0
        replace p151 := eq_true p151
        replace q151 := eq_true q151
        have hnb14 := NB148_150.out
        have hnc14 := NB150_148.out
        obtain ⟨hcz15_0, hcz15_1, hcz15_2, hcz15_3, hfz15_0, hfz15_1, hfz15_2, hfz15_3⟩ := z4 BK148
        obtain ⟨hcz16_0, hcz16_1, hfz16_0, hfz16_1⟩ := z2 BK150
        obtain ⟨Ao17, co17, eo17, _⟩ := Kd.Q_slice HO_151000.out
        subst eo17
        go_wp2_with (first | ((with_reducible refine gate_callee (f := 23) rfl ?_); refine zL (some 27) Try.func23 #[.agg #[.int .i64 a0_0, .int .i64 a0_1, .int .i64 a0_2, .int .i64 a0_3], .agg #[.slice Ao17 x151000_1.length co17, .bool x151001_1], .bool (rdOf false l1 x18_1)] ?_; (with_reducible refine (monitor_Step.calls k1 a0_0 a0_1 a0_2 a0_3 _ _ x151000_1 x151001_1 (rdOf false l1 x18_1) t152 true t156 _ ?side1 ?side2 A12.out).mono ?_); (case side1 => repeat (first | exact (Kd.Q_reads' HO_151000.out).2.2 | (with_reducible refine Kd.C_alloc ?_ _) | (with_reducible refine Kd.C_drewN ?_ _) | (with_reducible refine Kd.C_drew ?_))); (case side2 => exact (Kd.Q_reads' HO_151000.out).2.1); rintro e w18 ⟨v153, rfl, ho0, hb⟩; refine ⟨_, rfl, ?_⟩; have HO154 := za (Kd.Q_lower (Kd.Q_new' ho0 (Kd.Q_lt (by (with_reducible repeat (first | apply Kd.Q_alloc | apply Kd.Q_drewN | apply Kd.Q_drew)); exact HO_151000.out))) (below_size (zm HB))); replace HO_151000 := za (Kd.Q_elder' (by (with_reducible repeat (first | apply Kd.Q_alloc | apply Kd.Q_drewN | apply Kd.Q_drew)); exact HO_151000.out) (Kd.Q_base ho0) hb); replace BK148 := zb BK148 hb; replace BK150 := zb BK150 hb; replace HB := zs HB hb; (try clear hb); (try clear hb2); (try clear hk); (try clear hi); (try clear ho0); obtain ⟨Ao19, co19, eo19, _⟩ := Kd.Q_slice HO154.out; subst eo19; obtain ⟨hcz20_0, hcz20_1, hfz20_0, hfz20_1⟩ := z2 BK150))
        go_ret3
        exact ⟨zf, zm HB⟩
       ·replace c13 := Bool.eq_false_iff.mpr c13
        subst c13
        have H1 : (if rdOf false l1 x18_1 = true then (monitor_Run.l0 k1 x18_1 l1 (l1.length : Int) (wrap64 (x18_1 + 1)) a0_0 a0_1 a0_2 a0_3 t152 false) else (monitor_Run.l0 k1 x5_1 l1 (l1.length : Int) (wrap64 (x18_1 + 1)) a0_0 a0_1 a0_2 a0_3 t152 false)) = some (r1, r2, r3) := by rw [if_neg (show ¬ (false = true) by decide)] at H; exact H
        clear H
        have H := H1
        clear H1
        obtain ⟨bq21, hbq21⟩ : ∃ b_ : Bool, b_ = (rdOf false l1 x18_1) := ⟨_, rfl⟩
        replace H : (if bq21 = true then (monitor_Run.l0 k1 x18_1 l1 (l1.length : Int) (wrap64 (x18_1 + 1)) a0_0 a0_1 a0_2 a0_3 t152 false) else (monitor_Run.l0 k1 x5_1 l1 (l1.length : Int) (wrap64 (x18_1 + 1)) a0_0 a0_1 a0_2 a0_3 t152 false)) = some (r1, r2, r3) := by rw [← hbq21] at H; exact H
        have Nbq21 := za hbq21
        clear hbq21
        by_cases c22 : bq21 = true
        ·subst c22
         (try rw [← Nbq21.out] at A3)
         (try rw [← Nbq21.out] at A12)
         have H1 : (monitor_Run.l0 k1 x18_1 l1 (l1.length : Int) (wrap64 (x18_1 + 1)) a0_0 a0_1 a0_2 a0_3 t152 false) = some (r1, r2, r3) := by rw [if_pos rfl] at H; exact H
         clear H
         have H := H1
         clear H1
         have H' := za H
         clear H
         have p151 : 0 ≤ (x18_1 : Int) := of_decide_eq_true (by first | (with_reducible assumption) | assumption)
         have q151 : x18_1 < (l1.length : Int) := of_decide_eq_true (by first | (with_reducible assumption) | assumption)
         obtain ⟨ad151, e151, hx151_0⟩ := Kd.at_bool HR1.out x18_1 p151 q151
         (try rw [← Nbq21.out] at hx151_0)
         (try rw [← Nbq21.out] at hw151_0)
         cases e151
         replace hx151_0 := zx HB hx151_0
         replace p151 := eq_true p151
         replace q151 := eq_true q151
         have hnb23 := NB148_150.out
         have hnc23 := NB150_148.out
         obtain ⟨hcz24_0, hcz24_1, hcz24_2, hcz24_3, hfz24_0, hfz24_1, hfz24_2, hfz24_3⟩ := z4 BK148
         obtain ⟨hcz25_0, hcz25_1, hfz25_0, hfz25_1⟩ := z2 BK150
         obtain ⟨Ao26, co26, eo26, _⟩ := Kd.Q_slice HO_151000.out
         subst eo26
         go_wp2_with (first | ((with_reducible refine gate_callee (f := 23) rfl ?_); refine zL (some 27) Try.func23 #[.agg #[.int .i64 a0_0, .int .i64 a0_1, .int .i64 a0_2, .int .i64 a0_3], .agg #[.slice Ao26 x151000_1.length co26, .bool x151001_1], .bool true] ?_; (with_reducible refine (monitor_Step.calls k1 a0_0 a0_1 a0_2 a0_3 _ _ x151000_1 x151001_1 true t152 false t156 _ ?side1 ?side2 A12.out).mono ?_); (case side1 => repeat (first | exact (Kd.Q_reads' HO_151000.out).2.2 | (with_reducible refine Kd.C_alloc ?_ _) | (with_reducible refine Kd.C_drewN ?_ _) | (with_reducible refine Kd.C_drew ?_))); (case side2 => exact (Kd.Q_reads' HO_151000.out).2.1); rintro e w27 ⟨v153, rfl, ho0, hb⟩; refine ⟨_, rfl, ?_⟩; have HO154 := za (Kd.Q_lower (Kd.Q_new' ho0 (Kd.Q_lt (by (with_reducible repeat (first | apply Kd.Q_alloc | apply Kd.Q_drewN | apply Kd.Q_drew)); exact HO_151000.out))) (below_size (zm HB))); replace HO_151000 := za (Kd.Q_elder' (by (with_reducible repeat (first | apply Kd.Q_alloc | apply Kd.Q_drewN | apply Kd.Q_drew)); exact HO_151000.out) (Kd.Q_base ho0) hb); replace BK148 := zb BK148 hb; replace BK150 := zb BK150 hb; replace HB := zs HB hb; (try clear hb); (try clear hb2); (try clear hk); (try clear hi); (try clear ho0); obtain ⟨Ao28, co28, eo28, _⟩ := Kd.Q_slice HO154.out; subst eo28; obtain ⟨hcz29_0, hcz29_1, hfz29_0, hfz29_1⟩ := z2 BK150))
         go_roundg k1
         case measure => have := HK1.out; omega
         case rel => exact ⟨(x18_1), (wrap64 (x18_1 + 1)), (t152), (false), (.slice Ao28 t152.length co28), (by first | rfl | (simp; done) | (simp [*]; done)), (by first | rfl | (simp; done) | (simp [*]; done)), H', ⟨by have := HK1.out; omega⟩, ⟨by (with_reducible repeat (first | apply Kd.Q_alloc | apply Kd.Q_drewN | apply Kd.Q_drew)); exact Kd.Q_mono (Kd.Q_far (p := ⟨gb150, 1, none⟩) (Kd.Q_far (p := ⟨gb150, 0, none⟩) (Kd.Q_types HO154.out BK150.out (by decide)) (fun _ hk => hk.2) (.slice Ao28 t152.length co28)) (fun _ hk => hk.2) (.bool false)) (fun _ hk => trivial)⟩, ⟨by (with_reducible repeat (first | refine blk_drewN ?_ _ | refine blk_drew ?_ | refine blk_alloc ?_ _)); refine blk_far ?_ NB148_150.out _; (with_reducible repeat (first | refine blk_drewN ?_ _ | refine blk_drew ?_ | refine blk_alloc ?_ _)); refine blk_far ?_ NB148_150.out _; (with_reducible repeat (first | refine blk_drewN ?_ _ | refine blk_drew ?_ | refine blk_alloc ?_ _)); exact BK148.out⟩, ⟨by (with_reducible repeat (first | refine blk_drewN ?_ _ | refine blk_drew ?_ | refine blk_alloc ?_ _)); refine blk_put (cs := #[.slice Ao28 t152.length co28, .bool x151001_1]) ?_ 1 _ rfl; (with_reducible repeat (first | refine blk_drewN ?_ _ | refine blk_drew ?_ | refine blk_alloc ?_ _)); refine blk_put (cs := #[.slice Ao26 x151000_1.length co26, .bool x151001_1]) ?_ 0 _ rfl; (with_reducible repeat (first | refine blk_drewN ?_ _ | refine blk_drew ?_ | refine blk_alloc ?_ _)); exact BK150.out⟩, ⟨zm HB⟩⟩
        ·replace c22 := Bool.eq_false_iff.mpr c22
         subst c22
         (try rw [← Nbq21.out] at A3)
         (try rw [← Nbq21.out] at A12)
         have H1 : (monitor_Run.l0 k1 x5_1 l1 (l1.length : Int) (wrap64 (x18_1 + 1)) a0_0 a0_1 a0_2 a0_3 t152 false) = some (r1, r2, r3) := by rw [if_neg (show ¬ (false = true) by decide)] at H; exact H
         clear H
         have H := H1
         clear H1
         have H' := za H
         clear H
         have p151 : 0 ≤ (x18_1 : Int) := of_decide_eq_true (by first | (with_reducible assumption) | assumption)
         have q151 : x18_1 < (l1.length : Int) := of_decide_eq_true (by first | (with_reducible assumption) | assumption)
         obtain ⟨ad151, e151, hx151_0⟩ := Kd.at_bool HR1.out x18_1 p151 q151
         (try rw [← Nbq21.out] at hx151_0)
         (try rw [← Nbq21.out] at hw151_0)
         cases e151
         replace hx151_0 := zx HB hx151_0
         replace p151 := eq_true p151
         replace q151 := eq_true q151
         have hnb30 := NB148_150.out
         have hnc30 := NB150_148.out
         obtain ⟨hcz31_0, hcz31_1, hcz31_2, hcz31_3, hfz31_0, hfz31_1, hfz31_2, hfz31_3⟩ := z4 BK148
         obtain ⟨hcz32_0, hcz32_1, hfz32_0, hfz32_1⟩ := z2 BK150
         obtain ⟨Ao33, co33, eo33, _⟩ := Kd.Q_slice HO_151000.out
         subst eo33
         go_wp2_with (first | ((with_reducible refine gate_callee (f := 23) rfl ?_); refine zL (some 27) Try.func23 #[.agg #[.int .i64 a0_0, .int .i64 a0_1, .int .i64 a0_2, .int .i64 a0_3], .agg #[.slice Ao33 x151000_1.length co33, .bool x151001_1], .bool false] ?_; (with_reducible refine (monitor_Step.calls k1 a0_0 a0_1 a0_2 a0_3 _ _ x151000_1 x151001_1 false t152 false t156 _ ?side1 ?side2 A12.out).mono ?_); (case side1 => repeat (first | exact (Kd.Q_reads' HO_151000.out).2.2 | (with_reducible refine Kd.C_alloc ?_ _) | (with_reducible refine Kd.C_drewN ?_ _) | (with_reducible refine Kd.C_drew ?_))); (case side2 => exact (Kd.Q_reads' HO_151000.out).2.1); rintro e w34 ⟨v153, rfl, ho0, hb⟩; refine ⟨_, rfl, ?_⟩; have HO154 := za (Kd.Q_lower (Kd.Q_new' ho0 (Kd.Q_lt (by (with_reducible repeat (first | apply Kd.Q_alloc | apply Kd.Q_drewN | apply Kd.Q_drew)); exact HO_151000.out))) (below_size (zm HB))); replace HO_151000 := za (Kd.Q_elder' (by (with_reducible repeat (first | apply Kd.Q_alloc | apply Kd.Q_drewN | apply Kd.Q_drew)); exact HO_151000.out) (Kd.Q_base ho0) hb); replace BK148 := zb BK148 hb; replace BK150 := zb BK150 hb; replace HB := zs HB hb; (try clear hb); (try clear hb2); (try clear hk); (try clear hi); (try clear ho0); obtain ⟨Ao35, co35, eo35, _⟩ := Kd.Q_slice HO154.out; subst eo35; obtain ⟨hcz36_0, hcz36_1, hfz36_0, hfz36_1⟩ := z2 BK150))
         go_roundg k1
         case measure => have := HK1.out; omega
         case rel => exact ⟨(x5_1), (wrap64 (x18_1 + 1)), (t152), (false), (.slice Ao35 t152.length co35), (by first | rfl | (simp; done) | (simp [*]; done)), (by first | rfl | (simp; done) | (simp [*]; done)), H', ⟨by have := HK1.out; omega⟩, ⟨by (with_reducible repeat (first | apply Kd.Q_alloc | apply Kd.Q_drewN | apply Kd.Q_drew)); exact Kd.Q_mono (Kd.Q_far (p := ⟨gb150, 1, none⟩) (Kd.Q_far (p := ⟨gb150, 0, none⟩) (Kd.Q_types HO154.out BK150.out (by decide)) (fun _ hk => hk.2) (.slice Ao35 t152.length co35)) (fun _ hk => hk.2) (.bool false)) (fun _ hk => trivial)⟩, ⟨by (with_reducible repeat (first | refine blk_drewN ?_ _ | refine blk_drew ?_ | refine blk_alloc ?_ _)); refine blk_far ?_ NB148_150.out _; (with_reducible repeat (first | refine blk_drewN ?_ _ | refine blk_drew ?_ | refine blk_alloc ?_ _)); refine blk_far ?_ NB148_150.out _; (with_reducible repeat (first | refine blk_drewN ?_ _ | refine blk_drew ?_ | refine blk_alloc ?_ _)); exact BK148.out⟩, ⟨by (with_reducible repeat (first | refine blk_drewN ?_ _ | refine blk_drew ?_ | refine blk_alloc ?_ _)); refine blk_put (cs := #[.slice Ao35 t152.length co35, .bool x151001_1]) ?_ 1 _ rfl; (with_reducible repeat (first | refine blk_drewN ?_ _ | refine blk_drew ?_ | refine blk_alloc ?_ _)); refine blk_put (cs := #[.slice Ao33 x151000_1.length co33, .bool x151001_1]) ?_ 0 _ rfl; (with_reducible repeat (first | refine blk_drewN ?_ _ | refine blk_drew ?_ | refine blk_alloc ?_ _)); exact BK150.out⟩, ⟨zm HB⟩⟩
      ·rw [if_neg c11] at H
       exact absurd H (by simp)
     ·rw [if_neg c10] at H
      exact absurd H (by simp)
    ·rw [if_neg c9] at H
     have c9b0 : decide (x18_1 < (l1.length : Int)) = false := decide_eq_false c9
     clear c9
     simp only [Option.some.injEq, Prod.mk.injEq] at H
     obtain ⟨rfl, rfl, rfl⟩ := H
     go_wp2
     go_ret3
     exact ⟨zf, zm HB⟩
 ·rw [if_neg c4] at H
  have c4b0 : (t149 == 0) = false := beq_eq_false_iff_ne.mpr c4
  have c4b1 : (t149 != 0) = true := bne_iff_ne.mpr c4
  simp only [Option.some.injEq, Prod.mk.injEq] at H
  obtain ⟨rfl, rfl, rfl⟩ := H
  go_enter Try.func20, Try.ntmps20
  go_wp2_with (first | ((with_reducible refine gate_dst (N := 2) rfl ?_); refine zE 2 #[.int .i64 a0_0, .int .i64 a0_1, .int .i64 a0_2, .int .i64 a0_3] 24 ?_; intro gb148 hg w37 hbox hb; have BK148 := za (hbox); have GW148 := zg HB hg; have GE148 := zg HB hg; replace HB := zs HB hb; clear hb hbox hg; obtain ⟨hcz38_0, hcz38_1, hcz38_2, hcz38_3, hfz38_0, hfz38_1, hfz38_2, hfz38_3⟩ := z4 BK148) | ((with_reducible refine gate_callee (f := 14) rfl ?_); refine zL (some 12) Try.func14 #[.agg #[.int .i64 a0_0, .int .i64 a0_1, .int .i64 a0_2, .int .i64 a0_3]] ?_; (with_reducible refine (monitor_Check.calls a0_0 a0_1 a0_2 a0_3 t149 _ A3.out).mono ?_); rintro e w39 ⟨rfl, hb⟩; refine ⟨_, rfl, ?_⟩; replace BK148 := zb BK148 hb; replace HB := zs HB hb; (try clear hb); (try clear hb2); (try clear hk); (try clear hi)))
  go_ret3
  exact ⟨zf, zm HB⟩

end Go.Proofs.Ytdcfjmkeakkfjaa.Print
