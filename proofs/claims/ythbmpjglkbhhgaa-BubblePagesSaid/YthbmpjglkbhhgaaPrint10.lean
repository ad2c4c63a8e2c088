-- Printed by a program of this session (wip/own_print.py) out of the translation; Lean checks it.
import Derived.Test.YthbmpjglkbhhgaaShort
import Derived.Test.YthbmpjglkbhhgaaPrint0
namespace Go.Proofs.Ythbmpjglkbhhgaa.Print
open Go.RowKit Go.Proofs.YthbmpjglkbhhgaaW.PrintWords Go.Proofs.YthbmpjglkbhhgaaW.PrintLast Go.Proofs.YthbmpjglkbhhgaaW.PrintMore
attribute [local go_sem] max2_int min2_int max_two min_two max_three min_three max_four min_four   -- for this text's walks alone
set_option linter.unusedVariables false
set_option linter.unusedSimpArgs false

/-! ### awardingbodyref20_Valid: function 13 -/
def awardingbodyref20_Valid.f (a0_0 : Int) (a0_1 : Int) (a0_2 : Int) : Option (Bool) := if a0_1 ≥ 1 then (if a0_1 ≤ a0_0 then (if a0_0 ≤ 9 then (if a0_2 ≥ 1 then (some (decide (a0_2 ≤ 9))) else (some false)) else (some false)) else (some false)) else (some false)
theorem q10a {p : Prop} (h : p := by (((repeat (first | (with_reducible first | refine blk_drewN ?_ _ | refine blk_drew ?_ | refine blk_alloc ?_ _) | refine blk_far ?_ (Aside0.out (by assumption)) _)); first | (with_reducible exact (Aside0.out (by assumption))) | exact (Aside0.out (by assumption))); done)) : p := h
theorem q10b {p : Prop} (h : p := by ((first | (with_reducible assumption) | assumption); done)) : p := h
theorem q10c {p : Prop} (h : p := by ((first | rfl | (simp; done) | (simp [*]; done)); done)) : p := h
set_option maxHeartbeats 8000000 in
set_option maxRecDepth 100000 in
theorem awardingbodyref20_Valid.calls (a0_0 : Int) (a0_1 : Int) (a0_2 : Int) (r : Bool) (w : World) (h : awardingbodyref20_Valid.f a0_0 a0_1 a0_2 = some r) :
    Calls Try.prog 13 #[.agg #[.int .i64 a0_0, .int .i64 a0_1, .int .i64 a0_2]] w fun e w' => e = .returned (.bool r) ∧ Below w.heap.size w w' := by
 have hu23 := Try.underlying23
 have HB := za (Below.refl w.heap.size w)
 have H : (if a0_1 ≥ 1 then (if a0_1 ≤ a0_0 then (if a0_0 ≤ 9 then (if a0_2 ≥ 1 then (some (decide (a0_2 ≤ 9))) else (some false)) else (some false)) else (some false)) else (some false)) = some r := h
 clear h
 by_cases c2 : a0_1 ≥ 1
 ·rw [if_pos c2] at H
  have c2b0 : decide (1 ≤ a0_1) = true := decide_eq_true c2
  clear c2
  by_cases c3 : a0_1 ≤ a0_0
  ·rw [if_pos c3] at H
   have c3b0 : decide (a0_1 ≤ a0_0) = true := decide_eq_true c3
   clear c3
   by_cases c4 : a0_0 ≤ 9
   ·rw [if_pos c4] at H
    have c4b0 : decide (a0_0 ≤ 9) = true := decide_eq_true c4
    clear c4
    by_cases c5 : a0_2 ≥ 1
    ·rw [if_pos c5] at H
     have c5b0 : decide (1 ≤ a0_2) = true := decide_eq_true c5
     clear c5
     obtain rfl := Option.some.inj H
     go_enter Try.func13, Try.ntmps13
     go_wp2_with (first | ((with_reducible refine gate_dst (N := 1) rfl ?_); refine zE 1 #[.int .i64 a0_0, .int .i64 a0_1, .int .i64 a0_2] 23 ?_; intro gb401 hg w6 hbox hb; have BK401 := za (hbox); have GW401 := zg HB hg; have GE401 := zg HB hg; replace HB := zs HB hb; clear hb hbox hg; obtain ⟨hcz7_0, hcz7_1, hcz7_2, hfz7_0, hfz7_1, hfz7_2⟩ := z3 BK401))
     go_ret
     exact ⟨zf, zm HB⟩
    ·rw [if_neg c5] at H
     have c5b0 : decide (1 ≤ a0_2) = false := decide_eq_false c5
     clear c5
     obtain rfl := Option.some.inj H
     go_enter Try.func13, Try.ntmps13
     go_wp2_with (first | ((with_reducible refine gate_dst (N := 1) rfl ?_); refine zE 1 #[.int .i64 a0_0, .int .i64 a0_1, .int .i64 a0_2] 23 ?_; intro gb401 hg w8 hbox hb; have BK401 := za (hbox); have GW401 := zg HB hg; have GE401 := zg HB hg; replace HB := zs HB hb; clear hb hbox hg; obtain ⟨hcz9_0, hcz9_1, hcz9_2, hfz9_0, hfz9_1, hfz9_2⟩ := z3 BK401))
     go_ret
     exact ⟨zf, zm HB⟩
   ·rw [if_neg c4] at H
    have c4b0 : decide (a0_0 ≤ 9) = false := decide_eq_false c4
    clear c4
    obtain rfl := Option.some.inj H
    go_enter Try.func13, Try.ntmps13
    go_wp2_with (first | ((with_reducible refine gate_dst (N := 1) rfl ?_); refine zE 1 #[.int .i64 a0_0, .int .i64 a0_1, .int .i64 a0_2] 23 ?_; intro gb401 hg w10 hbox hb; have BK401 := za (hbox); have GW401 := zg HB hg; have GE401 := zg HB hg; replace HB := zs HB hb; clear hb hbox hg; obtain ⟨hcz11_0, hcz11_1, hcz11_2, hfz11_0, hfz11_1, hfz11_2⟩ := z3 BK401))
    go_ret
    exact ⟨zf, zm HB⟩
  ·rw [if_neg c3] at H
   have c3b0 : decide (a0_1 ≤ a0_0) = false := decide_eq_false c3
   clear c3
   obtain rfl := Option.some.inj H
   go_enter Try.func13, Try.ntmps13
   go_wp2_with (first | ((with_reducible refine gate_dst (N := 1) rfl ?_); refine zE 1 #[.int .i64 a0_0, .int .i64 a0_1, .int .i64 a0_2] 23 ?_; intro gb401 hg w12 hbox hb; have BK401 := za (hbox); have GW401 := zg HB hg; have GE401 := zg HB hg; replace HB := zs HB hb; clear hb hbox hg; obtain ⟨hcz13_0, hcz13_1, hcz13_2, hfz13_0, hfz13_1, hfz13_2⟩ := z3 BK401))
   go_ret
   exact ⟨zf, zm HB⟩
 ·rw [if_neg c2] at H
  have c2b0 : decide (1 ≤ a0_1) = false := decide_eq_false c2
  clear c2
  obtain rfl := Option.some.inj H
  go_enter Try.func13, Try.ntmps13
  go_wp2_with (first | ((with_reducible refine gate_dst (N := 1) rfl ?_); refine zE 1 #[.int .i64 a0_0, .int .i64 a0_1, .int .i64 a0_2] 23 ?_; intro gb401 hg w14 hbox hb; have BK401 := za (hbox); have GW401 := zg HB hg; have GE401 := zg HB hg; replace HB := zs HB hb; clear hb hbox hg; obtain ⟨hcz15_0, hcz15_1, hcz15_2, hfz15_0, hfz15_1, hfz15_2⟩ := z3 BK401))
  go_ret
  exact ⟨zf, zm HB⟩

/-! ### awardingbodyref20_Dark: function 44 -/
def awardingbodyref20_Dark.l0 : Nat → List Int → Int → Option (Bool)
  | 0, _, _ => none
  | k + 1, x0, x3 => if x3 < (x0.length : Int) then (if 0 ≤ x3 then (if (rd x0 x3) < 0 then (some false) else (if (rd x0 x3) > 9 then (some false) else (awardingbodyref20_Dark.l0 k x0 (wrap64 (x3 + 1))))) else (none)) else (some true)
def awardingbodyref20_Dark.f (k : Nat) (l0 : List Int) : Option (Bool) := awardingbodyref20_Dark.l0 k l0 0
theorem awardingbodyref20_Dark.mono_l : ∀ k, (∀ y0 y1, LeO (awardingbodyref20_Dark.l0 k y0 y1) (awardingbodyref20_Dark.l0 (k + 1) y0 y1))
  | 0 => fun _ _ r h => by simp [awardingbodyref20_Dark.l0] at h
  | k + 1 => by
    have ih0 := awardingbodyref20_Dark.mono_l k
    · intro y0 y1
      unfold awardingbodyref20_Dark.l0
      repeat' first
      | (with_reducible exact ih0 _ _)
      | (with_reducible exact LeO.refl _)
      | (with_reducible exact LeO.none _)
      | (with_reducible refine LeO.ite ?_ ?_)
      | (with_reducible refine LeO.bind ?_ (fun _ => ?_))
      | exact ih0 _ _
      | exact LeO.none _
      | refine LeO.ite ?_ ?_
      | refine LeO.bind ?_ (fun _ => ?_)
theorem awardingbodyref20_Dark.mono : ∀ a0 k, LeO (awardingbodyref20_Dark.f k a0) (awardingbodyref20_Dark.f (k + 1) a0) := by
  intro a0 k
  have ih0 := awardingbodyref20_Dark.mono_l k
  unfold awardingbodyref20_Dark.f
  repeat' first
      | (with_reducible exact ih0 _ _)
      | (with_reducible exact LeO.refl _)
      | (with_reducible exact LeO.none _)
      | (with_reducible refine LeO.ite ?_ ?_)
      | (with_reducible refine LeO.bind ?_ (fun _ => ?_))
      | exact ih0 _ _
      | exact LeO.none _
      | refine LeO.ite ?_ ?_
      | refine LeO.bind ?_ (fun _ => ?_)
set_option maxHeartbeats 8000000 in
set_option maxRecDepth 100000 in
theorem awardingbodyref20_Dark.calls (k : Nat) (A0 : Option Addr) (c0 : Nat) (l0 : List Int) (r : Bool) (w : World) (hr0 : Kd.C (Kd.int .i64) w A0 l0.length l0) (hc0 : l0.length ≤ c0) (h : awardingbodyref20_Dark.f k l0 = some r) :
    Calls Try.prog 44 #[.slice A0 l0.length c0] w fun e w' => e = .returned (.bool r) ∧ Drawn0 w w' := by
 have HR0 := za hr0; have HC0 := za hc0; clear hr0 hc0
 have H : (awardingbodyref20_Dark.l0 k l0 0) = some r := h
 clear h; have H' := za H; clear H
 go_enter Try.func44, Try.ntmps44
 go_wp2
 go_loopg [3] k (fun kq v3 w' => ∃ (x3_1 : Int), v3 = .int .i64 x3_1 ∧ Aside0 (awardingbodyref20_Dark.l0 kq l0 x3_1 = some r) ∧ Aside0 (kq ≤ k) ∧ Drawn0 w w')
 case atStart => exact ⟨(0), q10c, H', ⟨Nat.le_refl _⟩, by repeat (first | exact Drawn0.refl _ | apply Drawn0.step)⟩
 case round =>
  clear H'
  obtain ⟨x3_1, rfl, HA, HK1, ⟨m1, rfl⟩⟩ := hrel
  cases gk with
  | zero => exact absurd HA.out (by simp [awardingbodyref20_Dark.l0])
  | succ k1 =>
   have H := HA.out
   clear HA
   simp only [awardingbodyref20_Dark.l0] at H
   by_cases c2 : x3_1 < (l0.length : Int)
   ·rw [if_pos c2] at H
    have c2b0 : decide (x3_1 < (l0.length : Int)) = true := decide_eq_true c2
    clear c2
    by_cases c3 : 0 ≤ x3_1
    ·rw [if_pos c3] at H
     have c3b0 : decide (0 ≤ x3_1) = true := decide_eq_true c3
     clear c3
     by_cases c4 : (rd l0 x3_1) < 0
     ·rw [if_pos c4] at H
      have c4b0 : decide ((rd l0 x3_1) < 0) = true := decide_eq_true c4
      clear c4
      obtain rfl := Option.some.inj H
      have p402 : 0 ≤ (x3_1 : Int) := of_decide_eq_true q10b
      have q402 : x3_1 < (l0.length : Int) := of_decide_eq_true q10b
      obtain ⟨ad402, e402, hx402_0⟩ := Kd.at_int HR0.out x3_1 p402 q402
      cases e402
      replace p402 := eq_true p402
      replace q402 := eq_true q402
      go_wp2
      go_ret
      exact ⟨by first | rfl | (simp; done) | (simp [*]; done), by repeat (first | exact Drawn0.refl _ | apply Drawn0.step)⟩
     ·rw [if_neg c4] at H
      have c4b0 : decide ((rd l0 x3_1) < 0) = false := decide_eq_false c4
      clear c4
      by_cases c5 : (rd l0 x3_1) > 9
      ·rw [if_pos c5] at H
       have c5b0 : decide (9 < (rd l0 x3_1)) = true := decide_eq_true c5
       clear c5
       obtain rfl := Option.some.inj H
       have p402 : 0 ≤ (x3_1 : Int) := of_decide_eq_true q10b
       have q402 : x3_1 < (l0.length : Int) := of_decide_eq_true q10b
       obtain ⟨ad402, e402, hx402_0⟩ := Kd.at_int HR0.out x3_1 p402 q402
       cases e402
       replace p402 := eq_true p402
       replace q402 := eq_true q402
       have p403 : 0 ≤ (x3_1 : Int) := of_decide_eq_true q10b
       have q403 : x3_1 < (l0.length : Int) := of_decide_eq_true q10b
       obtain ⟨ad403, e403, hx403_0⟩ := Kd.at_int HR0.out x3_1 p403 q403
       obtain rfl : ad402 = ad403 := (by injection e403)
       replace p403 := eq_true p403
       replace q403 := eq_true q403
       go_wp2
       go_ret
       exact ⟨by first | rfl | (simp; done) | (simp [*]; done), by repeat (first | exact Drawn0.refl _ | apply Drawn0.step)⟩
      ·rw [if_neg c5] at H
       have c5b0 : decide (9 < (rd l0 x3_1)) = false := decide_eq_false c5
       clear c5; have H' := za H; clear H
       have p402 : 0 ≤ (x3_1 : Int) := of_decide_eq_true q10b
       have q402 : x3_1 < (l0.length : Int) := of_decide_eq_true q10b
       obtain ⟨ad402, e402, hx402_0⟩ := Kd.at_int HR0.out x3_1 p402 q402
       cases e402
       replace p402 := eq_true p402
       replace q402 := eq_true q402
       have p403 : 0 ≤ (x3_1 : Int) := of_decide_eq_true q10b
       have q403 : x3_1 < (l0.length : Int) := of_decide_eq_true q10b
       obtain ⟨ad403, e403, hx403_0⟩ := Kd.at_int HR0.out x3_1 p403 q403
       obtain rfl : ad402 = ad403 := (by injection e403)
       replace p403 := eq_true p403
       replace q403 := eq_true q403
       go_wp2
       go_roundg k1
       case measure => have := HK1.out; omega
       case rel => exact ⟨(wrap64 (x3_1 + 1)), q10c, H', ⟨by have := HK1.out; omega⟩, by repeat (first | exact Drawn0.refl _ | apply Drawn0.step)⟩
    ·rw [if_neg c3] at H
     exact absurd H (by simp)
   ·rw [if_neg c2] at H
    have c2b0 : decide (x3_1 < (l0.length : Int)) = false := decide_eq_false c2
    clear c2
    obtain rfl := Option.some.inj H
    go_wp2
    go_ret
    exact ⟨by first | rfl | (simp; done) | (simp [*]; done), by repeat (first | exact Drawn0.refl _ | apply Drawn0.step)⟩

/-! ### awardingbodyref20_greatest: function 45 -/
mutual
def awardingbodyref20_greatest.l0 : Nat → List Int → Int → Int → Int → Option (Int × Bool)
  | 0, _, _, _, _ => none
  | k + 1, x0, x1, x6, x7 => if x7 < (x0.length : Int) then (if 0 ≤ x7 then (if 0 ≤ x6 then (if x6 < (x0.length : Int) then (if (rd x0 x7) > (rd x0 x6) then (awardingbodyref20_greatest.l0 k x0 x1 x7 (wrap64 (x7 + 1))) else (awardingbodyref20_greatest.l0 k x0 x1 x6 (wrap64 (x7 + 1)))) else (none)) else (none)) else (none)) else (awardingbodyref20_greatest.l1 k x0 x1 x6 0)
def awardingbodyref20_greatest.l1 : Nat → List Int → Int → Int → Int → Option (Int × Bool)
  | 0, _, _, _, _ => none
  | k + 1, x0, x1, x6, x8 => if x8 < (x0.length : Int) then (if x8 = x6 then (awardingbodyref20_greatest.l1 k x0 x1 x6 (wrap64 (x8 + 1))) else (if 0 ≤ x8 then (if 0 ≤ x6 then (if x6 < (x0.length : Int) then (if (rd x0 x8) > (wrap64 ((rd x0 x6) - x1)) then (some (x6, false)) else (awardingbodyref20_greatest.l1 k x0 x1 x6 (wrap64 (x8 + 1)))) else (none)) else (none)) else (none))) else (some (x6, true))
end
def awardingbodyref20_greatest.f (k : Nat) (l0 : List Int) (a1 : Int) : Option (Int × Bool) := awardingbodyref20_greatest.l0 k l0 a1 0 1
theorem awardingbodyref20_greatest.mono_l : ∀ k, (∀ y0 y1 y2 y3, LeO (awardingbodyref20_greatest.l0 k y0 y1 y2 y3) (awardingbodyref20_greatest.l0 (k + 1) y0 y1 y2 y3)) ∧ (∀ y0 y1 y2 y3, LeO (awardingbodyref20_greatest.l1 k y0 y1 y2 y3) (awardingbodyref20_greatest.l1 (k + 1) y0 y1 y2 y3))
  | 0 => ⟨fun _ _ _ _ r h => by simp [awardingbodyref20_greatest.l0] at h, fun _ _ _ _ r h => by simp [awardingbodyref20_greatest.l1] at h⟩
  | k + 1 => by
    obtain ⟨ih0, ih1⟩ := awardingbodyref20_greatest.mono_l k
    refine ⟨?_, ?_⟩
    · intro y0 y1 y2 y3
      unfold awardingbodyref20_greatest.l0
      repeat' first
      | (with_reducible exact ih0 _ _ _ _)
      | (with_reducible exact ih1 _ _ _ _)
      | (with_reducible exact LeO.refl _)
      | (with_reducible exact LeO.none _)
      | (with_reducible refine LeO.ite ?_ ?_)
      | (with_reducible refine LeO.bind ?_ (fun _ => ?_))
      | exact ih0 _ _ _ _
      | exact ih1 _ _ _ _
      | exact LeO.none _
      | refine LeO.ite ?_ ?_
      | refine LeO.bind ?_ (fun _ => ?_)
    · intro y0 y1 y2 y3
      unfold awardingbodyref20_greatest.l1
      repeat' first
      | (with_reducible exact ih0 _ _ _ _)
      | (with_reducible exact ih1 _ _ _ _)
      | (with_reducible exact LeO.refl _)
      | (with_reducible exact LeO.none _)
      | (with_reducible refine LeO.ite ?_ ?_)
      | (with_reducible refine LeO.bind ?_ (fun _ => ?_))
      | exact ih0 _ _ _ _
      | exact ih1 _ _ _ _
      | exact LeO.none _
      | refine LeO.ite ?_ ?_
      | refine LeO.bind ?_ (fun _ => ?_)
theorem awardingbodyref20_greatest.mono : ∀ a0 a1 k, LeO (awardingbodyref20_greatest.f k a0 a1) (awardingbodyref20_greatest.f (k + 1) a0 a1) := by
  intro a0 a1 k
  obtain ⟨ih0, ih1⟩ := awardingbodyref20_greatest.mono_l k
  unfold awardingbodyref20_greatest.f
  repeat' first
      | (with_reducible exact ih0 _ _ _ _)
      | (with_reducible exact ih1 _ _ _ _)
      | (with_reducible exact LeO.refl _)
      | (with_reducible exact LeO.none _)
      | (with_reducible refine LeO.ite ?_ ?_)
      | (with_reducible refine LeO.bind ?_ (fun _ => ?_))
      | exact ih0 _ _ _ _
      | exact ih1 _ _ _ _
      | exact LeO.none _
      | refine LeO.ite ?_ ?_
      | refine LeO.bind ?_ (fun _ => ?_)
set_option maxHeartbeats 8000000 in
set_option maxRecDepth 100000 in
theorem awardingbodyref20_greatest.calls (k : Nat) (A0 : Option Addr) (c0 : Nat) (l0 : List Int) (a1 : Int) (r1 : Int) (r2 : Bool) (w : World) (hr0 : Kd.C (Kd.int .i64) w A0 l0.length l0) (hc0 : l0.length ≤ c0) (h : awardingbodyref20_greatest.f k l0 a1 = some (r1, r2)) :
    Calls Try.prog 45 #[.slice A0 l0.length c0, .int .i64 a1] w fun e w' => e = .returned (.tuple #[.int .i64 r1, .bool r2]) ∧ Drawn0 w w' := by
 have HR0 := za hr0; have HC0 := za hc0; clear hr0 hc0
 have H : (awardingbodyref20_greatest.l0 k l0 a1 0 1) = some (r1, r2) := h
 clear h; have H' := za H; clear H
 go_enter Try.func45, Try.ntmps45
 go_wp2
 repeat (go_quiet (fail); try go_wp2)
 go_loopg [6, 7] k (fun kq v6 v7 w' => ∃ (x6_1 : Int) (x7_1 : Int), v6 = .int .i64 x6_1 ∧ v7 = .int .i64 x7_1 ∧ Aside0 (awardingbodyref20_greatest.l0 kq l0 a1 x6_1 x7_1 = some (r1, r2)) ∧ Aside0 (kq ≤ k) ∧ Drawn0 w w')
 case atStart => exact ⟨(0), (1), q10c, q10c, H', ⟨Nat.le_refl _⟩, by repeat (first | exact Drawn0.refl _ | apply Drawn0.step)⟩
 case round =>
  clear H'; (try clear p2)
  obtain ⟨x6_1, x7_1, rfl, rfl, HA, HK1, ⟨m1, rfl⟩⟩ := hrel
  cases gk with
  | zero => exact absurd HA.out (by simp [awardingbodyref20_greatest.l0])
  | succ k1 =>
   have H := HA.out
   clear HA
   simp only [awardingbodyref20_greatest.l0] at H
   by_cases c3 : x7_1 < (l0.length : Int)
   ·rw [if_pos c3] at H
    have c3b0 : decide (x7_1 < (l0.length : Int)) = true := decide_eq_true c3
    clear c3
    by_cases c4 : 0 ≤ x7_1
    ·rw [if_pos c4] at H
     have c4b0 : decide (0 ≤ x7_1) = true := decide_eq_true c4
     clear c4
     by_cases c5 : 0 ≤ x6_1
     ·rw [if_pos c5] at H
      have c5b0 : decide (0 ≤ x6_1) = true := decide_eq_true c5
      clear c5
      by_cases c6 : x6_1 < (l0.length : Int)
      ·rw [if_pos c6] at H
       have c6b0 : decide (x6_1 < (l0.length : Int)) = true := decide_eq_true c6
       clear c6
       by_cases c7 : (rd l0 x7_1) > (rd l0 x6_1)
       ·rw [if_pos c7] at H
        have c7b0 : decide ((rd l0 x6_1) < (rd l0 x7_1)) = true := decide_eq_true c7
        clear c7; have H' := za H; clear H
        have p404 : 0 ≤ (x7_1 : Int) := of_decide_eq_true q10b
        have q404 : x7_1 < (l0.length : Int) := of_decide_eq_true q10b
        obtain ⟨ad404, e404, hx404_0⟩ := Kd.at_int HR0.out x7_1 p404 q404
        cases e404
        replace p404 := eq_true p404
        replace q404 := eq_true q404
        have p405 : 0 ≤ (x6_1 : Int) := of_decide_eq_true q10b
        have q405 : x6_1 < (l0.length : Int) := of_decide_eq_true q10b
        obtain ⟨ad405, e405, hx405_0⟩ := Kd.at_int HR0.out x6_1 p405 q405
        obtain rfl : ad404 = ad405 := (by injection e405)
        replace p405 := eq_true p405
        replace q405 := eq_true q405
        go_wp2
        repeat (go_quiet (fail); try go_wp2)
        go_roundg k1
        case measure => have := HK1.out; omega
        case rel => exact ⟨(x7_1), (wrap64 (x7_1 + 1)), q10c, q10c, H', ⟨by have := HK1.out; omega⟩, by repeat (first | exact Drawn0.refl _ | apply Drawn0.step)⟩
       ·rw [if_neg c7] at H
        have c7b0 : decide ((rd l0 x6_1) < (rd l0 x7_1)) = false := decide_eq_false c7
        clear c7; have H' := za H; clear H
        have p404 : 0 ≤ (x7_1 : Int) := of_decide_eq_true q10b
        have q404 : x7_1 < (l0.length : Int) := of_decide_eq_true q10b
        obtain ⟨ad404, e404, hx404_0⟩ := Kd.at_int HR0.out x7_1 p404 q404
        cases e404
        replace p404 := eq_true p404
        replace q404 := eq_true q404
        have p405 : 0 ≤ (x6_1 : Int) := of_decide_eq_true q10b
        have q405 : x6_1 < (l0.length : Int) := of_decide_eq_true q10b
        obtain ⟨ad405, e405, hx405_0⟩ := Kd.at_int HR0.out x6_1 p405 q405
        obtain rfl : ad404 = ad405 := (by injection e405)
        replace p405 := eq_true p405
        replace q405 := eq_true q405
        go_wp2
        repeat (go_quiet (fail); try go_wp2)
        go_roundg k1
        case measure => have := HK1.out; omega
        case rel => exact ⟨(x6_1), (wrap64 (x7_1 + 1)), q10c, q10c, H', ⟨by have := HK1.out; omega⟩, by repeat (first | exact Drawn0.refl _ | apply Drawn0.step)⟩
      ·rw [if_neg c6] at H
       exact absurd H (by simp)
     ·rw [if_neg c5] at H
      exact absurd H (by simp)
    ·rw [if_neg c4] at H
     exact absurd H (by simp)
   ·rw [if_neg c3] at H
    have c3b0 : decide (x7_1 < (l0.length : Int)) = false := decide_eq_false c3
    clear c3; have H' := za H; clear H
    go_wp2
    repeat (go_quiet (fail); try go_wp2)
    go_loopg [8] k1 (fun kq v8 w' => ∃ (x8_2 : Int), v8 = .int .i64 x8_2 ∧ Aside0 (awardingbodyref20_greatest.l1 kq l0 a1 x6_1 x8_2 = some (r1, r2)) ∧ Aside0 (kq ≤ k1) ∧ Drawn0 w w')
    case atStart => exact ⟨(0), q10c, H', ⟨Nat.le_refl _⟩, by repeat (first | exact Drawn0.refl _ | apply Drawn0.step)⟩
    case round =>
     clear H'; (try clear p2); (try clear c3); (try clear c3b0); (try clear c4); (try clear c4b0); (try clear p4); (try clear q4); (try clear hx4); (try clear c5); (try clear c5b0); (try clear c6); (try clear c6b0); (try clear p6); (try clear c7); (try clear c7b0); (try clear hx404_0); (try clear hx405_0); (try clear p2); (try clear p404); (try clear p405); (try clear q404); (try clear q405)
     obtain ⟨x8_2, rfl, HA, HK2, ⟨m2, rfl⟩⟩ := hrel
     cases gk with
     | zero => exact absurd HA.out (by simp [awardingbodyref20_greatest.l1])
     | succ k2 =>
      have H := HA.out
      clear HA
      simp only [awardingbodyref20_greatest.l1] at H
      by_cases c8 : x8_2 < (l0.length : Int)
      ·rw [if_pos c8] at H
       have c8b0 : decide (x8_2 < (l0.length : Int)) = true := decide_eq_true c8
       clear c8
       by_cases c9 : x8_2 = x6_1
       ·rw [if_pos c9] at H
        have c9b0 : (x8_2 == x6_1) = true := beq_iff_eq.mpr c9
        have c9b1 : (x8_2 != x6_1) = false := bne_eq_false_iff_eq.mpr c9
        clear c9; have H' := za H; clear H
        go_wp2
        repeat (go_quiet (fail); try go_wp2)
        go_roundg k2
        case measure => have := HK1.out; have := HK2.out; omega
        case rel => exact ⟨(wrap64 (x8_2 + 1)), q10c, H', ⟨by have := HK1.out; have := HK2.out; omega⟩, by repeat (first | exact Drawn0.refl _ | apply Drawn0.step)⟩
       ·rw [if_neg c9] at H
        have c9b0 : (x8_2 == x6_1) = false := beq_eq_false_iff_ne.mpr c9
        have c9b1 : (x8_2 != x6_1) = true := bne_iff_ne.mpr c9
        by_cases c10 : 0 ≤ x8_2
        ·rw [if_pos c10] at H
         have c10b0 : decide (0 ≤ x8_2) = true := decide_eq_true c10
         clear c10
         by_cases c11 : 0 ≤ x6_1
         ·rw [if_pos c11] at H
          have c11b0 : decide (0 ≤ x6_1) = true := decide_eq_true c11
          clear c11
          by_cases c12 : x6_1 < (l0.length : Int)
          ·rw [if_pos c12] at H
           have c12b0 : decide (x6_1 < (l0.length : Int)) = true := decide_eq_true c12
           clear c12
           by_cases c13 : (rd l0 x8_2) > (wrap64 ((rd l0 x6_1) - a1))
           ·rw [if_pos c13] at H
            have c13b0 : decide ((wrap64 ((rd l0 x6_1) - a1)) < (rd l0 x8_2)) = true := decide_eq_true c13
            clear c13
            simp only [Option.some.injEq, Prod.mk.injEq] at H
            obtain ⟨rfl, rfl⟩ := H
            have p406 : 0 ≤ (x8_2 : Int) := of_decide_eq_true q10b
            have q406 : x8_2 < (l0.length : Int) := of_decide_eq_true q10b
            obtain ⟨ad406, e406, hx406_0⟩ := Kd.at_int HR0.out x8_2 p406 q406
            cases e406
            replace p406 := eq_true p406
            replace q406 := eq_true q406
            have p407 : 0 ≤ (x6_1 : Int) := of_decide_eq_true q10b
            have q407 : x6_1 < (l0.length : Int) := of_decide_eq_true q10b
            obtain ⟨ad407, e407, hx407_0⟩ := Kd.at_int HR0.out x6_1 p407 q407
            obtain rfl : ad406 = ad407 := (by injection e407)
            replace p407 := eq_true p407
            replace q407 := eq_true q407
            go_wp2
            repeat (go_quiet (fail); try go_wp2)
            go_ret2
            exact ⟨by first | rfl | (simp; done) | (simp [*]; done), by repeat (first | exact Drawn0.refl _ | apply Drawn0.step)⟩
           ·rw [if_neg c13] at H
            have c13b0 : decide ((wrap64 ((rd l0 x6_1) - a1)) < (rd l0 x8_2)) = false := decide_eq_false c13
            clear c13; have H' := za H; clear H
            have p406 : 0 ≤ (x8_2 : Int) := of_decide_eq_true q10b
            have q406 : x8_2 < (l0.length : Int) := of_decide_eq_true q10b
            obtain ⟨ad406, e406, hx406_0⟩ := Kd.at_int HR0.out x8_2 p406 q406
            cases e406
            replace p406 := eq_true p406
            replace q406 := eq_true q406
            have p407 : 0 ≤ (x6_1 : Int) := of_decide_eq_true q10b
            have q407 : x6_1 < (l0.length : Int) := of_decide_eq_true q10b
            obtain ⟨ad407, e407, hx407_0⟩ := Kd.at_int HR0.out x6_1 p407 q407
            obtain rfl : ad406 = ad407 := (by injection e407)
            replace p407 := eq_true p407
            replace q407 := eq_true q407
            go_wp2
            repeat (go_quiet (fail); try go_wp2)
            go_roundg k2
            case measure => have := HK1.out; have := HK2.out; omega
            case rel => exact ⟨(wrap64 (x8_2 + 1)), q10c, H', ⟨by have := HK1.out; have := HK2.out; omega⟩, by repeat (first | exact Drawn0.refl _ | apply Drawn0.step)⟩
          ·rw [if_neg c12] at H
           exact absurd H (by simp)
         ·rw [if_neg c11] at H
          exact absurd H (by simp)
        ·rw [if_neg c10] at H
         exact absurd H (by simp)
      ·rw [if_neg c8] at H
       have c8b0 : decide (x8_2 < (l0.length : Int)) = false := decide_eq_false c8
       clear c8
       simp only [Option.some.injEq, Prod.mk.injEq] at H
       obtain ⟨rfl, rfl⟩ := H
       go_wp2
       repeat (go_quiet (fail); try go_wp2)
       go_ret2
       exact ⟨by first | rfl | (simp; done) | (simp [*]; done), by repeat (first | exact Drawn0.refl _ | apply Drawn0.step)⟩

/-! ### awardingbodyref20_Judge: function 22 -/
mutual
def awardingbodyref20_Judge.j0 : Nat → List Int → Bool → Int → Int → Int → Option (Int × Int)
  | 0, _, _, _, _, _ => none
  | k + 1, x1, x20, x409000, x409001, x409002 => if x20 = true then (some (0, 3)) else ((awardingbodyref20_Dark.f k x1).bind fun t410 => (if t410 = true then (awardingbodyref20_Judge.l0 k x1 0 0 x409000 x409001 x409002) else (some (0, 2))))
def awardingbodyref20_Judge.l0 : Nat → List Int → Int → Int → Int → Int → Int → Option (Int × Int)
  | 0, _, _, _, _, _, _ => none
  | k + 1, x1, x6, x7, x409000, x409001, x409002 => if x7 < (x1.length : Int) then (if 0 ≤ x7 then (if (rd x1 x7) ≥ x409000 then (awardingbodyref20_Judge.l0 k x1 (wrap64 (x6 + 1)) (wrap64 (x7 + 1)) x409000 x409001 x409002) else (awardingbodyref20_Judge.l0 k x1 x6 (wrap64 (x7 + 1)) x409000 x409001 x409002)) else (none)) else ((awardingbodyref20_greatest.f k x1 x409002).bind fun bt412 => (if x6 = 1 then (awardingbodyref20_Judge.j2 k x6 bt412.1 true) else (if bt412.2 = true then (if 0 ≤ bt412.1 then (if bt412.1 < (x1.length : Int) then (awardingbodyref20_Judge.j2 k x6 bt412.1 (decide ((rd x1 bt412.1) ≥ x409001))) else (none)) else (none)) else (awardingbodyref20_Judge.j2 k x6 bt412.1 false))))
def awardingbodyref20_Judge.j2 : Nat → Int → Int → Bool → Option (Int × Int)
  | 0, _, _, _ => none
  | k + 1, x6, x8, x59 => if x59 = true then (some (x8, 0)) else (if x6 > 1 then (some ((-2), 0)) else (some ((-1), 0)))
end
def awardingbodyref20_Judge.f (k : Nat) (a0_0 : Int) (a0_1 : Int) (a0_2 : Int) (l1 : List Int) : Option (Int × Int) := (awardingbodyref20_Valid.f a0_0 a0_1 a0_2).bind fun t409 => (if t409 = true then (if (l1.length : Int) < 2 then (awardingbodyref20_Judge.j0 k l1 true a0_0 a0_1 a0_2) else (awardingbodyref20_Judge.j0 k l1 (decide ((l1.length : Int) > 5)) a0_0 a0_1 a0_2)) else (some (0, 1)))
theorem awardingbodyref20_Judge.mono_l : ∀ k, (∀ y0 y1 y2 y3 y4, LeO (awardingbodyref20_Judge.j0 k y0 y1 y2 y3 y4) (awardingbodyref20_Judge.j0 (k + 1) y0 y1 y2 y3 y4)) ∧ (∀ y0 y1 y2 y3 y4 y5, LeO (awardingbodyref20_Judge.l0 k y0 y1 y2 y3 y4 y5) (awardingbodyref20_Judge.l0 (k + 1) y0 y1 y2 y3 y4 y5)) ∧ (∀ y0 y1 y2, LeO (awardingbodyref20_Judge.j2 k y0 y1 y2) (awardingbodyref20_Judge.j2 (k + 1) y0 y1 y2))
  | 0 => ⟨fun _ _ _ _ _ r h => by simp [awardingbodyref20_Judge.j0] at h, fun _ _ _ _ _ _ r h => by simp [awardingbodyref20_Judge.l0] at h, fun _ _ _ r h => by simp [awardingbodyref20_Judge.j2] at h⟩
  | k + 1 => by
    obtain ⟨ih0, ih1, ih2⟩ := awardingbodyref20_Judge.mono_l k
    refine ⟨?_, ?_, ?_⟩
    · intro y0 y1 y2 y3 y4
      unfold awardingbodyref20_Judge.j0
      repeat' first
      | (with_reducible exact ih0 _ _ _ _ _)
      | (with_reducible exact ih1 _ _ _ _ _ _)
      | (with_reducible exact ih2 _ _ _)
      | (with_reducible exact awardingbodyref20_Dark.mono _ _)
      | (with_reducible exact awardingbodyref20_greatest.mono _ _ _)
      | (with_reducible exact LeO.refl _)
      | (with_reducible exact LeO.none _)
      | (with_reducible refine LeO.ite ?_ ?_)
      | (with_reducible refine LeO.bind ?_ (fun _ => ?_))
      | exact ih0 _ _ _ _ _
      | exact ih1 _ _ _ _ _ _
      | exact ih2 _ _ _
      | exact awardingbodyref20_Dark.mono _ _
      | exact awardingbodyref20_greatest.mono _ _ _
      | exact LeO.none _
      | refine LeO.ite ?_ ?_
      | refine LeO.bind ?_ (fun _ => ?_)
    · intro y0 y1 y2 y3 y4 y5
      unfold awardingbodyref20_Judge.l0
      repeat' first
      | (with_reducible exact ih0 _ _ _ _ _)
      | (with_reducible exact ih1 _ _ _ _ _ _)
      | (with_reducible exact ih2 _ _ _)
      | (with_reducible exact awardingbodyref20_Dark.mono _ _)
      | (with_reducible exact awardingbodyref20_greatest.mono _ _ _)
      | (with_reducible exact LeO.refl _)
      | (with_reducible exact LeO.none _)
      | (with_reducible refine LeO.ite ?_ ?_)
      | (with_reducible refine LeO.bind ?_ (fun _ => ?_))
      | exact ih0 _ _ _ _ _
      | exact ih1 _ _ _ _ _ _
      | exact ih2 _ _ _
      | exact awardingbodyref20_Dark.mono _ _
      | exact awardingbodyref20_greatest.mono _ _ _
      | exact LeO.none _
      | refine LeO.ite ?_ ?_
      | refine LeO.bind ?_ (fun _ => ?_)
    · intro y0 y1 y2
      unfold awardingbodyref20_Judge.j2
      repeat' first
      | (with_reducible exact ih0 _ _ _ _ _)
      | (with_reducible exact ih1 _ _ _ _ _ _)
      | (with_reducible exact ih2 _ _ _)
      | (with_reducible exact awardingbodyref20_Dark.mono _ _)
      | (with_reducible exact awardingbodyref20_greatest.mono _ _ _)
      | (with_reducible exact LeO.refl _)
      | (with_reducible exact LeO.none _)
      | (with_reducible refine LeO.ite ?_ ?_)
      | (with_reducible refine LeO.bind ?_ (fun _ => ?_))
      | exact ih0 _ _ _ _ _
      | exact ih1 _ _ _ _ _ _
      | exact ih2 _ _ _
      | exact awardingbodyref20_Dark.mono _ _
      | exact awardingbodyref20_greatest.mono _ _ _
      | exact LeO.none _
      | refine LeO.ite ?_ ?_
      | refine LeO.bind ?_ (fun _ => ?_)
theorem awardingbodyref20_Judge.mono : ∀ a0 a1 a2 a3 k, LeO (awardingbodyref20_Judge.f k a0 a1 a2 a3) (awardingbodyref20_Judge.f (k + 1) a0 a1 a2 a3) := by
  intro a0 a1 a2 a3 k
  obtain ⟨ih0, ih1, ih2⟩ := awardingbodyref20_Judge.mono_l k
  unfold awardingbodyref20_Judge.f
  repeat' first
      | (with_reducible exact ih0 _ _ _ _ _)
      | (with_reducible exact ih1 _ _ _ _ _ _)
      | (with_reducible exact ih2 _ _ _)
      | (with_reducible exact awardingbodyref20_Dark.mono _ _)
      | (with_reducible exact awardingbodyref20_greatest.mono _ _ _)
      | (with_reducible exact LeO.refl _)
      | (with_reducible exact LeO.none _)
      | (with_reducible refine LeO.ite ?_ ?_)
      | (with_reducible refine LeO.bind ?_ (fun _ => ?_))
      | exact ih0 _ _ _ _ _
      | exact ih1 _ _ _ _ _ _
      | exact ih2 _ _ _
      | exact awardingbodyref20_Dark.mono _ _
      | exact awardingbodyref20_greatest.mono _ _ _
      | exact LeO.none _
      | refine LeO.ite ?_ ?_
      | refine LeO.bind ?_ (fun _ => ?_)
set_option maxHeartbeats 8000000 in
set_option maxRecDepth 100000 in
theorem awardingbodyref20_Judge.calls (k : Nat) (a0_0 : Int) (a0_1 : Int) (a0_2 : Int) (A1 : Option Addr) (c1 : Nat) (l1 : List Int) (r1 : Int) (r2 : Int) (w : World) (hr1 : Kd.C (Kd.int .i64) w A1 l1.length l1) (hc1 : l1.length ≤ c1) (h : awardingbodyref20_Judge.f k a0_0 a0_1 a0_2 l1 = some (r1, r2)) :
    Calls Try.prog 22 #[.agg #[.int .i64 a0_0, .int .i64 a0_1, .int .i64 a0_2], .slice A1 l1.length c1] w fun e w' => e = .returned (.tuple #[.int .i64 r1, .int .i64 r2]) ∧ Below w.heap.size w w' := by
 have hu23 := Try.underlying23
 have HR1 := za hr1; have HC1 := za hc1; clear hr1 hc1
 have HB := za (Below.refl w.heap.size w)
 have H : ((awardingbodyref20_Valid.f a0_0 a0_1 a0_2).bind fun t409 => (if t409 = true then (if (l1.length : Int) < 2 then (awardingbodyref20_Judge.j0 k l1 true a0_0 a0_1 a0_2) else (awardingbodyref20_Judge.j0 k l1 (decide ((l1.length : Int) > 5)) a0_0 a0_1 a0_2)) else (some (0, 1)))) = some (r1, r2) := h
 clear h
 replace H := Option.bind_eq_some_iff.mp H
 obtain ⟨t409, A30, H⟩ := H
 replace H : (if t409 = true then (if (l1.length : Int) < 2 then (awardingbodyref20_Judge.j0 k l1 true a0_0 a0_1 a0_2) else (awardingbodyref20_Judge.j0 k l1 (decide ((l1.length : Int) > 5)) a0_0 a0_1 a0_2)) else (some (0, 1))) = some (r1, r2) := H
 have A3 := za A30; clear A30
 by_cases c4 : t409 = true
 ·subst c4
  have H1 : (if (l1.length : Int) < 2 then (awardingbodyref20_Judge.j0 k l1 true a0_0 a0_1 a0_2) else (awardingbodyref20_Judge.j0 k l1 (decide ((l1.length : Int) > 5)) a0_0 a0_1 a0_2)) = some (r1, r2) := by rw [if_pos rfl] at H; exact H
  clear H; have H := H1; clear H1; have HC5 := za H; clear H
  go_enter Try.func22, Try.ntmps22
  go_upto_region 3 with (first | ((with_reducible refine gate_dst (N := 2) rfl ?_); (try (refine gate_guard (by rfl) ?_; dsimp only)); refine zE 2 #[.int .i64 a0_0, .int .i64 a0_1, .int .i64 a0_2] 23 ?_; intro gb408 hg w6 hbox hb; have BK408 := za (hbox); have GW408 := zg HB hg; have GE408 := zg HB hg; replace HB := zs HB hb; clear hb hbox hg; obtain ⟨hcz7_0, hcz7_1, hcz7_2, hfz7_0, hfz7_1, hfz7_2⟩ := z3 BK408) | (go_at_call 13; (with_reducible refine (awardingbodyref20_Valid.calls a0_0 a0_1 a0_2 true _ A3.out).mono ?_); rintro e w8 ⟨rfl, hb⟩; replace BK408 := zb BK408 hb; replace HB := zs HB hb; (try clear hb); (try clear hb2); (try clear hk); (try clear hi)))
  repeat (go_quiet (first | ((with_reducible refine gate_dst (N := 2) rfl ?_); (try (refine gate_guard (by rfl) ?_; dsimp only)); refine zE 2 #[.int .i64 a0_0, .int .i64 a0_1, .int .i64 a0_2] 23 ?_; intro gb408 hg w6 hbox hb; have BK408 := za (hbox); have GW408 := zg HB hg; have GE408 := zg HB hg; replace HB := zs HB hb; clear hb hbox hg; obtain ⟨hcz7_0, hcz7_1, hcz7_2, hfz7_0, hfz7_1, hfz7_2⟩ := z3 BK408) | (go_at_call 13; (with_reducible refine (awardingbodyref20_Valid.calls a0_0 a0_1 a0_2 true _ A3.out).mono ?_); rintro e w8 ⟨rfl, hb⟩; replace BK408 := zb BK408 hb; replace HB := zs HB hb; (try clear hb); (try clear hb2); (try clear hk); (try clear hi))); go_upto_region 3 with (first | ((with_reducible refine gate_dst (N := 2) rfl ?_); (try (refine gate_guard (by rfl) ?_; dsimp only)); refine zE 2 #[.int .i64 a0_0, .int .i64 a0_1, .int .i64 a0_2] 23 ?_; intro gb408 hg w6 hbox hb; have BK408 := za (hbox); have GW408 := zg HB hg; have GE408 := zg HB hg; replace HB := zs HB hb; clear hb hbox hg; obtain ⟨hcz7_0, hcz7_1, hcz7_2, hfz7_0, hfz7_1, hfz7_2⟩ := z3 BK408) | (go_at_call 13; (with_reducible refine (awardingbodyref20_Valid.calls a0_0 a0_1 a0_2 true _ A3.out).mono ?_); rintro e w8 ⟨rfl, hb⟩; replace BK408 := zb BK408 hb; replace HB := zs HB hb; (try clear hb); (try clear hb2); (try clear hk); (try clear hi))))
  (try simp only [Act.put, List.setIfInBounds_toArray, List.set_cons_zero, List.set_cons_succ])
  go_cut [20] (fun v20 wc => ∃ (kq : Nat) (x20_4 : Bool), v20 = .bool x20_4 ∧ Aside0 (awardingbodyref20_Judge.j0 kq l1 x20_4 a0_0 a0_1 a0_2 = some (r1, r2)) ∧ Aside0 (kq ≤ k) ∧ Aside0 (wc.heap[gb408]? = some (.cells #[.int .i64 a0_0, .int .i64 a0_1, .int .i64 a0_2] 23 (0, 0))) ∧ Aside0 (Below w.heap.size w wc))
  case first =>
   have H := HC5.out
   clear HC5
   by_cases c9 : (l1.length : Int) < 2
   ·rw [if_pos c9] at H
    have c9b0 : decide ((l1.length : Int) < 2) = true := decide_eq_true c9
    have c9b1 : decide (l1.length < 2) = true := decide_eq_true (by omega)
    clear c9
    (first | rw [c9b0] | (simp only [i64_w, i32_w]; rw [c9b0]) | skip)
    have H' := za H; clear H
    go_wp2
    repeat (go_quiet (fail); try go_wp2)
    go_meet
    case rel => exact ⟨_, (true), q10c, H', ⟨by first | omega | exact Nat.le_refl _⟩, ⟨q10a⟩, ⟨zm HB⟩⟩
   ·rw [if_neg c9] at H
    have c9b0 : decide ((l1.length : Int) < 2) = false := decide_eq_false c9
    have c9b1 : decide (l1.length < 2) = false := decide_eq_false (by omega)
    clear c9
    (first | rw [c9b0] | (simp only [i64_w, i32_w]; rw [c9b0]) | skip)
    have H' := za H; clear H
    go_wp2
    repeat (go_quiet (fail); try go_wp2)
    go_meet
    case rel => exact ⟨_, (decide ((l1.length : Int) > 5)), q10c, H', ⟨by first | omega | exact Nat.le_refl _⟩, ⟨q10a⟩, ⟨zm HB⟩⟩
  case rest =>
   clear HC5; (try clear c1); (try clear c2); (try clear p2); (try clear c4); (try clear c9); (try clear c9b0); (try clear c9b1); (try clear hcz7_0); (try clear hcz7_1); (try clear hcz7_2); (try clear hfz7_0); (try clear hfz7_1); (try clear hfz7_2)
   obtain ⟨kq, x20_4, rfl, HA, HJ4, BK408, HB⟩ := hcut
   cases kq with
   | zero => exact absurd HA.out (by simp [awardingbodyref20_Judge.j0])
   | succ kj4 =>
    have H := HA.out
    clear HA
    simp only [awardingbodyref20_Judge.j0] at H
    by_cases c10 : x20_4 = true
    ·subst c10
     have H1 : (some (0, 3)) = some (r1, r2) := by rw [if_pos rfl] at H; exact H
     clear H; have H := H1; clear H1
     simp only [Option.some.injEq, Prod.mk.injEq] at H
     obtain ⟨rfl, rfl⟩ := H
     go_wp2
     repeat (go_quiet (fail); try go_wp2)
     go_ret2
     exact ⟨zf, zm HB⟩
    ·replace c10 := Bool.eq_false_iff.mpr c10
     subst c10
     have H1 : ((awardingbodyref20_Dark.f kj4 l1).bind fun t410 => (if t410 = true then (awardingbodyref20_Judge.l0 kj4 l1 0 0 a0_0 a0_1 a0_2) else (some (0, 2)))) = some (r1, r2) := by rw [if_neg (show ¬ (false = true) by decide)] at H; exact H
     clear H; have H := H1; clear H1
     replace H := Option.bind_eq_some_iff.mp H
     obtain ⟨t410, A110, H⟩ := H
     replace H : (if t410 = true then (awardingbodyref20_Judge.l0 kj4 l1 0 0 a0_0 a0_1 a0_2) else (some (0, 2))) = some (r1, r2) := H
     have A11 := za A110; clear A110
     by_cases c12 : t410 = true
     ·subst c12
      have H1 : (awardingbodyref20_Judge.l0 kj4 l1 0 0 a0_0 a0_1 a0_2) = some (r1, r2) := by rw [if_pos rfl] at H; exact H
      clear H; have H := H1; clear H1; have H' := za H; clear H
      go_wp2_with (first | (go_at_call 44; (with_reducible refine (awardingbodyref20_Dark.calls kj4 _ _ l1 true _ ?side1 ?side2 A11.out).mono ?_); (case side1 => exact zC HR1 HB); (case side2 => exact HC1.out); rintro e w' ⟨rfl, ⟨nd, rfl⟩⟩; (try first | exact ⟨rfl, _, World.drewN_drewN _ _ _⟩ | exact ⟨rfl, _, Eq.trans (World.drewN_drewN _ _ _) (congrArg (World.drewN _) (Nat.add_assoc _ _ _))⟩)))
      repeat (go_quiet (first | (go_at_call 44; (with_reducible refine (awardingbodyref20_Dark.calls kj4 _ _ l1 true _ ?side1 ?side2 A11.out).mono ?_); (case side1 => exact zC HR1 HB); (case side2 => exact HC1.out); rintro e w' ⟨rfl, ⟨nd, rfl⟩⟩; (try first | exact ⟨rfl, _, World.drewN_drewN _ _ _⟩ | exact ⟨rfl, _, Eq.trans (World.drewN_drewN _ _ _) (congrArg (World.drewN _) (Nat.add_assoc _ _ _))⟩))); try go_wp2_with (first | (go_at_call 44; (with_reducible refine (awardingbodyref20_Dark.calls kj4 _ _ l1 true _ ?side1 ?side2 A11.out).mono ?_); (case side1 => exact zC HR1 HB); (case side2 => exact HC1.out); rintro e w' ⟨rfl, ⟨nd, rfl⟩⟩; (try first | exact ⟨rfl, _, World.drewN_drewN _ _ _⟩ | exact ⟨rfl, _, Eq.trans (World.drewN_drewN _ _ _) (congrArg (World.drewN _) (Nat.add_assoc _ _ _))⟩))))
      go_loopg [6, 7] kj4 (fun kq v6 v7 w' => ∃ (x6_2 : Int) (x7_2 : Int), v6 = .int .i64 x6_2 ∧ v7 = .int .i64 x7_2 ∧ Aside0 (awardingbodyref20_Judge.l0 kq l1 x6_2 x7_2 a0_0 a0_1 a0_2 = some (r1, r2)) ∧ Aside0 (kq ≤ kj4) ∧ Aside0 (w'.heap[gb408]? = some (.cells #[.int .i64 a0_0, .int .i64 a0_1, .int .i64 a0_2] 23 (0, 0))) ∧ Aside0 (Below w.heap.size w w'))
      case atStart => exact ⟨(0), (0), q10c, q10c, H', ⟨Nat.le_refl _⟩, ⟨q10a⟩, ⟨zm HB⟩⟩
      case round =>
       clear H'; (try clear c1); (try clear c2); (try clear p2); (try clear c4); (try clear c9); (try clear c9b0); (try clear c9b1); (try clear c10); (try clear c12); (try clear hcz7_0); (try clear hcz7_1); (try clear hcz7_2); (try clear hfz7_0); (try clear hfz7_1); (try clear hfz7_2); (try clear p2)
       obtain ⟨x6_2, x7_2, rfl, rfl, HA, HK2, BK408, HB⟩ := hrel
       cases gk with
       | zero => exact absurd HA.out (by simp [awardingbodyref20_Judge.l0])
       | succ k2 =>
        have H := HA.out
        clear HA
        simp only [awardingbodyref20_Judge.l0] at H
        by_cases c13 : x7_2 < (l1.length : Int)
        ·rw [if_pos c13] at H
         have c13b0 : decide (x7_2 < (l1.length : Int)) = true := decide_eq_true c13
         clear c13
         by_cases c14 : 0 ≤ x7_2
         ·rw [if_pos c14] at H
          have c14b0 : decide (0 ≤ x7_2) = true := decide_eq_true c14
          clear c14
          by_cases c15 : (rd l1 x7_2) ≥ a0_0
          ·rw [if_pos c15] at H
           have c15b0 : decide (a0_0 ≤ (rd l1 x7_2)) = true := decide_eq_true c15
           clear c15; have H' := za H; clear H
           have p411 : 0 ≤ (x7_2 : Int) := of_decide_eq_true q10b
           have q411 : x7_2 < (l1.length : Int) := of_decide_eq_true q10b
           obtain ⟨ad411, e411, hx411_0⟩ := Kd.at_int HR1.out x7_2 p411 q411
           cases e411
           replace hx411_0 := zx HB hx411_0
           replace p411 := eq_true p411
           replace q411 := eq_true q411
           obtain ⟨hcz16_0, hcz16_1, hcz16_2, hfz16_0, hfz16_1, hfz16_2⟩ := z3 BK408
           go_wp2
           repeat (go_quiet (fail); try go_wp2)
           go_roundg k2
           case measure => have := HJ4.out; have := HK2.out; omega
           case rel => exact ⟨(wrap64 (x6_2 + 1)), (wrap64 (x7_2 + 1)), q10c, q10c, H', ⟨by have := HJ4.out; have := HK2.out; omega⟩, ⟨q10a⟩, ⟨zm HB⟩⟩
          ·rw [if_neg c15] at H
           have c15b0 : decide (a0_0 ≤ (rd l1 x7_2)) = false := decide_eq_false c15
           clear c15; have H' := za H; clear H
           have p411 : 0 ≤ (x7_2 : Int) := of_decide_eq_true q10b
           have q411 : x7_2 < (l1.length : Int) := of_decide_eq_true q10b
           obtain ⟨ad411, e411, hx411_0⟩ := Kd.at_int HR1.out x7_2 p411 q411
           cases e411
           replace hx411_0 := zx HB hx411_0
           replace p411 := eq_true p411
           replace q411 := eq_true q411
           obtain ⟨hcz17_0, hcz17_1, hcz17_2, hfz17_0, hfz17_1, hfz17_2⟩ := z3 BK408
           go_wp2
           repeat (go_quiet (fail); try go_wp2)
           go_roundg k2
           case measure => have := HJ4.out; have := HK2.out; omega
           case rel => exact ⟨(x6_2), (wrap64 (x7_2 + 1)), q10c, q10c, H', ⟨by have := HJ4.out; have := HK2.out; omega⟩, ⟨q10a⟩, ⟨zm HB⟩⟩
         ·rw [if_neg c14] at H
          exact absurd H (by simp)
        ·rw [if_neg c13] at H
         have c13b0 : decide (x7_2 < (l1.length : Int)) = false := decide_eq_false c13
         clear c13
         replace H := Option.bind_eq_some_iff.mp H
         obtain ⟨⟨t412, t413⟩, A180, H⟩ := H
         replace H : (if x6_2 = 1 then (awardingbodyref20_Judge.j2 k2 x6_2 t412 true) else (if t413 = true then (if 0 ≤ t412 then (if t412 < (l1.length : Int) then (awardingbodyref20_Judge.j2 k2 x6_2 t412 (decide ((rd l1 t412) ≥ a0_1))) else (none)) else (none)) else (awardingbodyref20_Judge.j2 k2 x6_2 t412 false))) = some (r1, r2) := H
         have A18 := za A180; clear A180; have HC19 := za H; clear H
         obtain ⟨hcz20_0, hcz20_1, hcz20_2, hfz20_0, hfz20_1, hfz20_2⟩ := z3 BK408
         go_upto_region 14 with (first | (go_at_call 45; (with_reducible refine (awardingbodyref20_greatest.calls k2 _ _ l1 a0_2 t412 t413 _ ?side1 ?side2 A18.out).mono ?_); (case side1 => exact zC HR1 HB); (case side2 => exact HC1.out); rintro e w' ⟨rfl, ⟨nd, rfl⟩⟩; (try first | exact ⟨rfl, _, World.drewN_drewN _ _ _⟩ | exact ⟨rfl, _, Eq.trans (World.drewN_drewN _ _ _) (congrArg (World.drewN _) (Nat.add_assoc _ _ _))⟩)))
         repeat (go_quiet (first | (go_at_call 45; (with_reducible refine (awardingbodyref20_greatest.calls k2 _ _ l1 a0_2 t412 t413 _ ?side1 ?side2 A18.out).mono ?_); (case side1 => exact zC HR1 HB); (case side2 => exact HC1.out); rintro e w' ⟨rfl, ⟨nd, rfl⟩⟩; (try first | exact ⟨rfl, _, World.drewN_drewN _ _ _⟩ | exact ⟨rfl, _, Eq.trans (World.drewN_drewN _ _ _) (congrArg (World.drewN _) (Nat.add_assoc _ _ _))⟩))); go_upto_region 14 with (first | (go_at_call 45; (with_reducible refine (awardingbodyref20_greatest.calls k2 _ _ l1 a0_2 t412 t413 _ ?side1 ?side2 A18.out).mono ?_); (case side1 => exact zC HR1 HB); (case side2 => exact HC1.out); rintro e w' ⟨rfl, ⟨nd, rfl⟩⟩; (try first | exact ⟨rfl, _, World.drewN_drewN _ _ _⟩ | exact ⟨rfl, _, Eq.trans (World.drewN_drewN _ _ _) (congrArg (World.drewN _) (Nat.add_assoc _ _ _))⟩))))
         (try simp only [Act.put, List.setIfInBounds_toArray, List.set_cons_zero, List.set_cons_succ])
         go_cut [59] (fun v59 wc => ∃ (kq : Nat) (x59_18 : Bool), v59 = .bool x59_18 ∧ Aside0 (awardingbodyref20_Judge.j2 kq x6_2 t412 x59_18 = some (r1, r2)) ∧ Aside0 (kq ≤ k2) ∧ Aside0 (wc.heap[gb408]? = some (.cells #[.int .i64 a0_0, .int .i64 a0_1, .int .i64 a0_2] 23 (0, 0))) ∧ Aside0 (Below w.heap.size w wc))
         case first =>
          have H := HC19.out
          clear HC19
          by_cases c21 : x6_2 = 1
          ·rw [if_pos c21] at H
           have c21b0 : (x6_2 == 1) = true := beq_iff_eq.mpr c21
           have c21b1 : (x6_2 != 1) = false := bne_eq_false_iff_eq.mpr c21
           clear c21
           (first | rw [c21b0] | (simp only [i64_w, i32_w]; rw [c21b0]) | skip)
           have H' := za H; clear H
           go_wp2
           repeat (go_quiet (fail); try go_wp2)
           go_meet
           case rel => exact ⟨_, (true), q10c, H', ⟨by have := HJ4.out; have := HK2.out; first | omega | exact Nat.le_refl _⟩, ⟨q10a⟩, ⟨zm HB⟩⟩
          ·rw [if_neg c21] at H
           have c21b0 : (x6_2 == 1) = false := beq_eq_false_iff_ne.mpr c21
           have c21b1 : (x6_2 != 1) = true := bne_iff_ne.mpr c21
           (first | rw [c21b0] | (simp only [i64_w, i32_w]; rw [c21b0]) | skip)
           by_cases c22 : t413 = true
           ·subst c22
            have H1 : (if 0 ≤ t412 then (if t412 < (l1.length : Int) then (awardingbodyref20_Judge.j2 k2 x6_2 t412 (decide ((rd l1 t412) ≥ a0_1))) else (none)) else (none)) = some (r1, r2) := by rw [if_pos rfl] at H; exact H
            clear H; have H := H1; clear H1
            by_cases c23 : 0 ≤ t412
            ·rw [if_pos c23] at H
             have c23b0 : decide (0 ≤ t412) = true := decide_eq_true c23
             clear c23
             by_cases c24 : t412 < (l1.length : Int)
             ·rw [if_pos c24] at H
              have c24b0 : decide (t412 < (l1.length : Int)) = true := decide_eq_true c24
              clear c24; have H' := za H; clear H
              have p414 : 0 ≤ (t412 : Int) := of_decide_eq_true q10b
              have q414 : t412 < (l1.length : Int) := of_decide_eq_true q10b
              obtain ⟨ad414, e414, hx414_0⟩ := Kd.at_int HR1.out t412 p414 q414
              cases e414
              replace hx414_0 := zx HB hx414_0
              replace p414 := eq_true p414
              replace q414 := eq_true q414
              obtain ⟨hcz25_0, hcz25_1, hcz25_2, hfz25_0, hfz25_1, hfz25_2⟩ := z3 BK408
              go_wp2
              repeat (go_quiet (fail); try go_wp2)
              go_meet
              case rel => exact ⟨_, (decide ((rd l1 t412) ≥ a0_1)), q10c, H', ⟨by have := HJ4.out; have := HK2.out; first | omega | exact Nat.le_refl _⟩, ⟨q10a⟩, ⟨zm HB⟩⟩
             ·rw [if_neg c24] at H
              exact absurd H (by simp)
            ·rw [if_neg c23] at H
             exact absurd H (by simp)
           ·replace c22 := Bool.eq_false_iff.mpr c22
            subst c22
            have H1 : (awardingbodyref20_Judge.j2 k2 x6_2 t412 false) = some (r1, r2) := by rw [if_neg (show ¬ (false = true) by decide)] at H; exact H
            clear H; have H := H1; clear H1; have H' := za H; clear H
            go_wp2
            repeat (go_quiet (fail); try go_wp2)
            go_meet
            case rel => exact ⟨_, (false), q10c, H', ⟨by have := HJ4.out; have := HK2.out; first | omega | exact Nat.le_refl _⟩, ⟨q10a⟩, ⟨zm HB⟩⟩
         case rest =>
          clear HC19; (try clear c1); (try clear c2); (try clear p2); (try clear c4); (try clear p4); (try clear q4); (try clear hx4); (try clear p6); (try clear c9); (try clear c9b0); (try clear c9b1); (try clear c10); (try clear c12); (try clear c13); (try clear c13b0); (try clear c14); (try clear c14b0); (try clear c15); (try clear c15b0); (try clear c21); (try clear c21b0); (try clear c21b1); (try clear c22); (try clear c23); (try clear c23b0); (try clear c24); (try clear c24b0); (try clear hcz16_0); (try clear hcz16_1); (try clear hcz16_2); (try clear hcz17_0); (try clear hcz17_1); (try clear hcz17_2); (try clear hcz20_0); (try clear hcz20_1); (try clear hcz20_2); (try clear hcz25_0); (try clear hcz25_1); (try clear hcz25_2); (try clear hcz7_0); (try clear hcz7_1); (try clear hcz7_2); (try clear hfz16_0); (try clear hfz16_1); (try clear hfz16_2); (try clear hfz17_0); (try clear hfz17_1); (try clear hfz17_2); (try clear hfz20_0); (try clear hfz20_1); (try clear hfz20_2); (try clear hfz25_0); (try clear hfz25_1); (try clear hfz25_2); (try clear hfz7_0); (try clear hfz7_1); (try clear hfz7_2); (try clear hx411_0); (try clear hx414_0); (try clear p2); (try clear p411); (try clear p414); (try clear q411); (try clear q414)
          obtain ⟨kq, x59_18, rfl, HA, HJ18, BK408, HB⟩ := hcut
          cases kq with
          | zero => exact absurd HA.out (by simp [awardingbodyref20_Judge.j2])
          | succ kj18 =>
           have H := HA.out
           clear HA
           simp only [awardingbodyref20_Judge.j2] at H
           by_cases c26 : x59_18 = true
           ·subst c26
            have H1 : (some (t412, 0)) = some (r1, r2) := by rw [if_pos rfl] at H; exact H
            clear H; have H := H1; clear H1
            simp only [Option.some.injEq, Prod.mk.injEq] at H
            obtain ⟨rfl, rfl⟩ := H
            go_wp2
            repeat (go_quiet (fail); try go_wp2)
            go_ret2
            exact ⟨zf, zm HB⟩
           ·replace c26 := Bool.eq_false_iff.mpr c26
            subst c26
            have H1 : (if x6_2 > 1 then (some ((-2), 0)) else (some ((-1), 0))) = some (r1, r2) := by rw [if_neg (show ¬ (false = true) by decide)] at H; exact H
            clear H; have H := H1; clear H1
            by_cases c27 : x6_2 > 1
            ·rw [if_pos c27] at H
             have c27b0 : decide (1 < x6_2) = true := decide_eq_true c27
             clear c27
             simp only [Option.some.injEq, Prod.mk.injEq] at H
             obtain ⟨rfl, rfl⟩ := H
             go_wp2
             repeat (go_quiet (fail); try go_wp2)
             go_ret2
             exact ⟨zf, zm HB⟩
            ·rw [if_neg c27] at H
             have c27b0 : decide (1 < x6_2) = false := decide_eq_false c27
             clear c27
             simp only [Option.some.injEq, Prod.mk.injEq] at H
             obtain ⟨rfl, rfl⟩ := H
             go_wp2
             repeat (go_quiet (fail); try go_wp2)
             go_ret2
             exact ⟨zf, zm HB⟩
     ·replace c12 := Bool.eq_false_iff.mpr c12
      subst c12
      have H1 : (some (0, 2)) = some (r1, r2) := by rw [if_neg (show ¬ (false = true) by decide)] at H; exact H
      clear H; have H := H1; clear H1
      simp only [Option.some.injEq, Prod.mk.injEq] at H
      obtain ⟨rfl, rfl⟩ := H
      go_wp2_with (first | (go_at_call 44; (with_reducible refine (awardingbodyref20_Dark.calls kj4 _ _ l1 false _ ?side1 ?side2 A11.out).mono ?_); (case side1 => exact zC HR1 HB); (case side2 => exact HC1.out); rintro e w' ⟨rfl, ⟨nd, rfl⟩⟩; (try first | exact ⟨rfl, _, World.drewN_drewN _ _ _⟩ | exact ⟨rfl, _, Eq.trans (World.drewN_drewN _ _ _) (congrArg (World.drewN _) (Nat.add_assoc _ _ _))⟩)))
      repeat (go_quiet (first | (go_at_call 44; (with_reducible refine (awardingbodyref20_Dark.calls kj4 _ _ l1 false _ ?side1 ?side2 A11.out).mono ?_); (case side1 => exact zC HR1 HB); (case side2 => exact HC1.out); rintro e w' ⟨rfl, ⟨nd, rfl⟩⟩; (try first | exact ⟨rfl, _, World.drewN_drewN _ _ _⟩ | exact ⟨rfl, _, Eq.trans (World.drewN_drewN _ _ _) (congrArg (World.drewN _) (Nat.add_assoc _ _ _))⟩))); try go_wp2_with (first | (go_at_call 44; (with_reducible refine (awardingbodyref20_Dark.calls kj4 _ _ l1 false _ ?side1 ?side2 A11.out).mono ?_); (case side1 => exact zC HR1 HB); (case side2 => exact HC1.out); rintro e w' ⟨rfl, ⟨nd, rfl⟩⟩; (try first | exact ⟨rfl, _, World.drewN_drewN _ _ _⟩ | exact ⟨rfl, _, Eq.trans (World.drewN_drewN _ _ _) (congrArg (World.drewN _) (Nat.add_assoc _ _ _))⟩))))
      go_ret2
      exact ⟨zf, zm HB⟩
 ·replace c4 := Bool.eq_false_iff.mpr c4
  subst c4
  have H1 : (some (0, 1)) = some (r1, r2) := by rw [if_neg (show ¬ (false = true) by decide)] at H; exact H
  clear H; have H := H1; clear H1
  simp only [Option.some.injEq, Prod.mk.injEq] at H
  obtain ⟨rfl, rfl⟩ := H
  go_enter Try.func22, Try.ntmps22
  go_wp2_with (first | ((with_reducible refine gate_dst (N := 2) rfl ?_); (try (refine gate_guard (by rfl) ?_; dsimp only)); refine zE 2 #[.int .i64 a0_0, .int .i64 a0_1, .int .i64 a0_2] 23 ?_; intro gb408 hg w28 hbox hb; have BK408 := za (hbox); have GW408 := zg HB hg; have GE408 := zg HB hg; replace HB := zs HB hb; clear hb hbox hg; obtain ⟨hcz29_0, hcz29_1, hcz29_2, hfz29_0, hfz29_1, hfz29_2⟩ := z3 BK408) | (go_at_call 13; (with_reducible refine (awardingbodyref20_Valid.calls a0_0 a0_1 a0_2 false _ A3.out).mono ?_); rintro e w30 ⟨rfl, hb⟩; replace BK408 := zb BK408 hb; replace HB := zs HB hb; (try clear hb); (try clear hb2); (try clear hk); (try clear hi)))
  repeat (go_quiet (first | ((with_reducible refine gate_dst (N := 2) rfl ?_); (try (refine gate_guard (by rfl) ?_; dsimp only)); refine zE 2 #[.int .i64 a0_0, .int .i64 a0_1, .int .i64 a0_2] 23 ?_; intro gb408 hg w28 hbox hb; have BK408 := za (hbox); have GW408 := zg HB hg; have GE408 := zg HB hg; replace HB := zs HB hb; clear hb hbox hg; obtain ⟨hcz29_0, hcz29_1, hcz29_2, hfz29_0, hfz29_1, hfz29_2⟩ := z3 BK408) | (go_at_call 13; (with_reducible refine (awardingbodyref20_Valid.calls a0_0 a0_1 a0_2 false _ A3.out).mono ?_); rintro e w30 ⟨rfl, hb⟩; replace BK408 := zb BK408 hb; replace HB := zs HB hb; (try clear hb); (try clear hb2); (try clear hk); (try clear hi))); try go_wp2_with (first | ((with_reducible refine gate_dst (N := 2) rfl ?_); (try (refine gate_guard (by rfl) ?_; dsimp only)); refine zE 2 #[.int .i64 a0_0, .int .i64 a0_1, .int .i64 a0_2] 23 ?_; intro gb408 hg w28 hbox hb; have BK408 := za (hbox); have GW408 := zg HB hg; have GE408 := zg HB hg; replace HB := zs HB hb; clear hb hbox hg; obtain ⟨hcz29_0, hcz29_1, hcz29_2, hfz29_0, hfz29_1, hfz29_2⟩ := z3 BK408) | (go_at_call 13; (with_reducible refine (awardingbodyref20_Valid.calls a0_0 a0_1 a0_2 false _ A3.out).mono ?_); rintro e w30 ⟨rfl, hb⟩; replace BK408 := zb BK408 hb; replace HB := zs HB hb; (try clear hb); (try clear hb2); (try clear hk); (try clear hi))))
  go_ret2
  exact ⟨zf, zm HB⟩

end Go.Proofs.Ythbmpjglkbhhgaa.Print
