-- Printed by a program of this session (wip/own_print.py) out of the translation; Lean checks it.
import Derived.Test.YtinmdoemkejanaaShort
import Derived.Test.YtinmdoemkejanaaPrint0
import Derived.Test.YtinmdoemkejanaaPrint2
namespace Go.Proofs.Ytinmdoemkejanaa.Print
open Go.RowKit Go.Proofs.YtinmdoemkejanaaW.PrintWords Go.Proofs.YtinmdoemkejanaaW.PrintLast Go.Proofs.YtinmdoemkejanaaW.PrintMore
attribute [local go_sem] max2_int min2_int max_two min_two max_three min_three max_four min_four   -- for this text's walks alone
set_option linter.unusedVariables false
set_option linter.unusedSimpArgs false

/-! ### awardingbodyref06_Check: function 20 -/
mutual
def awardingbodyref06_Check.j0 : Nat → Bool → Int → Int → ByteArray → List (S23) → List Int → Option (Int)
  | 0, _, _, _, _, _, _ => none
  | k + 1, x23, x314000, x314001, x314002, x314003, x314004 => if x23 = true then (some 2) else (if (x314002.size : Int) > 40 then (awardingbodyref06_Check.j1 k true x314000 x314001 x314002 x314003 x314004) else (if (x314003.length : Int) > 6 then (awardingbodyref06_Check.j1 k true x314000 x314001 x314002 x314003 x314004) else (awardingbodyref06_Check.j1 k (decide ((x314004.length : Int) > 8)) x314000 x314001 x314002 x314003 x314004)))
def awardingbodyref06_Check.j1 : Nat → Bool → Int → Int → ByteArray → List (S23) → List Int → Option (Int)
  | 0, _, _, _, _, _, _ => none
  | k + 1, x39, x314000, x314001, x314002, x314003, x314004 => if x39 = true then (some 3) else (if x314002.toList = ([] : List UInt8) then (some 7) else (awardingbodyref06_Check.l0 k 0 x314000 x314001 x314002 x314003 x314004))
def awardingbodyref06_Check.l0 : Nat → Int → Int → Int → ByteArray → List (S23) → List Int → Option (Int)
  | 0, _, _, _, _, _, _ => none
  | k + 1, x3, x314000, x314001, x314002, x314003, x314004 => if x3 < (x314002.size : Int) then (if 0 ≤ x3 then (if (bt x314002 x3) < 32 then (some 7) else (if (bt x314002 x3) > 126 then (some 7) else (awardingbodyref06_Check.l0 k (wrap64 (x3 + 1)) x314000 x314001 x314002 x314003 x314004))) else (none)) else (if (x314003.length : Int) = 0 then (some 10) else (awardingbodyref06_Check.l1 k 0 x314000 x314001 x314002 x314003 x314004))
def awardingbodyref06_Check.l1 : Nat → Int → Int → Int → ByteArray → List (S23) → List Int → Option (Int)
  | 0, _, _, _, _, _, _ => none
  | k + 1, x4, x314000, x314001, x314002, x314003, x314004 => if x4 < (x314003.length : Int) then (if 0 ≤ x4 then ((awardingbodyref06_ValidPart.f k ((rd_T23 x314003 x4).f0) ((rd_T23 x314003 x4).f1) ((rd_T23 x314003 x4).f2) ((rd_T23 x314003 x4).f3) ((rd_T23 x314003 x4).f4) ((rd_T23 x314003 x4).f5)).bind fun t315 => (if t315 = true then (awardingbodyref06_Check.l1 k (wrap64 (x4 + 1)) x314000 x314001 x314002 x314003 x314004) else (some 1))) else (none)) else (awardingbodyref06_Check.l2 k 0 x314000 x314001 x314002 x314003 x314004)
def awardingbodyref06_Check.l2 : Nat → Int → Int → Int → ByteArray → List (S23) → List Int → Option (Int)
  | 0, _, _, _, _, _, _ => none
  | k + 1, x5, x314000, x314001, x314002, x314003, x314004 => if x5 < (x314004.length : Int) then (if 0 ≤ x5 then (if (rd x314004 x5) < 0 then (some 9) else (if (rd x314004 x5) > 9999 then (some 9) else (if (rd x314004 x5) = x314000 then (some 9) else (if x5 > 0 then (if 0 ≤ (wrap64 (x5 - 1)) then (if (wrap64 (x5 - 1)) < (x314004.length : Int) then (if (rd x314004 (wrap64 (x5 - 1))) ≥ (rd x314004 x5) then (some 9) else (awardingbodyref06_Check.l2 k (wrap64 (x5 + 1)) x314000 x314001 x314002 x314003 x314004)) else (none)) else (none)) else (awardingbodyref06_Check.l2 k (wrap64 (x5 + 1)) x314000 x314001 x314002 x314003 x314004))))) else (none)) else (some 0)
end
def awardingbodyref06_Check.f (k : Nat) (a0_0 : Int) (a0_1 : Int) (a0_2 : ByteArray) (l0_3 : List (S23)) (l0_4 : List Int) : Option (Int) := if a0_0 < 0 then (awardingbodyref06_Check.j0 k true a0_0 a0_1 a0_2 l0_3 l0_4) else (if a0_0 > 9999 then (awardingbodyref06_Check.j0 k true a0_0 a0_1 a0_2 l0_3 l0_4) else (if a0_1 < 1 then (awardingbodyref06_Check.j0 k true a0_0 a0_1 a0_2 l0_3 l0_4) else (awardingbodyref06_Check.j0 k (decide (a0_1 > 8)) a0_0 a0_1 a0_2 l0_3 l0_4)))
theorem awardingbodyref06_Check.mono_l : ∀ k, (∀ y0 y1 y2 y3 y4 y5, LeO (awardingbodyref06_Check.j0 k y0 y1 y2 y3 y4 y5) (awardingbodyref06_Check.j0 (k + 1) y0 y1 y2 y3 y4 y5)) ∧ (∀ y0 y1 y2 y3 y4 y5, LeO (awardingbodyref06_Check.j1 k y0 y1 y2 y3 y4 y5) (awardingbodyref06_Check.j1 (k + 1) y0 y1 y2 y3 y4 y5)) ∧ (∀ y0 y1 y2 y3 y4 y5, LeO (awardingbodyref06_Check.l0 k y0 y1 y2 y3 y4 y5) (awardingbodyref06_Check.l0 (k + 1) y0 y1 y2 y3 y4 y5)) ∧ (∀ y0 y1 y2 y3 y4 y5, LeO (awardingbodyref06_Check.l1 k y0 y1 y2 y3 y4 y5) (awardingbodyref06_Check.l1 (k + 1) y0 y1 y2 y3 y4 y5)) ∧ (∀ y0 y1 y2 y3 y4 y5, LeO (awardingbodyref06_Check.l2 k y0 y1 y2 y3 y4 y5) (awardingbodyref06_Check.l2 (k + 1) y0 y1 y2 y3 y4 y5))
  | 0 => ⟨fun _ _ _ _ _ _ r h => by simp [awardingbodyref06_Check.j0] at h, fun _ _ _ _ _ _ r h => by simp [awardingbodyref06_Check.j1] at h, fun _ _ _ _ _ _ r h => by simp [awardingbodyref06_Check.l0] at h, fun _ _ _ _ _ _ r h => by simp [awardingbodyref06_Check.l1] at h, fun _ _ _ _ _ _ r h => by simp [awardingbodyref06_Check.l2] at h⟩
  | k + 1 => by
    obtain ⟨ih0, ih1, ih2, ih3, ih4⟩ := awardingbodyref06_Check.mono_l k
    refine ⟨?_, ?_, ?_, ?_, ?_⟩
    · intro y0 y1 y2 y3 y4 y5
      unfold awardingbodyref06_Check.j0
      repeat' first
      | (with_reducible exact ih0 _ _ _ _ _ _)
      | (with_reducible exact ih1 _ _ _ _ _ _)
      | (with_reducible exact ih2 _ _ _ _ _ _)
      | (with_reducible exact ih3 _ _ _ _ _ _)
      | (with_reducible exact ih4 _ _ _ _ _ _)
      | (with_reducible exact awardingbodyref06_ValidPart.mono _ _ _ _ _ _ _)
      | (with_reducible exact LeO.refl _)
      | (with_reducible exact LeO.none _)
      | (with_reducible refine LeO.ite ?_ ?_)
      | (with_reducible refine LeO.bind ?_ (fun _ => ?_))
      | exact ih0 _ _ _ _ _ _
      | exact ih1 _ _ _ _ _ _
      | exact ih2 _ _ _ _ _ _
      | exact ih3 _ _ _ _ _ _
      | exact ih4 _ _ _ _ _ _
      | exact awardingbodyref06_ValidPart.mono _ _ _ _ _ _ _
      | exact LeO.none _
      | refine LeO.ite ?_ ?_
      | refine LeO.bind ?_ (fun _ => ?_)
    · intro y0 y1 y2 y3 y4 y5
      unfold awardingbodyref06_Check.j1
      repeat' first
      | (with_reducible exact ih0 _ _ _ _ _ _)
      | (with_reducible exact ih1 _ _ _ _ _ _)
      | (with_reducible exact ih2 _ _ _ _ _ _)
      | (with_reducible exact ih3 _ _ _ _ _ _)
      | (with_reducible exact ih4 _ _ _ _ _ _)
      | (with_reducible exact awardingbodyref06_ValidPart.mono _ _ _ _ _ _ _)
      | (with_reducible exact LeO.refl _)
      | (with_reducible exact LeO.none _)
      | (with_reducible refine LeO.ite ?_ ?_)
      | (with_reducible refine LeO.bind ?_ (fun _ => ?_))
      | exact ih0 _ _ _ _ _ _
      | exact ih1 _ _ _ _ _ _
      | exact ih2 _ _ _ _ _ _
      | exact ih3 _ _ _ _ _ _
      | exact ih4 _ _ _ _ _ _
      | exact awardingbodyref06_ValidPart.mono _ _ _ _ _ _ _
      | exact LeO.none _
      | refine LeO.ite ?_ ?_
      | refine LeO.bind ?_ (fun _ => ?_)
    · intro y0 y1 y2 y3 y4 y5
      unfold awardingbodyref06_Check.l0
      repeat' first
      | (with_reducible exact ih0 _ _ _ _ _ _)
      | (with_reducible exact ih1 _ _ _ _ _ _)
      | (with_reducible exact ih2 _ _ _ _ _ _)
      | (with_reducible exact ih3 _ _ _ _ _ _)
      | (with_reducible exact ih4 _ _ _ _ _ _)
      | (with_reducible exact awardingbodyref06_ValidPart.mono _ _ _ _ _ _ _)
      | (with_reducible exact LeO.refl _)
      | (with_reducible exact LeO.none _)
      | (with_reducible refine LeO.ite ?_ ?_)
      | (with_reducible refine LeO.bind ?_ (fun _ => ?_))
      | exact ih0 _ _ _ _ _ _
      | exact ih1 _ _ _ _ _ _
      | exact ih2 _ _ _ _ _ _
      | exact ih3 _ _ _ _ _ _
      | exact ih4 _ _ _ _ _ _
      | exact awardingbodyref06_ValidPart.mono _ _ _ _ _ _ _
      | exact LeO.none _
      | refine LeO.ite ?_ ?_
      | refine LeO.bind ?_ (fun _ => ?_)
    · intro y0 y1 y2 y3 y4 y5
      unfold awardingbodyref06_Check.l1
      repeat' first
      | (with_reducible exact ih0 _ _ _ _ _ _)
      | (with_reducible exact ih1 _ _ _ _ _ _)
      | (with_reducible exact ih2 _ _ _ _ _ _)
      | (with_reducible exact ih3 _ _ _ _ _ _)
      | (with_reducible exact ih4 _ _ _ _ _ _)
      | (with_reducible exact awardingbodyref06_ValidPart.mono _ _ _ _ _ _ _)
      | (with_reducible exact LeO.refl _)
      | (with_reducible exact LeO.none _)
      | (with_reducible refine LeO.ite ?_ ?_)
      | (with_reducible refine LeO.bind ?_ (fun _ => ?_))
      | exact ih0 _ _ _ _ _ _
      | exact ih1 _ _ _ _ _ _
      | exact ih2 _ _ _ _ _ _
      | exact ih3 _ _ _ _ _ _
      | exact ih4 _ _ _ _ _ _
      | exact awardingbodyref06_ValidPart.mono _ _ _ _ _ _ _
      | exact LeO.none _
      | refine LeO.ite ?_ ?_
      | refine LeO.bind ?_ (fun _ => ?_)
    · intro y0 y1 y2 y3 y4 y5
      unfold awardingbodyref06_Check.l2
      repeat' first
      | (with_reducible exact ih0 _ _ _ _ _ _)
      | (with_reducible exact ih1 _ _ _ _ _ _)
      | (with_reducible exact ih2 _ _ _ _ _ _)
      | (with_reducible exact ih3 _ _ _ _ _ _)
      | (with_reducible exact ih4 _ _ _ _ _ _)
      | (with_reducible exact awardingbodyref06_ValidPart.mono _ _ _ _ _ _ _)
      | (with_reducible exact LeO.refl _)
      | (with_reducible exact LeO.none _)
      | (with_reducible refine LeO.ite ?_ ?_)
      | (with_reducible refine LeO.bind ?_ (fun _ => ?_))
      | exact ih0 _ _ _ _ _ _
      | exact ih1 _ _ _ _ _ _
      | exact ih2 _ _ _ _ _ _
      | exact ih3 _ _ _ _ _ _
      | exact ih4 _ _ _ _ _ _
      | exact awardingbodyref06_ValidPart.mono _ _ _ _ _ _ _
      | exact LeO.none _
      | refine LeO.ite ?_ ?_
      | refine LeO.bind ?_ (fun _ => ?_)
theorem awardingbodyref06_Check.mono : ∀ a0 a1 a2 a3 a4 k, LeO (awardingbodyref06_Check.f k a0 a1 a2 a3 a4) (awardingbodyref06_Check.f (k + 1) a0 a1 a2 a3 a4) := by
  intro a0 a1 a2 a3 a4 k
  obtain ⟨ih0, ih1, ih2, ih3, ih4⟩ := awardingbodyref06_Check.mono_l k
  unfold awardingbodyref06_Check.f
  repeat' first
      | (with_reducible exact ih0 _ _ _ _ _ _)
      | (with_reducible exact ih1 _ _ _ _ _ _)
      | (with_reducible exact ih2 _ _ _ _ _ _)
      | (with_reducible exact ih3 _ _ _ _ _ _)
      | (with_reducible exact ih4 _ _ _ _ _ _)
      | (with_reducible exact awardingbodyref06_ValidPart.mono _ _ _ _ _ _ _)
      | (with_reducible exact LeO.refl _)
      | (with_reducible exact LeO.none _)
      | (with_reducible refine LeO.ite ?_ ?_)
      | (with_reducible refine LeO.bind ?_ (fun _ => ?_))
      | exact ih0 _ _ _ _ _ _
      | exact ih1 _ _ _ _ _ _
      | exact ih2 _ _ _ _ _ _
      | exact ih3 _ _ _ _ _ _
      | exact ih4 _ _ _ _ _ _
      | exact awardingbodyref06_ValidPart.mono _ _ _ _ _ _ _
      | exact LeO.none _
      | refine LeO.ite ?_ ?_
      | refine LeO.bind ?_ (fun _ => ?_)
set_option maxHeartbeats 8000000 in
set_option maxRecDepth 100000 in
theorem awardingbodyref06_Check.calls (k : Nat) (a0_0 : Int) (a0_1 : Int) (a0_2 : ByteArray) (A0_3 : Option Addr) (c0_3 : Nat) (l0_3 : List (S23)) (A0_4 : Option Addr) (c0_4 : Nat) (l0_4 : List Int) (r : Int) (w : World) (hr0_3 : Kd.C k23 w A0_3 l0_3.length l0_3) (hc0_3 : l0_3.length ≤ c0_3) (hr0_4 : Kd.C (Kd.int .i64) w A0_4 l0_4.length l0_4) (hc0_4 : l0_4.length ≤ c0_4) (h : awardingbodyref06_Check.f k a0_0 a0_1 a0_2 l0_3 l0_4 = some r) :
    Calls Try.prog 20 #[.agg #[.int .i64 a0_0, .int .i64 a0_1, .string a0_2, .slice A0_3 l0_3.length c0_3, .slice A0_4 l0_4.length c0_4]] w fun e w' => e = .returned (.int .i64 r) ∧ Below w.heap.size w w' := by
 have hu33 := Try.underlying33
 have hu23 := Try.underlying23
 have HR0_3 := za hr0_3
 have HC0_3 := za hc0_3
 clear hr0_3 hc0_3
 have HR0_4 := za hr0_4
 have HC0_4 := za hc0_4
 clear hr0_4 hc0_4
 have HB := za (Below.refl w.heap.size w)
 have H : (if a0_0 < 0 then (awardingbodyref06_Check.j0 k true a0_0 a0_1 a0_2 l0_3 l0_4) else (if a0_0 > 9999 then (awardingbodyref06_Check.j0 k true a0_0 a0_1 a0_2 l0_3 l0_4) else (if a0_1 < 1 then (awardingbodyref06_Check.j0 k true a0_0 a0_1 a0_2 l0_3 l0_4) else (awardingbodyref06_Check.j0 k (decide (a0_1 > 8)) a0_0 a0_1 a0_2 l0_3 l0_4)))) = some r := h
 clear h
 have HC2 := za H
 clear H
 go_enter Try.func20, Try.ntmps20
 go_upto_region 1 with (first | ((with_reducible refine gate_dst (N := 1) rfl ?_); (try (refine gate_guard (by rfl) ?_; dsimp only)); refine zE 1 #[.int .i64 a0_0, .int .i64 a0_1, .string a0_2, .slice A0_3 l0_3.length c0_3, .slice A0_4 l0_4.length c0_4] 33 ?_; intro gb313 hg w3 hbox hb; have BK313 := za (hbox); have GW313 := zg HB hg; have GE313 := zg HB hg; replace HB := zs HB hb; clear hb hbox hg))
 repeat (go_quiet (first | ((with_reducible refine gate_dst (N := 1) rfl ?_); (try (refine gate_guard (by rfl) ?_; dsimp only)); refine zE 1 #[.int .i64 a0_0, .int .i64 a0_1, .string a0_2, .slice A0_3 l0_3.length c0_3, .slice A0_4 l0_4.length c0_4] 33 ?_; intro gb313 hg w3 hbox hb; have BK313 := za (hbox); have GW313 := zg HB hg; have GE313 := zg HB hg; replace HB := zs HB hb; clear hb hbox hg)); go_upto_region 1 with (first | ((with_reducible refine gate_dst (N := 1) rfl ?_); (try (refine gate_guard (by rfl) ?_; dsimp only)); refine zE 1 #[.int .i64 a0_0, .int .i64 a0_1, .string a0_2, .slice A0_3 l0_3.length c0_3, .slice A0_4 l0_4.length c0_4] 33 ?_; intro gb313 hg w3 hbox hb; have BK313 := za (hbox); have GW313 := zg HB hg; have GE313 := zg HB hg; replace HB := zs HB hb; clear hb hbox hg)))
 (try simp only [Act.put, List.setIfInBounds_toArray, List.set_cons_zero, List.set_cons_succ])
 go_cut [23] (fun v23 wc => ∃ (kq : Nat) (x23_1 : Bool), v23 = .bool x23_1 ∧ Aside0 (awardingbodyref06_Check.j0 kq x23_1 a0_0 a0_1 a0_2 l0_3 l0_4 = some r) ∧ Aside0 (kq ≤ k) ∧ Aside0 (wc.heap[gb313]? = some (.cells #[.int .i64 a0_0, .int .i64 a0_1, .string a0_2, (.slice A0_3 l0_3.length c0_3), (.slice A0_4 l0_4.length c0_4)] 33 (0, 0))) ∧ Aside0 (Below w.heap.size w wc))
 case first =>
  have H := HC2.out
  clear HC2
  by_cases c4 : a0_0 < 0
  ·rw [if_pos c4] at H
   have c4b0 : decide (a0_0 < 0) = true := decide_eq_true c4
   clear c4
   (first | rw [c4b0] | (simp only [i64_w, i32_w]; rw [c4b0]) | skip)
   have H' := za H
   clear H
   obtain ⟨hcz5_0, hcz5_1, hcz5_2, hcz5_3, hcz5_4, hfz5_0, hfz5_1, hfz5_2, hfz5_3, hfz5_4⟩ := z5 BK313
   go_wp2
   repeat (go_quiet (fail); try go_wp2)
   go_meet
   case rel => exact ⟨_, (true), (by first | rfl | (simp; done) | (simp [*]; done)), H', ⟨by first | omega | exact Nat.le_refl _⟩, ⟨by (with_reducible repeat (first | refine blk_drewN ?_ _ | refine blk_drew ?_ | refine blk_alloc ?_ _)); exact BK313.out⟩, ⟨zm HB⟩⟩
  ·rw [if_neg c4] at H
   have c4b0 : decide (a0_0 < 0) = false := decide_eq_false c4
   clear c4
   (first | rw [c4b0] | (simp only [i64_w, i32_w]; rw [c4b0]) | skip)
   by_cases c6 : a0_0 > 9999
   ·rw [if_pos c6] at H
    have c6b0 : decide (9999 < a0_0) = true := decide_eq_true c6
    clear c6
    have H' := za H
    clear H
    obtain ⟨hcz7_0, hcz7_1, hcz7_2, hcz7_3, hcz7_4, hfz7_0, hfz7_1, hfz7_2, hfz7_3, hfz7_4⟩ := z5 BK313
    go_wp2
    repeat (go_quiet (fail); try go_wp2)
    go_meet
    case rel => exact ⟨_, (true), (by first | rfl | (simp; done) | (simp [*]; done)), H', ⟨by first | omega | exact Nat.le_refl _⟩, ⟨by (with_reducible repeat (first | refine blk_drewN ?_ _ | refine blk_drew ?_ | refine blk_alloc ?_ _)); exact BK313.out⟩, ⟨zm HB⟩⟩
   ·rw [if_neg c6] at H
    have c6b0 : decide (9999 < a0_0) = false := decide_eq_false c6
    clear c6
    by_cases c8 : a0_1 < 1
    ·rw [if_pos c8] at H
     have c8b0 : decide (a0_1 < 1) = true := decide_eq_true c8
     clear c8
     have H' := za H
     clear H
     obtain ⟨hcz9_0, hcz9_1, hcz9_2, hcz9_3, hcz9_4, hfz9_0, hfz9_1, hfz9_2, hfz9_3, hfz9_4⟩ := z5 BK313
     go_wp2
     repeat (go_quiet (fail); try go_wp2)
     go_meet
     case rel => exact ⟨_, (true), (by first | rfl | (simp; done) | (simp [*]; done)), H', ⟨by first | omega | exact Nat.le_refl _⟩, ⟨by (with_reducible repeat (first | refine blk_drewN ?_ _ | refine blk_drew ?_ | refine blk_alloc ?_ _)); exact BK313.out⟩, ⟨zm HB⟩⟩
    ·rw [if_neg c8] at H
     have c8b0 : decide (a0_1 < 1) = false := decide_eq_false c8
     clear c8
     have H' := za H
     clear H
     obtain ⟨hcz10_0, hcz10_1, hcz10_2, hcz10_3, hcz10_4, hfz10_0, hfz10_1, hfz10_2, hfz10_3, hfz10_4⟩ := z5 BK313
     go_wp2
     repeat (go_quiet (fail); try go_wp2)
     go_meet
     case rel => exact ⟨_, (decide (a0_1 > 8)), (by first | rfl | (simp; done) | (simp [*]; done)), H', ⟨by first | omega | exact Nat.le_refl _⟩, ⟨by (with_reducible repeat (first | refine blk_drewN ?_ _ | refine blk_drew ?_ | refine blk_alloc ?_ _)); exact BK313.out⟩, ⟨zm HB⟩⟩
 case rest =>
  clear HC2
  try clear c2
  try clear p2
  try clear c4
  try clear c4b0
  try clear c6
  try clear c6b0
  try clear c8
  try clear c8b0
  try clear hcz10_0
  try clear hcz10_1
  try clear hcz10_2
  try clear hcz10_3
  try clear hcz10_4
  try clear hcz5_0
  try clear hcz5_1
  try clear hcz5_2
  try clear hcz5_3
  try clear hcz5_4
  try clear hcz7_0
  try clear hcz7_1
  try clear hcz7_2
  try clear hcz7_3
  try clear hcz7_4
  try clear hcz9_0
  try clear hcz9_1
  try clear hcz9_2
  try clear hcz9_3
  try clear hcz9_4
  try clear hfz10_0
  try clear hfz10_1
  try clear hfz10_2
  try clear hfz10_3
  try clear hfz10_4
  try clear hfz5_0
  try clear hfz5_1
  try clear hfz5_2
  try clear hfz5_3
  try clear hfz5_4
  try clear hfz7_0
  try clear hfz7_1
  try clear hfz7_2
  try clear hfz7_3
  try clear hfz7_4
  try clear hfz9_0
  try clear hfz9_1
  try clear hfz9_2
  try clear hfz9_3
  try clear hfz9_4
  obtain ⟨kq, x23_1, rfl, HA, HJ1, BK313, HB⟩ := hcut
  cases kq with
  | zero => exact absurd HA.out (by simp [awardingbodyref06_Check.j0])
  | succ kj1 =>
   have H := HA.out
   clear HA
   simp only [awardingbodyref06_Check.j0] at H
   by_cases c11 : x23_1 = true
   ·subst c11
    have H1 : (some 2) = some r := by rw [if_pos rfl] at H; exact H
    clear H
    have H := H1
    clear H1
    obtain rfl := Option.some.inj H
    go_wp2
    repeat (go_quiet (fail); try go_wp2)
    go_ret
    exact ⟨zf, zm HB⟩
   ·replace c11 := Bool.eq_false_iff.mpr c11
    subst c11
    have H1 : (if (a0_2.size : Int) > 40 then (awardingbodyref06_Check.j1 kj1 true a0_0 a0_1 a0_2 l0_3 l0_4) else (if (l0_3.length : Int) > 6 then (awardingbodyref06_Check.j1 kj1 true a0_0 a0_1 a0_2 l0_3 l0_4) else (awardingbodyref06_Check.j1 kj1 (decide ((l0_4.length : Int) > 8)) a0_0 a0_1 a0_2 l0_3 l0_4))) = some r := by rw [if_neg (show ¬ (false = true) by decide)] at H; exact H
    clear H
    have H := H1
    clear H1
    have HC12 := za H
    clear H
    go_upto_region 3 with (fail)
    repeat (go_quiet (fail); go_upto_region 3 with (fail))
    go_cut [39] (fun v39 wc => ∃ (kq : Nat) (x39_11 : Bool), v39 = .bool x39_11 ∧ Aside0 (awardingbodyref06_Check.j1 kq x39_11 a0_0 a0_1 a0_2 l0_3 l0_4 = some r) ∧ Aside0 (kq ≤ kj1) ∧ Aside0 (wc.heap[gb313]? = some (.cells #[.int .i64 a0_0, .int .i64 a0_1, .string a0_2, (.slice A0_3 l0_3.length c0_3), (.slice A0_4 l0_4.length c0_4)] 33 (0, 0))) ∧ Aside0 (Below w.heap.size w wc))
    case first =>
     have H := HC12.out
     clear HC12
     by_cases c13 : (a0_2.size : Int) > 40
     ·rw [if_pos c13] at H
      have c13b0 : decide (40 < (a0_2.size : Int)) = true := decide_eq_true c13
      have c13b1 : decide (40 < a0_2.size) = true := decide_eq_true (by omega)
      clear c13
      (first | rw [c13b0] | (simp only [i64_w, i32_w]; rw [c13b0]) | skip)
      have H' := za H
      clear H
      obtain ⟨hcz14_0, hcz14_1, hcz14_2, hcz14_3, hcz14_4, hfz14_0, hfz14_1, hfz14_2, hfz14_3, hfz14_4⟩ := z5 BK313
      go_wp2
      repeat (go_quiet (fail); try go_wp2)
      go_meet
      case rel => exact ⟨_, (true), (by first | rfl | (simp; done) | (simp [*]; done)), H', ⟨by have := HJ1.out; first | omega | exact Nat.le_refl _⟩, ⟨by (with_reducible repeat (first | refine blk_drewN ?_ _ | refine blk_drew ?_ | refine blk_alloc ?_ _)); exact BK313.out⟩, ⟨zm HB⟩⟩
     ·rw [if_neg c13] at H
      have c13b0 : decide (40 < (a0_2.size : Int)) = false := decide_eq_false c13
      have c13b1 : decide (40 < a0_2.size) = false := decide_eq_false (by omega)
      clear c13
      (first | rw [c13b0] | (simp only [i64_w, i32_w]; rw [c13b0]) | skip)
      by_cases c15 : (l0_3.length : Int) > 6
      ·rw [if_pos c15] at H
       have c15b0 : decide (6 < (l0_3.length : Int)) = true := decide_eq_true c15
       have c15b1 : decide (6 < l0_3.length) = true := decide_eq_true (by omega)
       clear c15
       have H' := za H
       clear H
       obtain ⟨hcz16_0, hcz16_1, hcz16_2, hcz16_3, hcz16_4, hfz16_0, hfz16_1, hfz16_2, hfz16_3, hfz16_4⟩ := z5 BK313
       go_wp2
       repeat (go_quiet (fail); try go_wp2)
       go_meet
       case rel => exact ⟨_, (true), (by first | rfl | (simp; done) | (simp [*]; done)), H', ⟨by have := HJ1.out; first | omega | exact Nat.le_refl _⟩, ⟨by (with_reducible repeat (first | refine blk_drewN ?_ _ | refine blk_drew ?_ | refine blk_alloc ?_ _)); exact BK313.out⟩, ⟨zm HB⟩⟩
      ·rw [if_neg c15] at H
       have c15b0 : decide (6 < (l0_3.length : Int)) = false := decide_eq_false c15
       have c15b1 : decide (6 < l0_3.length) = false := decide_eq_false (by omega)
       clear c15
       have H' := za H
       clear H
       obtain ⟨hcz17_0, hcz17_1, hcz17_2, hcz17_3, hcz17_4, hfz17_0, hfz17_1, hfz17_2, hfz17_3, hfz17_4⟩ := z5 BK313
       go_wp2
       repeat (go_quiet (fail); try go_wp2)
       go_meet
       case rel => exact ⟨_, (decide ((l0_4.length : Int) > 8)), (by first | rfl | (simp; done) | (simp [*]; done)), H', ⟨by have := HJ1.out; first | omega | exact Nat.le_refl _⟩, ⟨by (with_reducible repeat (first | refine blk_drewN ?_ _ | refine blk_drew ?_ | refine blk_alloc ?_ _)); exact BK313.out⟩, ⟨zm HB⟩⟩
    case rest =>
     clear HC12
     try clear c1
     try clear c2
     try clear p2
     try clear c4
     try clear c4b0
     try clear c6
     try clear c6b0
     try clear c8
     try clear c8b0
     try clear c11
     try clear c13
     try clear c13b0
     try clear c13b1
     try clear c15
     try clear c15b0
     try clear c15b1
     try clear hcz10_0
     try clear hcz10_1
     try clear hcz10_2
     try clear hcz10_3
     try clear hcz10_4
     try clear hcz14_0
     try clear hcz14_1
     try clear hcz14_2
     try clear hcz14_3
     try clear hcz14_4
     try clear hcz16_0
     try clear hcz16_1
     try clear hcz16_2
     try clear hcz16_3
     try clear hcz16_4
     try clear hcz17_0
     try clear hcz17_1
     try clear hcz17_2
     try clear hcz17_3
     try clear hcz17_4
     try clear hcz5_0
     try clear hcz5_1
     try clear hcz5_2
     try clear hcz5_3
     try clear hcz5_4
     try clear hcz7_0
     try clear hcz7_1
     try clear hcz7_2
     try clear hcz7_3
     try clear hcz7_4
     try clear hcz9_0
     try clear hcz9_1
     try clear hcz9_2
     try clear hcz9_3
     try clear hcz9_4
     try clear hfz10_0
     try clear hfz10_1
     try clear hfz10_2
     try clear hfz10_3
     try clear hfz10_4
     try clear hfz14_0
     try clear hfz14_1
     try clear hfz14_2
     try clear hfz14_3
     try clear hfz14_4
     try clear hfz16_0
     try clear hfz16_1
     try clear hfz16_2
     try clear hfz16_3
     try clear hfz16_4
     try clear hfz17_0
     try clear hfz17_1
     try clear hfz17_2
     try clear hfz17_3
     try clear hfz17_4
     try clear hfz5_0
     try clear hfz5_1
     try clear hfz5_2
     try clear hfz5_3
     try clear hfz5_4
     try clear hfz7_0
     try clear hfz7_1
     try clear hfz7_2
     try clear hfz7_3
     try clear hfz7_4
     try clear hfz9_0
     try clear hfz9_1
     try clear hfz9_2
     try clear hfz9_3
     try clear hfz9_4
     try clear p2
     obtain ⟨kq, x39_11, rfl, HA, HJ11, BK313, HB⟩ := hcut
     cases kq with
     | zero => exact absurd HA.out (by simp [awardingbodyref06_Check.j1])
     | succ kj11 =>
      have H := HA.out
      clear HA
      simp only [awardingbodyref06_Check.j1] at H
      by_cases c18 : x39_11 = true
      ·subst c18
       have H1 : (some 3) = some r := by rw [if_pos rfl] at H; exact H
       clear H
       have H := H1
       clear H1
       obtain rfl := Option.some.inj H
       go_wp2
       repeat (go_quiet (fail); try go_wp2)
       go_ret
       exact ⟨zf, zm HB⟩
      ·replace c18 := Bool.eq_false_iff.mpr c18
       subst c18
       have H1 : (if a0_2.toList = ([] : List UInt8) then (some 7) else (awardingbodyref06_Check.l0 kj11 0 a0_0 a0_1 a0_2 l0_3 l0_4)) = some r := by rw [if_neg (show ¬ (false = true) by decide)] at H; exact H
       clear H
       have H := H1
       clear H1
       by_cases c19 : a0_2.toList = ([] : List UInt8)
       ·rw [if_pos c19] at H
        have c19b0 : (a0_2.toList == ([] : List UInt8)) = true := beq_iff_eq.mpr c19
        have c19b1 : (a0_2.toList != ([] : List UInt8)) = false := bne_eq_false_iff_eq.mpr c19
        clear c19
        obtain rfl := Option.some.inj H
        obtain ⟨hcz20_0, hcz20_1, hcz20_2, hcz20_3, hcz20_4, hfz20_0, hfz20_1, hfz20_2, hfz20_3, hfz20_4⟩ := z5 BK313
        go_wp2
        repeat (go_quiet (fail); try go_wp2)
        go_ret
        exact ⟨zf, zm HB⟩
       ·rw [if_neg c19] at H
        have c19b0 : (a0_2.toList == ([] : List UInt8)) = false := beq_eq_false_iff_ne.mpr c19
        have c19b1 : (a0_2.toList != ([] : List UInt8)) = true := bne_iff_ne.mpr c19
        have H' := za H
        clear H
        obtain ⟨hcz21_0, hcz21_1, hcz21_2, hcz21_3, hcz21_4, hfz21_0, hfz21_1, hfz21_2, hfz21_3, hfz21_4⟩ := z5 BK313
        go_wp2
        repeat (go_quiet (fail); try go_wp2)
        go_loopg [3] kj11 (fun kq v3 w' => ∃ (x3_3 : Int), v3 = .int .i64 x3_3 ∧ Aside0 (awardingbodyref06_Check.l0 kq x3_3 a0_0 a0_1 a0_2 l0_3 l0_4 = some r) ∧ Aside0 (kq ≤ kj11) ∧ Aside0 (w'.heap[gb313]? = some (.cells #[.int .i64 a0_0, .int .i64 a0_1, .string a0_2, (.slice A0_3 l0_3.length c0_3), (.slice A0_4 l0_4.length c0_4)] 33 (0, 0))) ∧ Aside0 (Below w.heap.size w w'))
        case atStart => exact ⟨(0), (by first | rfl | (simp; done) | (simp [*]; done)), H', ⟨Nat.le_refl _⟩, ⟨by (with_reducible repeat (first | refine blk_drewN ?_ _ | refine blk_drew ?_ | refine blk_alloc ?_ _)); exact BK313.out⟩, ⟨zm HB⟩⟩
        case round =>
         clear H'
         try clear c1
         try clear c2
         try clear p2
         try clear c4
         try clear c4b0
         try clear c6
         try clear c6b0
         try clear c8
         try clear c8b0
         try clear c11
         try clear c13
         try clear c13b0
         try clear c13b1
         try clear c15
         try clear c15b0
         try clear c15b1
         try clear c18
         try clear c19
         try clear c19b0
         try clear c19b1
         try clear c20
         try clear hcz10_0
         try clear hcz10_1
         try clear hcz10_2
         try clear hcz10_3
         try clear hcz10_4
         try clear hcz14_0
         try clear hcz14_1
         try clear hcz14_2
         try clear hcz14_3
         try clear hcz14_4
         try clear hcz16_0
         try clear hcz16_1
         try clear hcz16_2
         try clear hcz16_3
         try clear hcz16_4
         try clear hcz17_0
         try clear hcz17_1
         try clear hcz17_2
         try clear hcz17_3
         try clear hcz17_4
         try clear hcz20_0
         try clear hcz20_1
         try clear hcz20_2
         try clear hcz20_3
         try clear hcz20_4
         try clear hcz21_0
         try clear hcz21_1
         try clear hcz21_2
         try clear hcz21_3
         try clear hcz21_4
         try clear hcz5_0
         try clear hcz5_1
         try clear hcz5_2
         try clear hcz5_3
         try clear hcz5_4
         try clear hcz7_0
         try clear hcz7_1
         try clear hcz7_2
         try clear hcz7_3
         try clear hcz7_4
         try clear hcz9_0
         try clear hcz9_1
         try clear hcz9_2
         try clear hcz9_3
         try clear hcz9_4
         try clear hfz10_0
         try clear hfz10_1
         try clear hfz10_2
         try clear hfz10_3
         try clear hfz10_4
         try clear hfz14_0
         try clear hfz14_1
         try clear hfz14_2
         try clear hfz14_3
         try clear hfz14_4
         try clear hfz16_0
         try clear hfz16_1
         try clear hfz16_2
         try clear hfz16_3
         try clear hfz16_4
         try clear hfz17_0
         try clear hfz17_1
         try clear hfz17_2
         try clear hfz17_3
         try clear hfz17_4
         try clear hfz20_0
         try clear hfz20_1
         try clear hfz20_2
         try clear hfz20_3
         try clear hfz20_4
         try clear hfz21_0
         try clear hfz21_1
         try clear hfz21_2
         try clear hfz21_3
         try clear hfz21_4
         try clear hfz5_0
         try clear hfz5_1
         try clear hfz5_2
         try clear hfz5_3
         try clear hfz5_4
         try clear hfz7_0
         try clear hfz7_1
         try clear hfz7_2
         try clear hfz7_3
         try clear hfz7_4
         try clear hfz9_0
         try clear hfz9_1
         try clear hfz9_2
         try clear hfz9_3
         try clear hfz9_4
         try clear p2
         obtain ⟨x3_3, rfl, HA, HK3, BK313, HB⟩ := hrel
         cases gk with
         | zero => exact absurd HA.out (by simp [awardingbodyref06_Check.l0])
         | succ k3 =>
          have H := HA.out
          clear HA
          simp only [awardingbodyref06_Check.l0] at H
          by_cases c22 : x3_3 < (a0_2.size : Int)
          ·rw [if_pos c22] at H
           have c22b0 : decide (x3_3 < (a0_2.size : Int)) = true := decide_eq_true c22
           clear c22
           by_cases c23 : 0 ≤ x3_3
           ·rw [if_pos c23] at H
            have c23b0 : decide (0 ≤ x3_3) = true := decide_eq_true c23
            clear c23
            by_cases c25 : (bt a0_2 x3_3) < 32
            ·rw [if_pos c25] at H
             have c25b0 : decide ((bt a0_2 x3_3) < 32) = true := decide_eq_true c25
             clear c25
             obtain rfl := Option.some.inj H
             obtain ⟨hcz26_0, hcz26_1, hcz26_2, hcz26_3, hcz26_4, hfz26_0, hfz26_1, hfz26_2, hfz26_3, hfz26_4⟩ := z5 BK313
             have p24 : 0 ≤ (x3_3 : Int) := of_decide_eq_true (by first | (with_reducible assumption) | assumption)
             have q24 : x3_3 < (a0_2.size : Int) := of_decide_eq_true (by first | (with_reducible assumption) | assumption)
             have hx24 := bt_at a0_2 x3_3
             replace p24 := eq_true p24
             replace q24 := eq_true q24
             go_wp2
             repeat (go_quiet (fail); try go_wp2)
             go_ret
             exact ⟨zf, zm HB⟩
            ·rw [if_neg c25] at H
             have c25b0 : decide ((bt a0_2 x3_3) < 32) = false := decide_eq_false c25
             clear c25
             by_cases c28 : (bt a0_2 x3_3) > 126
             ·rw [if_pos c28] at H
              have c28b0 : decide (126 < (bt a0_2 x3_3)) = true := decide_eq_true c28
              clear c28
              obtain rfl := Option.some.inj H
              obtain ⟨hcz29_0, hcz29_1, hcz29_2, hcz29_3, hcz29_4, hfz29_0, hfz29_1, hfz29_2, hfz29_3, hfz29_4⟩ := z5 BK313
              have p24 : 0 ≤ (x3_3 : Int) := of_decide_eq_true (by first | (with_reducible assumption) | assumption)
              have q24 : x3_3 < (a0_2.size : Int) := of_decide_eq_true (by first | (with_reducible assumption) | assumption)
              have hx24 := bt_at a0_2 x3_3
              replace p24 := eq_true p24
              replace q24 := eq_true q24
              have p27 : 0 ≤ (x3_3 : Int) := of_decide_eq_true (by first | (with_reducible assumption) | assumption)
              have q27 : x3_3 < (a0_2.size : Int) := of_decide_eq_true (by first | (with_reducible assumption) | assumption)
              have hx27 := bt_at a0_2 x3_3
              replace p27 := eq_true p27
              replace q27 := eq_true q27
              go_wp2
              repeat (go_quiet (fail); try go_wp2)
              go_ret
              exact ⟨zf, zm HB⟩
             ·rw [if_neg c28] at H
              have c28b0 : decide (126 < (bt a0_2 x3_3)) = false := decide_eq_false c28
              clear c28
              have H' := za H
              clear H
              obtain ⟨hcz30_0, hcz30_1, hcz30_2, hcz30_3, hcz30_4, hfz30_0, hfz30_1, hfz30_2, hfz30_3, hfz30_4⟩ := z5 BK313
              have p24 : 0 ≤ (x3_3 : Int) := of_decide_eq_true (by first | (with_reducible assumption) | assumption)
              have q24 : x3_3 < (a0_2.size : Int) := of_decide_eq_true (by first | (with_reducible assumption) | assumption)
              have hx24 := bt_at a0_2 x3_3
              replace p24 := eq_true p24
              replace q24 := eq_true q24
              have p27 : 0 ≤ (x3_3 : Int) := of_decide_eq_true (by first | (with_reducible assumption) | assumption)
              have q27 : x3_3 < (a0_2.size : Int) := of_decide_eq_true (by first | (with_reducible assumption) | assumption)
              have hx27 := bt_at a0_2 x3_3
              replace p27 := eq_true p27
              replace q27 := eq_true q27
              go_wp2
              repeat (go_quiet (fail); try go_wp2)
              go_roundg k3
              case measure => have := HJ1.out; have := HJ11.out; have := HK3.out; omega
              case rel => exact ⟨(wrap64 (x3_3 + 1)), (by first | rfl | (simp; done) | (simp [*]; done)), H', ⟨by have := HJ1.out; have := HJ11.out; have := HK3.out; omega⟩, ⟨by (with_reducible repeat (first | refine blk_drewN ?_ _ | refine blk_drew ?_ | refine blk_alloc ?_ _)); exact BK313.out⟩, ⟨zm HB⟩⟩
           ·rw [if_neg c23] at H
            exact absurd H (by simp)
          ·rw [if_neg c22] at H
           have c22b0 : decide (x3_3 < (a0_2.size : Int)) = false := decide_eq_false c22
           clear c22
           by_cases c31 : (l0_3.length : Int) = 0
           ·rw [if_pos c31] at H
            have c31b0 : ((l0_3.length : Int) == 0) = true := beq_iff_eq.mpr c31
            have c31b1 : ((l0_3.length : Int) != 0) = false := bne_eq_false_iff_eq.mpr c31
            clear c31
            obtain rfl := Option.some.inj H
            obtain ⟨hcz32_0, hcz32_1, hcz32_2, hcz32_3, hcz32_4, hfz32_0, hfz32_1, hfz32_2, hfz32_3, hfz32_4⟩ := z5 BK313
            go_wp2
            repeat (go_quiet (fail); try go_wp2)
            go_ret
            exact ⟨zf, zm HB⟩
           ·rw [if_neg c31] at H
            have c31b0 : ((l0_3.length : Int) == 0) = false := beq_eq_false_iff_ne.mpr c31
            have c31b1 : ((l0_3.length : Int) != 0) = true := bne_iff_ne.mpr c31
            have c31b2 : ¬ (l0_3 = []) := fun h_ => c31 (by rw [h_]; rfl)
            have H' := za H
            clear H
            obtain ⟨hcz33_0, hcz33_1, hcz33_2, hcz33_3, hcz33_4, hfz33_0, hfz33_1, hfz33_2, hfz33_3, hfz33_4⟩ := z5 BK313
            go_wp2
            repeat (go_quiet (fail); try go_wp2)
            go_loopg [4] k3 (fun kq v4 w' => ∃ (x4_4 : Int), v4 = .int .i64 x4_4 ∧ Aside0 (awardingbodyref06_Check.l1 kq x4_4 a0_0 a0_1 a0_2 l0_3 l0_4 = some r) ∧ Aside0 (kq ≤ k3) ∧ Aside0 (w'.heap[gb313]? = some (.cells #[.int .i64 a0_0, .int .i64 a0_1, .string a0_2, (.slice A0_3 l0_3.length c0_3), (.slice A0_4 l0_4.length c0_4)] 33 (0, 0))) ∧ Aside0 (Below w.heap.size w w'))
            case atStart => exact ⟨(0), (by first | rfl | (simp; done) | (simp [*]; done)), H', ⟨Nat.le_refl _⟩, ⟨by (with_reducible repeat (first | refine blk_drewN ?_ _ | refine blk_drew ?_ | refine blk_alloc ?_ _)); exact BK313.out⟩, ⟨zm HB⟩⟩
            case round =>
             clear H'
             try clear c1
             try clear c2
             try clear p2
             try clear q2
             try clear hx2
             try clear c3
             try clear c4
             try clear c4b0
             try clear c6
             try clear c6b0
             try clear p6
             try clear c8
             try clear c8b0
             try clear c11
             try clear c13
             try clear c13b0
             try clear c13b1
             try clear c15
             try clear c15b0
             try clear c15b1
             try clear c18
             try clear c19
             try clear c19b0
             try clear c19b1
             try clear c20
             try clear c22
             try clear c22b0
             try clear c23
             try clear c23b0
             try clear p24
             try clear q24
             try clear hx24
             try clear c25
             try clear c25b0
             try clear p27
             try clear q27
             try clear hx27
             try clear c28
             try clear c28b0
             try clear c31
             try clear c31b0
             try clear c31b1
             try clear c31b2
             try clear hcz10_0
             try clear hcz10_1
             try clear hcz10_2
             try clear hcz10_3
             try clear hcz10_4
             try clear hcz14_0
             try clear hcz14_1
             try clear hcz14_2
             try clear hcz14_3
             try clear hcz14_4
             try clear hcz16_0
             try clear hcz16_1
             try clear hcz16_2
             try clear hcz16_3
             try clear hcz16_4
             try clear hcz17_0
             try clear hcz17_1
             try clear hcz17_2
             try clear hcz17_3
             try clear hcz17_4
             try clear hcz20_0
             try clear hcz20_1
             try clear hcz20_2
             try clear hcz20_3
             try clear hcz20_4
             try clear hcz21_0
             try clear hcz21_1
             try clear hcz21_2
             try clear hcz21_3
             try clear hcz21_4
             try clear hcz26_0
             try clear hcz26_1
             try clear hcz26_2
             try clear hcz26_3
             try clear hcz26_4
             try clear hcz29_0
             try clear hcz29_1
             try clear hcz29_2
             try clear hcz29_3
             try clear hcz29_4
             try clear hcz30_0
             try clear hcz30_1
             try clear hcz30_2
             try clear hcz30_3
             try clear hcz30_4
             try clear hcz32_0
             try clear hcz32_1
             try clear hcz32_2
             try clear hcz32_3
             try clear hcz32_4
             try clear hcz33_0
             try clear hcz33_1
             try clear hcz33_2
             try clear hcz33_3
             try clear hcz33_4
             try clear hcz5_0
             try clear hcz5_1
             try clear hcz5_2
             try clear hcz5_3
             try clear hcz5_4
             try clear hcz7_0
             try clear hcz7_1
             try clear hcz7_2
             try clear hcz7_3
             try clear hcz7_4
             try clear hcz9_0
             try clear hcz9_1
             try clear hcz9_2
             try clear hcz9_3
             try clear hcz9_4
             try clear hfz10_0
             try clear hfz10_1
             try clear hfz10_2
             try clear hfz10_3
             try clear hfz10_4
             try clear hfz14_0
             try clear hfz14_1
             try clear hfz14_2
             try clear hfz14_3
             try clear hfz14_4
             try clear hfz16_0
             try clear hfz16_1
             try clear hfz16_2
             try clear hfz16_3
             try clear hfz16_4
             try clear hfz17_0
             try clear hfz17_1
             try clear hfz17_2
             try clear hfz17_3
             try clear hfz17_4
             try clear hfz20_0
             try clear hfz20_1
             try clear hfz20_2
             try clear hfz20_3
             try clear hfz20_4
             try clear hfz21_0
             try clear hfz21_1
             try clear hfz21_2
             try clear hfz21_3
             try clear hfz21_4
             try clear hfz26_0
             try clear hfz26_1
             try clear hfz26_2
             try clear hfz26_3
             try clear hfz26_4
             try clear hfz29_0
             try clear hfz29_1
             try clear hfz29_2
             try clear hfz29_3
             try clear hfz29_4
             try clear hfz30_0
             try clear hfz30_1
             try clear hfz30_2
             try clear hfz30_3
             try clear hfz30_4
             try clear hfz32_0
             try clear hfz32_1
             try clear hfz32_2
             try clear hfz32_3
             try clear hfz32_4
             try clear hfz33_0
             try clear hfz33_1
             try clear hfz33_2
             try clear hfz33_3
             try clear hfz33_4
             try clear hfz5_0
             try clear hfz5_1
             try clear hfz5_2
             try clear hfz5_3
             try clear hfz5_4
             try clear hfz7_0
             try clear hfz7_1
             try clear hfz7_2
             try clear hfz7_3
             try clear hfz7_4
             try clear hfz9_0
             try clear hfz9_1
             try clear hfz9_2
             try clear hfz9_3
             try clear hfz9_4
             try clear p2
             try clear p24
             try clear p27
             try clear q24
             try clear q27
             obtain ⟨x4_4, rfl, HA, HK4, BK313, HB⟩ := hrel
             cases gk with
             | zero => exact absurd HA.out (by simp [awardingbodyref06_Check.l1])
             | succ k4 =>
              have H := HA.out
              clear HA
              simp only [awardingbodyref06_Check.l1] at H
              by_cases c34 : x4_4 < (l0_3.length : Int)
              ·rw [if_pos c34] at H
               have c34b0 : decide (x4_4 < (l0_3.length : Int)) = true := decide_eq_true c34
               clear c34
               by_cases c35 : 0 ≤ x4_4
               ·rw [if_pos c35] at H
                have c35b0 : decide (0 ≤ x4_4) = true := decide_eq_true c35
                clear c35
                replace H := Option.bind_eq_some_iff.mp H
                obtain ⟨t315, A360, H⟩ := H
                replace H : (if t315 = true then (awardingbodyref06_Check.l1 k4 (wrap64 (x4_4 + 1)) a0_0 a0_1 a0_2 l0_3 l0_4) else (some 1)) = some r := H
                have A36 := za A360
                clear A360
                by_cases c37 : t315 = true
                ·subst c37
                 have H1 : (awardingbodyref06_Check.l1 k4 (wrap64 (x4_4 + 1)) a0_0 a0_1 a0_2 l0_3 l0_4) = some r := by rw [if_pos rfl] at H; exact H
                 clear H
                 have H := H1
                 clear H1
                 have H' := za H
                 clear H
                 obtain ⟨hcz38_0, hcz38_1, hcz38_2, hcz38_3, hcz38_4, hfz38_0, hfz38_1, hfz38_2, hfz38_3, hfz38_4⟩ := z5 BK313
                 have p314 : 0 ≤ (x4_4 : Int) := of_decide_eq_true (by first | (with_reducible assumption) | assumption)
                 have q314 : x4_4 < (l0_3.length : Int) := of_decide_eq_true (by first | (with_reducible assumption) | assumption)
                 obtain ⟨ad314, e314, hx314_0, hx314_1, hx314_2, hx314_3, hx314_4, hx314_5⟩ := at_T23 HR0_3.out x4_4 p314 q314
                 cases e314
                 replace hx314_0 := zx HB hx314_0
                 replace hx314_1 := zx HB hx314_1
                 replace hx314_2 := zx HB hx314_2
                 replace hx314_3 := zx HB hx314_3
                 replace hx314_4 := zx HB hx314_4
                 replace hx314_5 := zx HB hx314_5
                 replace p314 := eq_true p314
                 replace q314 := eq_true q314
                 go_wp2_with (first | (go_at_call 13; (with_reducible refine (awardingbodyref06_ValidPart.calls k4 ((rd_T23 l0_3 x4_4).f0) ((rd_T23 l0_3 x4_4).f1) ((rd_T23 l0_3 x4_4).f2) ((rd_T23 l0_3 x4_4).f3) ((rd_T23 l0_3 x4_4).f4) ((rd_T23 l0_3 x4_4).f5) true _ A36.out).mono ?_); rintro e w39 ⟨rfl, hb⟩; replace BK313 := zb BK313 hb; replace HB := zs HB hb; (try clear hb); (try clear hb2); (try clear hk); (try clear hi)))
                 repeat (go_quiet (first | (go_at_call 13; (with_reducible refine (awardingbodyref06_ValidPart.calls k4 ((rd_T23 l0_3 x4_4).f0) ((rd_T23 l0_3 x4_4).f1) ((rd_T23 l0_3 x4_4).f2) ((rd_T23 l0_3 x4_4).f3) ((rd_T23 l0_3 x4_4).f4) ((rd_T23 l0_3 x4_4).f5) true _ A36.out).mono ?_); rintro e w39 ⟨rfl, hb⟩; replace BK313 := zb BK313 hb; replace HB := zs HB hb; (try clear hb); (try clear hb2); (try clear hk); (try clear hi))); try go_wp2_with (first | (go_at_call 13; (with_reducible refine (awardingbodyref06_ValidPart.calls k4 ((rd_T23 l0_3 x4_4).f0) ((rd_T23 l0_3 x4_4).f1) ((rd_T23 l0_3 x4_4).f2) ((rd_T23 l0_3 x4_4).f3) ((rd_T23 l0_3 x4_4).f4) ((rd_T23 l0_3 x4_4).f5) true _ A36.out).mono ?_); rintro e w39 ⟨rfl, hb⟩; replace BK313 := zb BK313 hb; replace HB := zs HB hb; (try clear hb); (try clear hb2); (try clear hk); (try clear hi))))
                 go_roundg k4
                 case measure => have := HJ1.out; have := HJ11.out; have := HK3.out; have := HK4.out; omega
                 case rel => exact ⟨(wrap64 (x4_4 + 1)), (by first | rfl | (simp; done) | (simp [*]; done)), H', ⟨by have := HJ1.out; have := HJ11.out; have := HK3.out; have := HK4.out; omega⟩, ⟨by (with_reducible repeat (first | refine blk_drewN ?_ _ | refine blk_drew ?_ | refine blk_alloc ?_ _)); exact BK313.out⟩, ⟨zm HB⟩⟩
                ·replace c37 := Bool.eq_false_iff.mpr c37
                 subst c37
                 have H1 : (some 1) = some r := by rw [if_neg (show ¬ (false = true) by decide)] at H; exact H
                 clear H
                 have H := H1
                 clear H1
                 obtain rfl := Option.some.inj H
                 obtain ⟨hcz40_0, hcz40_1, hcz40_2, hcz40_3, hcz40_4, hfz40_0, hfz40_1, hfz40_2, hfz40_3, hfz40_4⟩ := z5 BK313
                 have p314 : 0 ≤ (x4_4 : Int) := of_decide_eq_true (by first | (with_reducible assumption) | assumption)
                 have q314 : x4_4 < (l0_3.length : Int) := of_decide_eq_true (by first | (with_reducible assumption) | assumption)
                 obtain ⟨ad314, e314, hx314_0, hx314_1, hx314_2, hx314_3, hx314_4, hx314_5⟩ := at_T23 HR0_3.out x4_4 p314 q314
                 cases e314
                 replace hx314_0 := zx HB hx314_0
                 replace hx314_1 := zx HB hx314_1
                 replace hx314_2 := zx HB hx314_2
                 replace hx314_3 := zx HB hx314_3
                 replace hx314_4 := zx HB hx314_4
                 replace hx314_5 := zx HB hx314_5
                 replace p314 := eq_true p314
                 replace q314 := eq_true q314
                 go_wp2_with (first | (go_at_call 13; (with_reducible refine (awardingbodyref06_ValidPart.calls k4 ((rd_T23 l0_3 x4_4).f0) ((rd_T23 l0_3 x4_4).f1) ((rd_T23 l0_3 x4_4).f2) ((rd_T23 l0_3 x4_4).f3) ((rd_T23 l0_3 x4_4).f4) ((rd_T23 l0_3 x4_4).f5) false _ A36.out).mono ?_); rintro e w41 ⟨rfl, hb⟩; replace BK313 := zb BK313 hb; replace HB := zs HB hb; (try clear hb); (try clear hb2); (try clear hk); (try clear hi)))
                 repeat (go_quiet (first | (go_at_call 13; (with_reducible refine (awardingbodyref06_ValidPart.calls k4 ((rd_T23 l0_3 x4_4).f0) ((rd_T23 l0_3 x4_4).f1) ((rd_T23 l0_3 x4_4).f2) ((rd_T23 l0_3 x4_4).f3) ((rd_T23 l0_3 x4_4).f4) ((rd_T23 l0_3 x4_4).f5) false _ A36.out).mono ?_); rintro e w41 ⟨rfl, hb⟩; replace BK313 := zb BK313 hb; replace HB := zs HB hb; (try clear hb); (try clear hb2); (try clear hk); (try clear hi))); try go_wp2_with (first | (go_at_call 13; (with_reducible refine (awardingbodyref06_ValidPart.calls k4 ((rd_T23 l0_3 x4_4).f0) ((rd_T23 l0_3 x4_4).f1) ((rd_T23 l0_3 x4_4).f2) ((rd_T23 l0_3 x4_4).f3) ((rd_T23 l0_3 x4_4).f4) ((rd_T23 l0_3 x4_4).f5) false _ A36.out).mono ?_); rintro e w41 ⟨rfl, hb⟩; replace BK313 := zb BK313 hb; replace HB := zs HB hb; (try clear hb); (try clear hb2); (try clear hk); (try clear hi))))
                 go_ret
                 exact ⟨zf, zm HB⟩
               ·rw [if_neg c35] at H
                exact absurd H (by simp)
              ·rw [if_neg c34] at H
               have c34b0 : decide (x4_4 < (l0_3.length : Int)) = false := decide_eq_false c34
               clear c34
               have H' := za H
               clear H
               obtain ⟨hcz42_0, hcz42_1, hcz42_2, hcz42_3, hcz42_4, hfz42_0, hfz42_1, hfz42_2, hfz42_3, hfz42_4⟩ := z5 BK313
               go_wp2
               repeat (go_quiet (fail); try go_wp2)
               go_loopg [5] k4 (fun kq v5 w' => ∃ (x5_5 : Int), v5 = .int .i64 x5_5 ∧ Aside0 (awardingbodyref06_Check.l2 kq x5_5 a0_0 a0_1 a0_2 l0_3 l0_4 = some r) ∧ Aside0 (kq ≤ k4) ∧ Aside0 (w'.heap[gb313]? = some (.cells #[.int .i64 a0_0, .int .i64 a0_1, .string a0_2, (.slice A0_3 l0_3.length c0_3), (.slice A0_4 l0_4.length c0_4)] 33 (0, 0))) ∧ Aside0 (Below w.heap.size w w'))
               case atStart => exact ⟨(0), (by first | rfl | (simp; done) | (simp [*]; done)), H', ⟨Nat.le_refl _⟩, ⟨by (with_reducible repeat (first | refine blk_drewN ?_ _ | refine blk_drew ?_ | refine blk_alloc ?_ _)); exact BK313.out⟩, ⟨zm HB⟩⟩
               case round =>
                clear H'
                try clear c1
                try clear c2
                try clear p2
                try clear q2
                try clear hx2
                try clear c3
                try clear p3
                try clear q3
                try clear hx3
                try clear c4
                try clear c4b0
                try clear c6
                try clear c6b0
                try clear p6
                try clear c8
                try clear c8b0
                try clear c11
                try clear c13
                try clear c13b0
                try clear c13b1
                try clear c15
                try clear c15b0
                try clear c15b1
                try clear c18
                try clear c19
                try clear c19b0
                try clear c19b1
                try clear c20
                try clear c22
                try clear c22b0
                try clear c23
                try clear c23b0
                try clear p24
                try clear q24
                try clear hx24
                try clear c25
                try clear c25b0
                try clear p27
                try clear q27
                try clear hx27
                try clear c28
                try clear c28b0
                try clear c31
                try clear c31b0
                try clear c31b1
                try clear c31b2
                try clear p31
                try clear q31
                try clear hx31
                try clear c34
                try clear c34b0
                try clear c35
                try clear c35b0
                try clear c37
                try clear hcz10_0
                try clear hcz10_1
                try clear hcz10_2
                try clear hcz10_3
                try clear hcz10_4
                try clear hcz14_0
                try clear hcz14_1
                try clear hcz14_2
                try clear hcz14_3
                try clear hcz14_4
                try clear hcz16_0
                try clear hcz16_1
                try clear hcz16_2
                try clear hcz16_3
                try clear hcz16_4
                try clear hcz17_0
                try clear hcz17_1
                try clear hcz17_2
                try clear hcz17_3
                try clear hcz17_4
                try clear hcz20_0
                try clear hcz20_1
                try clear hcz20_2
                try clear hcz20_3
                try clear hcz20_4
                try clear hcz21_0
                try clear hcz21_1
                try clear hcz21_2
                try clear hcz21_3
                try clear hcz21_4
                try clear hcz26_0
                try clear hcz26_1
                try clear hcz26_2
                try clear hcz26_3
                try clear hcz26_4
                try clear hcz29_0
                try clear hcz29_1
                try clear hcz29_2
                try clear hcz29_3
                try clear hcz29_4
                try clear hcz30_0
                try clear hcz30_1
                try clear hcz30_2
                try clear hcz30_3
                try clear hcz30_4
                try clear hcz32_0
                try clear hcz32_1
                try clear hcz32_2
                try clear hcz32_3
                try clear hcz32_4
                try clear hcz33_0
                try clear hcz33_1
                try clear hcz33_2
                try clear hcz33_3
                try clear hcz33_4
                try clear hcz38_0
                try clear hcz38_1
                try clear hcz38_2
                try clear hcz38_3
                try clear hcz38_4
                try clear hcz40_0
                try clear hcz40_1
                try clear hcz40_2
                try clear hcz40_3
                try clear hcz40_4
                try clear hcz42_0
                try clear hcz42_1
                try clear hcz42_2
                try clear hcz42_3
                try clear hcz42_4
                try clear hcz5_0
                try clear hcz5_1
                try clear hcz5_2
                try clear hcz5_3
                try clear hcz5_4
                try clear hcz7_0
                try clear hcz7_1
                try clear hcz7_2
                try clear hcz7_3
                try clear hcz7_4
                try clear hcz9_0
                try clear hcz9_1
                try clear hcz9_2
                try clear hcz9_3
                try clear hcz9_4
                try clear hfz10_0
                try clear hfz10_1
                try clear hfz10_2
                try clear hfz10_3
                try clear hfz10_4
                try clear hfz14_0
                try clear hfz14_1
                try clear hfz14_2
                try clear hfz14_3
                try clear hfz14_4
                try clear hfz16_0
                try clear hfz16_1
                try clear hfz16_2
                try clear hfz16_3
                try clear hfz16_4
                try clear hfz17_0
                try clear hfz17_1
                try clear hfz17_2
                try clear hfz17_3
                try clear hfz17_4
                try clear hfz20_0
                try clear hfz20_1
                try clear hfz20_2
                try clear hfz20_3
                try clear hfz20_4
                try clear hfz21_0
                try clear hfz21_1
                try clear hfz21_2
                try clear hfz21_3
                try clear hfz21_4
                try clear hfz26_0
                try clear hfz26_1
                try clear hfz26_2
                try clear hfz26_3
                try clear hfz26_4
                try clear hfz29_0
                try clear hfz29_1
                try clear hfz29_2
                try clear hfz29_3
                try clear hfz29_4
                try clear hfz30_0
                try clear hfz30_1
                try clear hfz30_2
                try clear hfz30_3
                try clear hfz30_4
                try clear hfz32_0
                try clear hfz32_1
                try clear hfz32_2
                try clear hfz32_3
                try clear hfz32_4
                try clear hfz33_0
                try clear hfz33_1
                try clear hfz33_2
                try clear hfz33_3
                try clear hfz33_4
                try clear hfz38_0
                try clear hfz38_1
                try clear hfz38_2
                try clear hfz38_3
                try clear hfz38_4
                try clear hfz40_0
                try clear hfz40_1
                try clear hfz40_2
                try clear hfz40_3
                try clear hfz40_4
                try clear hfz42_0
                try clear hfz42_1
                try clear hfz42_2
                try clear hfz42_3
                try clear hfz42_4
                try clear hfz5_0
                try clear hfz5_1
                try clear hfz5_2
                try clear hfz5_3
                try clear hfz5_4
                try clear hfz7_0
                try clear hfz7_1
                try clear hfz7_2
                try clear hfz7_3
                try clear hfz7_4
                try clear hfz9_0
                try clear hfz9_1
                try clear hfz9_2
                try clear hfz9_3
                try clear hfz9_4
                try clear hx314_0
                try clear hx314_1
                try clear hx314_2
                try clear hx314_3
                try clear hx314_4
                try clear hx314_5
                try clear p2
                try clear p24
                try clear p27
                try clear p314
                try clear p6
                try clear q2
                try clear q24
                try clear q27
                try clear q314
                obtain ⟨x5_5, rfl, HA, HK5, BK313, HB⟩ := hrel
                cases gk with
                | zero => exact absurd HA.out (by simp [awardingbodyref06_Check.l2])
                | succ k5 =>
                 have H := HA.out
                 clear HA
                 simp only [awardingbodyref06_Check.l2] at H
                 by_cases c43 : x5_5 < (l0_4.length : Int)
                 ·rw [if_pos c43] at H
                  have c43b0 : decide (x5_5 < (l0_4.length : Int)) = true := decide_eq_true c43
                  clear c43
                  by_cases c44 : 0 ≤ x5_5
                  ·rw [if_pos c44] at H
                   have c44b0 : decide (0 ≤ x5_5) = true := decide_eq_true c44
                   clear c44
                   by_cases c45 : (rd l0_4 x5_5) < 0
                   ·rw [if_pos c45] at H
                    have c45b0 : decide ((rd l0_4 x5_5) < 0) = true := decide_eq_true c45
                    clear c45
                    obtain rfl := Option.some.inj H
                    obtain ⟨hcz46_0, hcz46_1, hcz46_2, hcz46_3, hcz46_4, hfz46_0, hfz46_1, hfz46_2, hfz46_3, hfz46_4⟩ := z5 BK313
                    have p316 : 0 ≤ (x5_5 : Int) := of_decide_eq_true (by first | (with_reducible assumption) | assumption)
                    have q316 : x5_5 < (l0_4.length : Int) := of_decide_eq_true (by first | (with_reducible assumption) | assumption)
                    obtain ⟨ad316, e316, hx316_0⟩ := Kd.at_int HR0_4.out x5_5 p316 q316
                    cases e316
                    replace hx316_0 := zx HB hx316_0
                    replace p316 := eq_true p316
                    replace q316 := eq_true q316
                    go_wp2
                    repeat (go_quiet (fail); try go_wp2)
                    go_ret
                    exact ⟨zf, zm HB⟩
                   ·rw [if_neg c45] at H
                    have c45b0 : decide ((rd l0_4 x5_5) < 0) = false := decide_eq_false c45
                    clear c45
                    by_cases c47 : (rd l0_4 x5_5) > 9999
                    ·rw [if_pos c47] at H
                     have c47b0 : decide (9999 < (rd l0_4 x5_5)) = true := decide_eq_true c47
                     clear c47
                     obtain rfl := Option.some.inj H
                     obtain ⟨hcz48_0, hcz48_1, hcz48_2, hcz48_3, hcz48_4, hfz48_0, hfz48_1, hfz48_2, hfz48_3, hfz48_4⟩ := z5 BK313
                     have p316 : 0 ≤ (x5_5 : Int) := of_decide_eq_true (by first | (with_reducible assumption) | assumption)
                     have q316 : x5_5 < (l0_4.length : Int) := of_decide_eq_true (by first | (with_reducible assumption) | assumption)
                     obtain ⟨ad316, e316, hx316_0⟩ := Kd.at_int HR0_4.out x5_5 p316 q316
                     cases e316
                     replace hx316_0 := zx HB hx316_0
                     replace p316 := eq_true p316
                     replace q316 := eq_true q316
                     have p317 : 0 ≤ (x5_5 : Int) := of_decide_eq_true (by first | (with_reducible assumption) | assumption)
                     have q317 : x5_5 < (l0_4.length : Int) := of_decide_eq_true (by first | (with_reducible assumption) | assumption)
                     obtain ⟨ad317, e317, hx317_0⟩ := Kd.at_int HR0_4.out x5_5 p317 q317
                     obtain rfl : ad316 = ad317 := (by injection e317)
                     replace hx317_0 := zx HB hx317_0
                     replace p317 := eq_true p317
                     replace q317 := eq_true q317
                     go_wp2
                     repeat (go_quiet (fail); try go_wp2)
                     go_ret
                     exact ⟨zf, zm HB⟩
                    ·rw [if_neg c47] at H
                     have c47b0 : decide (9999 < (rd l0_4 x5_5)) = false := decide_eq_false c47
                     clear c47
                     by_cases c49 : (rd l0_4 x5_5) = a0_0
                     ·rw [if_pos c49] at H
                      have c49b0 : ((rd l0_4 x5_5) == a0_0) = true := beq_iff_eq.mpr c49
                      have c49b1 : ((rd l0_4 x5_5) != a0_0) = false := bne_eq_false_iff_eq.mpr c49
                      clear c49
                      obtain rfl := Option.some.inj H
                      obtain ⟨hcz50_0, hcz50_1, hcz50_2, hcz50_3, hcz50_4, hfz50_0, hfz50_1, hfz50_2, hfz50_3, hfz50_4⟩ := z5 BK313
                      have p316 : 0 ≤ (x5_5 : Int) := of_decide_eq_true (by first | (with_reducible assumption) | assumption)
                      have q316 : x5_5 < (l0_4.length : Int) := of_decide_eq_true (by first | (with_reducible assumption) | assumption)
                      obtain ⟨ad316, e316, hx316_0⟩ := Kd.at_int HR0_4.out x5_5 p316 q316
                      cases e316
                      replace hx316_0 := zx HB hx316_0
                      replace p316 := eq_true p316
                      replace q316 := eq_true q316
                      have p317 : 0 ≤ (x5_5 : Int) := of_decide_eq_true (by first | (with_reducible assumption) | assumption)
                      have q317 : x5_5 < (l0_4.length : Int) := of_decide_eq_true (by first | (with_reducible assumption) | assumption)
                      obtain ⟨ad317, e317, hx317_0⟩ := Kd.at_int HR0_4.out x5_5 p317 q317
                      obtain rfl : ad316 = ad317 := (by injection e317)
                      replace hx317_0 := zx HB hx317_0
                      replace p317 := eq_true p317
                      replace q317 := eq_true q317
                      have p318 : 0 ≤ (x5_5 : Int) := of_decide_eq_true (by first | (with_reducible assumption) | assumption)
                      have q318 : x5_5 < (l0_4.length : Int) := of_decide_eq_true (by first | (with_reducible assumption) | assumption)
                      obtain ⟨ad318, e318, hx318_0⟩ := Kd.at_int HR0_4.out x5_5 p318 q318
                      obtain rfl : ad316 = ad318 := (by injection e318)
                      replace hx318_0 := zx HB hx318_0
                      replace p318 := eq_true p318
                      replace q318 := eq_true q318
                      go_wp2
                      repeat (go_quiet (fail); try go_wp2)
                      go_ret
                      exact ⟨zf, zm HB⟩
                     ·rw [if_neg c49] at H
                      have c49b0 : ((rd l0_4 x5_5) == a0_0) = false := beq_eq_false_iff_ne.mpr c49
                      have c49b1 : ((rd l0_4 x5_5) != a0_0) = true := bne_iff_ne.mpr c49
                      by_cases c51 : x5_5 > 0
                      ·rw [if_pos c51] at H
                       have c51b0 : decide (0 < x5_5) = true := decide_eq_true c51
                       clear c51
                       obtain ⟨ji52, hji52⟩ : ∃ j_ : Int, (wrap64 (x5_5 - 1)) = j_ := ⟨_, rfl⟩
                       replace H : (if 0 ≤ (ji52) then (if (ji52) < (l0_4.length : Int) then (if (rd l0_4 (ji52)) ≥ (rd l0_4 x5_5) then (some 9) else (awardingbodyref06_Check.l2 k5 (wrap64 (x5_5 + 1)) a0_0 a0_1 a0_2 l0_3 l0_4)) else (none)) else (none)) = some r := by first | (rw [hji52] at H; exact H) | (simp only [hji52] at H ⊢; exact H)
                       have hji52w : (IntKind.i64.wrap (x5_5 - 1)) = ji52 := (i64_w _).trans hji52
                       by_cases c53 : 0 ≤ (ji52)
                       ·rw [if_pos c53] at H
                        have c53b0 : decide (0 ≤ (ji52)) = true := decide_eq_true c53
                        clear c53
                        by_cases c54 : (ji52) < (l0_4.length : Int)
                        ·rw [if_pos c54] at H
                         have c54b0 : decide ((ji52) < (l0_4.length : Int)) = true := decide_eq_true c54
                         clear c54
                         by_cases c55 : (rd l0_4 (ji52)) ≥ (rd l0_4 x5_5)
                         ·rw [if_pos c55] at H
                          have c55b0 : decide ((rd l0_4 x5_5) ≤ (rd l0_4 (ji52))) = true := decide_eq_true c55
                          clear c55
                          obtain rfl := Option.some.inj H
                          obtain ⟨hcz56_0, hcz56_1, hcz56_2, hcz56_3, hcz56_4, hfz56_0, hfz56_1, hfz56_2, hfz56_3, hfz56_4⟩ := z5 BK313
                          have p316 : 0 ≤ (x5_5 : Int) := of_decide_eq_true (by first | (with_reducible assumption) | assumption)
                          have q316 : x5_5 < (l0_4.length : Int) := of_decide_eq_true (by first | (with_reducible assumption) | assumption)
                          obtain ⟨ad316, e316, hx316_0⟩ := Kd.at_int HR0_4.out x5_5 p316 q316
                          cases e316
                          replace hx316_0 := zx HB hx316_0
                          replace p316 := eq_true p316
                          replace q316 := eq_true q316
                          have p317 : 0 ≤ (x5_5 : Int) := of_decide_eq_true (by first | (with_reducible assumption) | assumption)
                          have q317 : x5_5 < (l0_4.length : Int) := of_decide_eq_true (by first | (with_reducible assumption) | assumption)
                          obtain ⟨ad317, e317, hx317_0⟩ := Kd.at_int HR0_4.out x5_5 p317 q317
                          obtain rfl : ad316 = ad317 := (by injection e317)
                          replace hx317_0 := zx HB hx317_0
                          replace p317 := eq_true p317
                          replace q317 := eq_true q317
                          have p318 : 0 ≤ (x5_5 : Int) := of_decide_eq_true (by first | (with_reducible assumption) | assumption)
                          have q318 : x5_5 < (l0_4.length : Int) := of_decide_eq_true (by first | (with_reducible assumption) | assumption)
                          obtain ⟨ad318, e318, hx318_0⟩ := Kd.at_int HR0_4.out x5_5 p318 q318
                          obtain rfl : ad316 = ad318 := (by injection e318)
                          replace hx318_0 := zx HB hx318_0
                          replace p318 := eq_true p318
                          replace q318 := eq_true q318
                          have p319 : 0 ≤ ((ji52) : Int) := of_decide_eq_true (by first | (with_reducible assumption) | assumption)
                          have q319 : (ji52) < (l0_4.length : Int) := of_decide_eq_true (by first | (with_reducible assumption) | assumption)
                          obtain ⟨ad319, e319, hx319_0⟩ := Kd.at_int HR0_4.out (ji52) p319 q319
                          obtain rfl : ad316 = ad319 := (by injection e319)
                          replace hx319_0 := zx HB hx319_0
                          replace p319 := eq_true p319
                          replace q319 := eq_true q319
                          have p320 : 0 ≤ (x5_5 : Int) := of_decide_eq_true (by first | (with_reducible assumption) | assumption)
                          have q320 : x5_5 < (l0_4.length : Int) := of_decide_eq_true (by first | (with_reducible assumption) | assumption)
                          obtain ⟨ad320, e320, hx320_0⟩ := Kd.at_int HR0_4.out x5_5 p320 q320
                          obtain rfl : ad316 = ad320 := (by injection e320)
                          replace hx320_0 := zx HB hx320_0
                          replace p320 := eq_true p320
                          replace q320 := eq_true q320
                          go_wp2
                          repeat (go_quiet (fail); try go_wp2)
                          go_ret
                          exact ⟨by first | rfl | (simp [errW_none, errW_some] <;> rfl) | (simp only [← hji52]; first | rfl | (simp [errW_none, errW_some] <;> rfl)) | (simp [*, errW_none, errW_some] <;> rfl), zm HB⟩
                         ·rw [if_neg c55] at H
                          have c55b0 : decide ((rd l0_4 x5_5) ≤ (rd l0_4 (ji52))) = false := decide_eq_false c55
                          clear c55
                          have H' := za H
                          clear H
                          obtain ⟨hcz57_0, hcz57_1, hcz57_2, hcz57_3, hcz57_4, hfz57_0, hfz57_1, hfz57_2, hfz57_3, hfz57_4⟩ := z5 BK313
                          have p316 : 0 ≤ (x5_5 : Int) := of_decide_eq_true (by first | (with_reducible assumption) | assumption)
                          have q316 : x5_5 < (l0_4.length : Int) := of_decide_eq_true (by first | (with_reducible assumption) | assumption)
                          obtain ⟨ad316, e316, hx316_0⟩ := Kd.at_int HR0_4.out x5_5 p316 q316
                          cases e316
                          replace hx316_0 := zx HB hx316_0
                          replace p316 := eq_true p316
                          replace q316 := eq_true q316
                          have p317 : 0 ≤ (x5_5 : Int) := of_decide_eq_true (by first | (with_reducible assumption) | assumption)
                          have q317 : x5_5 < (l0_4.length : Int) := of_decide_eq_true (by first | (with_reducible assumption) | assumption)
                          obtain ⟨ad317, e317, hx317_0⟩ := Kd.at_int HR0_4.out x5_5 p317 q317
                          obtain rfl : ad316 = ad317 := (by injection e317)
                          replace hx317_0 := zx HB hx317_0
                          replace p317 := eq_true p317
                          replace q317 := eq_true q317
                          have p318 : 0 ≤ (x5_5 : Int) := of_decide_eq_true (by first | (with_reducible assumption) | assumption)
                          have q318 : x5_5 < (l0_4.length : Int) := of_decide_eq_true (by first | (with_reducible assumption) | assumption)
                          obtain ⟨ad318, e318, hx318_0⟩ := Kd.at_int HR0_4.out x5_5 p318 q318
                          obtain rfl : ad316 = ad318 := (by injection e318)
                          replace hx318_0 := zx HB hx318_0
                          replace p318 := eq_true p318
                          replace q318 := eq_true q318
                          have p319 : 0 ≤ ((ji52) : Int) := of_decide_eq_true (by first | (with_reducible assumption) | assumption)
                          have q319 : (ji52) < (l0_4.length : Int) := of_decide_eq_true (by first | (with_reducible assumption) | assumption)
                          obtain ⟨ad319, e319, hx319_0⟩ := Kd.at_int HR0_4.out (ji52) p319 q319
                          obtain rfl : ad316 = ad319 := (by injection e319)
                          replace hx319_0 := zx HB hx319_0
                          replace p319 := eq_true p319
                          replace q319 := eq_true q319
                          have p320 : 0 ≤ (x5_5 : Int) := of_decide_eq_true (by first | (with_reducible assumption) | assumption)
                          have q320 : x5_5 < (l0_4.length : Int) := of_decide_eq_true (by first | (with_reducible assumption) | assumption)
                          obtain ⟨ad320, e320, hx320_0⟩ := Kd.at_int HR0_4.out x5_5 p320 q320
                          obtain rfl : ad316 = ad320 := (by injection e320)
                          replace hx320_0 := zx HB hx320_0
                          replace p320 := eq_true p320
                          replace q320 := eq_true q320
                          go_wp2
                          repeat (go_quiet (fail); try go_wp2)
                          go_roundg k5
                          case measure => have := HJ1.out; have := HJ11.out; have := HK3.out; have := HK4.out; have := HK5.out; omega
                          case rel => exact ⟨(wrap64 (x5_5 + 1)), (by first | rfl | (simp; done) | (simp [*]; done)), H', ⟨by have := HJ1.out; have := HJ11.out; have := HK3.out; have := HK4.out; have := HK5.out; omega⟩, ⟨by (with_reducible repeat (first | refine blk_drewN ?_ _ | refine blk_drew ?_ | refine blk_alloc ?_ _)); exact BK313.out⟩, ⟨zm HB⟩⟩
                        ·rw [if_neg c54] at H
                         exact absurd H (by simp)
                       ·rw [if_neg c53] at H
                        exact absurd H (by simp)
                      ·rw [if_neg c51] at H
                       have c51b0 : decide (0 < x5_5) = false := decide_eq_false c51
                       clear c51
                       have H' := za H
                       clear H
                       obtain ⟨hcz58_0, hcz58_1, hcz58_2, hcz58_3, hcz58_4, hfz58_0, hfz58_1, hfz58_2, hfz58_3, hfz58_4⟩ := z5 BK313
                       have p316 : 0 ≤ (x5_5 : Int) := of_decide_eq_true (by first | (with_reducible assumption) | assumption)
                       have q316 : x5_5 < (l0_4.length : Int) := of_decide_eq_true (by first | (with_reducible assumption) | assumption)
                       obtain ⟨ad316, e316, hx316_0⟩ := Kd.at_int HR0_4.out x5_5 p316 q316
                       cases e316
                       replace hx316_0 := zx HB hx316_0
                       replace p316 := eq_true p316
                       replace q316 := eq_true q316
                       have p317 : 0 ≤ (x5_5 : Int) := of_decide_eq_true (by first | (with_reducible assumption) | assumption)
                       have q317 : x5_5 < (l0_4.length : Int) := of_decide_eq_true (by first | (with_reducible assumption) | assumption)
                       obtain ⟨ad317, e317, hx317_0⟩ := Kd.at_int HR0_4.out x5_5 p317 q317
                       obtain rfl : ad316 = ad317 := (by injection e317)
                       replace hx317_0 := zx HB hx317_0
                       replace p317 := eq_true p317
                       replace q317 := eq_true q317
                       have p318 : 0 ≤ (x5_5 : Int) := of_decide_eq_true (by first | (with_reducible assumption) | assumption)
                       have q318 : x5_5 < (l0_4.length : Int) := of_decide_eq_true (by first | (with_reducible assumption) | assumption)
                       obtain ⟨ad318, e318, hx318_0⟩ := Kd.at_int HR0_4.out x5_5 p318 q318
                       obtain rfl : ad316 = ad318 := (by injection e318)
                       replace hx318_0 := zx HB hx318_0
                       replace p318 := eq_true p318
                       replace q318 := eq_true q318
                       go_wp2
                       repeat (go_quiet (fail); try go_wp2)
                       go_roundg k5
                       case measure => have := HJ1.out; have := HJ11.out; have := HK3.out; have := HK4.out; have := HK5.out; omega
                       case rel => exact ⟨(wrap64 (x5_5 + 1)), (by first | rfl | (simp; done) | (simp [*]; done)), H', ⟨by have := HJ1.out; have := HJ11.out; have := HK3.out; have := HK4.out; have := HK5.out; omega⟩, ⟨by (with_reducible repeat (first | refine blk_drewN ?_ _ | refine blk_drew ?_ | refine blk_alloc ?_ _)); exact BK313.out⟩, ⟨zm HB⟩⟩
                  ·rw [if_neg c44] at H
                   exact absurd H (by simp)
                 ·rw [if_neg c43] at H
                  have c43b0 : decide (x5_5 < (l0_4.length : Int)) = false := decide_eq_false c43
                  clear c43
                  obtain rfl := Option.some.inj H
                  obtain ⟨hcz59_0, hcz59_1, hcz59_2, hcz59_3, hcz59_4, hfz59_0, hfz59_1, hfz59_2, hfz59_3, hfz59_4⟩ := z5 BK313
                  go_wp2
                  repeat (go_quiet (fail); try go_wp2)
                  go_ret
                  exact ⟨zf, zm HB⟩

end Go.Proofs.Ytinmdoemkejanaa.Print
