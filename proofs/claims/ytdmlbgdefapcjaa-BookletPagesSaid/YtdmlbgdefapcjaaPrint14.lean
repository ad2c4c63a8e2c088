-- Printed by a program of this session (wip/own_print.py) out of the translation; Lean checks it.
import Derived.Test.YtdmlbgdefapcjaaShort
import Derived.Test.YtdmlbgdefapcjaaPrint0
import Derived.Test.YtdmlbgdefapcjaaPrint3
namespace Go.Proofs.Ytdmlbgdefapcjaa.Print
open Go.RowKit Go.Proofs.YtdmlbgdefapcjaaW.PrintWords Go.Proofs.YtdmlbgdefapcjaaW.PrintLast Go.Proofs.YtdmlbgdefapcjaaW.PrintMore
attribute [local go_sem] max2_int min2_int max_two min_two max_three min_three max_four min_four   -- for this text's walks alone
set_option linter.unusedVariables false
set_option linter.unusedSimpArgs false

/-! ### awardingbodyref06_ValidPaper: function 38 -/
mutual
def awardingbodyref06_ValidPaper.j0 : Nat → Bool → Int → Int → List (S23) → Option (Bool)
  | 0, _, _, _, _ => none
  | k + 1, x34, x298000, x298001, x298002 => if x34 = true then (some false) else (awardingbodyref06_ValidPaper.l0 k 0 0 x298000 x298001 x298002)
def awardingbodyref06_ValidPaper.l0 : Nat → Int → Int → Int → Int → List (S23) → Option (Bool)
  | 0, _, _, _, _, _ => none
  | k + 1, x3, x4, x298000, x298001, x298002 => if x4 < (x298002.length : Int) then (if 0 ≤ x4 then ((awardingbodyref06_ValidPart.f k ((rd_T23 x298002 x4).f0) ((rd_T23 x298002 x4).f1) ((rd_T23 x298002 x4).f2) ((rd_T23 x298002 x4).f3) ((rd_T23 x298002 x4).f4) ((rd_T23 x298002 x4).f5)).bind fun t299 => (if t299 = true then (awardingbodyref06_ValidPaper.l0 k (wrap64 (x3 + ((rd_T23 x298002 x4).f1))) (wrap64 (x4 + 1)) x298000 x298001 x298002) else (some false))) else (none)) else (some (decide (x3 ≤ 200)))
end
def awardingbodyref06_ValidPaper.f (k : Nat) (a0_0 : Int) (a0_1 : Int) (l0_2 : List (S23)) : Option (Bool) := if a0_0 < 0 then (awardingbodyref06_ValidPaper.j0 k true a0_0 a0_1 l0_2) else (if a0_0 > 31 then (awardingbodyref06_ValidPaper.j0 k true a0_0 a0_1 l0_2) else (if a0_1 < 0 then (awardingbodyref06_ValidPaper.j0 k true a0_0 a0_1 l0_2) else (if a0_1 ≥ 4 then (awardingbodyref06_ValidPaper.j0 k true a0_0 a0_1 l0_2) else (if (l0_2.length : Int) < 1 then (awardingbodyref06_ValidPaper.j0 k true a0_0 a0_1 l0_2) else (awardingbodyref06_ValidPaper.j0 k (decide ((l0_2.length : Int) > 24)) a0_0 a0_1 l0_2)))))
theorem awardingbodyref06_ValidPaper.mono_l : ∀ k, (∀ y0 y1 y2 y3, LeO (awardingbodyref06_ValidPaper.j0 k y0 y1 y2 y3) (awardingbodyref06_ValidPaper.j0 (k + 1) y0 y1 y2 y3)) ∧ (∀ y0 y1 y2 y3 y4, LeO (awardingbodyref06_ValidPaper.l0 k y0 y1 y2 y3 y4) (awardingbodyref06_ValidPaper.l0 (k + 1) y0 y1 y2 y3 y4))
  | 0 => ⟨fun _ _ _ _ r h => by simp [awardingbodyref06_ValidPaper.j0] at h, fun _ _ _ _ _ r h => by simp [awardingbodyref06_ValidPaper.l0] at h⟩
  | k + 1 => by
    obtain ⟨ih0, ih1⟩ := awardingbodyref06_ValidPaper.mono_l k
    refine ⟨?_, ?_⟩
    · intro y0 y1 y2 y3
      unfold awardingbodyref06_ValidPaper.j0
      repeat' first
      | (with_reducible exact ih0 _ _ _ _)
      | (with_reducible exact ih1 _ _ _ _ _)
      | (with_reducible exact awardingbodyref06_ValidPart.mono _ _ _ _ _ _ _)
      | (with_reducible exact LeO.refl _)
      | (with_reducible exact LeO.none _)
      | (with_reducible refine LeO.ite ?_ ?_)
      | (with_reducible refine LeO.bind ?_ (fun _ => ?_))
      | exact ih0 _ _ _ _
      | exact ih1 _ _ _ _ _
      | exact awardingbodyref06_ValidPart.mono _ _ _ _ _ _ _
      | exact LeO.none _
      | refine LeO.ite ?_ ?_
      | refine LeO.bind ?_ (fun _ => ?_)
    · intro y0 y1 y2 y3 y4
      unfold awardingbodyref06_ValidPaper.l0
      repeat' first
      | (with_reducible exact ih0 _ _ _ _)
      | (with_reducible exact ih1 _ _ _ _ _)
      | (with_reducible exact awardingbodyref06_ValidPart.mono _ _ _ _ _ _ _)
      | (with_reducible exact LeO.refl _)
      | (with_reducible exact LeO.none _)
      | (with_reducible refine LeO.ite ?_ ?_)
      | (with_reducible refine LeO.bind ?_ (fun _ => ?_))
      | exact ih0 _ _ _ _
      | exact ih1 _ _ _ _ _
      | exact awardingbodyref06_ValidPart.mono _ _ _ _ _ _ _
      | exact LeO.none _
      | refine LeO.ite ?_ ?_
      | refine LeO.bind ?_ (fun _ => ?_)
theorem awardingbodyref06_ValidPaper.mono : ∀ a0 a1 a2 k, LeO (awardingbodyref06_ValidPaper.f k a0 a1 a2) (awardingbodyref06_ValidPaper.f (k + 1) a0 a1 a2) := by
  intro a0 a1 a2 k
  obtain ⟨ih0, ih1⟩ := awardingbodyref06_ValidPaper.mono_l k
  unfold awardingbodyref06_ValidPaper.f
  repeat' first
      | (with_reducible exact ih0 _ _ _ _)
      | (with_reducible exact ih1 _ _ _ _ _)
      | (with_reducible exact awardingbodyref06_ValidPart.mono _ _ _ _ _ _ _)
      | (with_reducible exact LeO.refl _)
      | (with_reducible exact LeO.none _)
      | (with_reducible refine LeO.ite ?_ ?_)
      | (with_reducible refine LeO.bind ?_ (fun _ => ?_))
      | exact ih0 _ _ _ _
      | exact ih1 _ _ _ _ _
      | exact awardingbodyref06_ValidPart.mono _ _ _ _ _ _ _
      | exact LeO.none _
      | refine LeO.ite ?_ ?_
      | refine LeO.bind ?_ (fun _ => ?_)
set_option maxHeartbeats 8000000 in
set_option maxRecDepth 100000 in
theorem awardingbodyref06_ValidPaper.calls (k : Nat) (a0_0 : Int) (a0_1 : Int) (A0_2 : Option Addr) (c0_2 : Nat) (l0_2 : List (S23)) (r : Bool) (w : World) (hr0_2 : Kd.C k23 w A0_2 l0_2.length l0_2) (hc0_2 : l0_2.length ≤ c0_2) (h : awardingbodyref06_ValidPaper.f k a0_0 a0_1 l0_2 = some r) :
    Calls Try.prog 38 #[.agg #[.int .i64 a0_0, .int .i64 a0_1, .slice A0_2 l0_2.length c0_2]] w fun e w' => e = .returned (.bool r) ∧ Below w.heap.size w w' := by
 have hu33 := Try.underlying33
 have hu23 := Try.underlying23
 have HR0_2 := za hr0_2
 have HC0_2 := za hc0_2
 clear hr0_2 hc0_2
 have HB := za (Below.refl w.heap.size w)
 have H : (if a0_0 < 0 then (awardingbodyref06_ValidPaper.j0 k true a0_0 a0_1 l0_2) else (if a0_0 > 31 then (awardingbodyref06_ValidPaper.j0 k true a0_0 a0_1 l0_2) else (if a0_1 < 0 then (awardingbodyref06_ValidPaper.j0 k true a0_0 a0_1 l0_2) else (if a0_1 ≥ 4 then (awardingbodyref06_ValidPaper.j0 k true a0_0 a0_1 l0_2) else (if (l0_2.length : Int) < 1 then (awardingbodyref06_ValidPaper.j0 k true a0_0 a0_1 l0_2) else (awardingbodyref06_ValidPaper.j0 k (decide ((l0_2.length : Int) > 24)) a0_0 a0_1 l0_2)))))) = some r := h
 clear h
 have HC2 := za H
 clear H
 go_enter Try.func38, Try.ntmps38
 go_upto_region 1 with (first | ((with_reducible refine gate_dst (N := 1) rfl ?_); (try (refine gate_guard (by rfl) ?_; dsimp only)); refine zE 1 #[.int .i64 a0_0, .int .i64 a0_1, .slice A0_2 l0_2.length c0_2] 33 ?_; intro gb297 hg w3 hbox hb; have BK297 := za (hbox); have GW297 := zg HB hg; have GE297 := zg HB hg; replace HB := zs HB hb; clear hb hbox hg))
 (try simp only [Act.put, List.setIfInBounds_toArray, List.set_cons_zero, List.set_cons_succ])
 go_cut [34] (fun v34 wc => ∃ (kq : Nat) (x34_1 : Bool), v34 = .bool x34_1 ∧ Aside0 (awardingbodyref06_ValidPaper.j0 kq x34_1 a0_0 a0_1 l0_2 = some r) ∧ Aside0 (kq ≤ k) ∧ Aside0 (wc.heap[gb297]? = some (.cells #[.int .i64 a0_0, .int .i64 a0_1, (.slice A0_2 l0_2.length c0_2)] 33 (0, 0))) ∧ Aside0 (Below w.heap.size w wc))
 case first =>
  have H := HC2.out
  clear HC2
  by_cases c4 : a0_0 < 0
  ·rw [if_pos c4] at H
   have c4b0 : decide (a0_0 < 0) = true := decide_eq_true c4
   clear c4
   (first | rw [c4b0] | (simp only [i64_w, i32_w]; rw [c4b0]) | skip)
   have H' := za H
   clear H
   obtain ⟨hcz5_0, hcz5_1, hcz5_2, hfz5_0, hfz5_1, hfz5_2⟩ := z3 BK297
   go_wp2
   go_meet
   case rel => exact ⟨_, (true), (by first | rfl | (simp; done) | (simp [*]; done)), H', ⟨by first | omega | exact Nat.le_refl _⟩, ⟨by (with_reducible repeat (first | refine blk_drewN ?_ _ | refine blk_drew ?_ | refine blk_alloc ?_ _)); exact BK297.out⟩, ⟨zm HB⟩⟩
  ·rw [if_neg c4] at H
   have c4b0 : decide (a0_0 < 0) = false := decide_eq_false c4
   clear c4
   (first | rw [c4b0] | (simp only [i64_w, i32_w]; rw [c4b0]) | skip)
   by_cases c6 : a0_0 > 31
   ·rw [if_pos c6] at H
    have c6b0 : decide (31 < a0_0) = true := decide_eq_true c6
    clear c6
    have H' := za H
    clear H
    obtain ⟨hcz7_0, hcz7_1, hcz7_2, hfz7_0, hfz7_1, hfz7_2⟩ := z3 BK297
    go_wp2
    go_meet
    case rel => exact ⟨_, (true), (by first | rfl | (simp; done) | (simp [*]; done)), H', ⟨by first | omega | exact Nat.le_refl _⟩, ⟨by (with_reducible repeat (first | refine blk_drewN ?_ _ | refine blk_drew ?_ | refine blk_alloc ?_ _)); exact BK297.out⟩, ⟨zm HB⟩⟩
   ·rw [if_neg c6] at H
    have c6b0 : decide (31 < a0_0) = false := decide_eq_false c6
    clear c6
    by_cases c8 : a0_1 < 0
    ·rw [if_pos c8] at H
     have c8b0 : decide (a0_1 < 0) = true := decide_eq_true c8
     clear c8
     have H' := za H
     clear H
     obtain ⟨hcz9_0, hcz9_1, hcz9_2, hfz9_0, hfz9_1, hfz9_2⟩ := z3 BK297
     go_wp2
     go_meet
     case rel => exact ⟨_, (true), (by first | rfl | (simp; done) | (simp [*]; done)), H', ⟨by first | omega | exact Nat.le_refl _⟩, ⟨by (with_reducible repeat (first | refine blk_drewN ?_ _ | refine blk_drew ?_ | refine blk_alloc ?_ _)); exact BK297.out⟩, ⟨zm HB⟩⟩
    ·rw [if_neg c8] at H
     have c8b0 : decide (a0_1 < 0) = false := decide_eq_false c8
     clear c8
     by_cases c10 : a0_1 ≥ 4
     ·rw [if_pos c10] at H
      have c10b0 : decide (4 ≤ a0_1) = true := decide_eq_true c10
      clear c10
      have H' := za H
      clear H
      obtain ⟨hcz11_0, hcz11_1, hcz11_2, hfz11_0, hfz11_1, hfz11_2⟩ := z3 BK297
      go_wp2
      go_meet
      case rel => exact ⟨_, (true), (by first | rfl | (simp; done) | (simp [*]; done)), H', ⟨by first | omega | exact Nat.le_refl _⟩, ⟨by (with_reducible repeat (first | refine blk_drewN ?_ _ | refine blk_drew ?_ | refine blk_alloc ?_ _)); exact BK297.out⟩, ⟨zm HB⟩⟩
     ·rw [if_neg c10] at H
      have c10b0 : decide (4 ≤ a0_1) = false := decide_eq_false c10
      clear c10
      by_cases c12 : (l0_2.length : Int) < 1
      ·rw [if_pos c12] at H
       have c12b0 : decide ((l0_2.length : Int) < 1) = true := decide_eq_true c12
       have c12b1 : decide (l0_2.length < 1) = true := decide_eq_true (by omega)
       clear c12
       have H' := za H
       clear H
       obtain ⟨hcz13_0, hcz13_1, hcz13_2, hfz13_0, hfz13_1, hfz13_2⟩ := z3 BK297
       go_wp2
       go_meet
       case rel => exact ⟨_, (true), (by first | rfl | (simp; done) | (simp [*]; done)), H', ⟨by first | omega | exact Nat.le_refl _⟩, ⟨by (with_reducible repeat (first | refine blk_drewN ?_ _ | refine blk_drew ?_ | refine blk_alloc ?_ _)); exact BK297.out⟩, ⟨zm HB⟩⟩
      ·rw [if_neg c12] at H
       have c12b0 : decide ((l0_2.length : Int) < 1) = false := decide_eq_false c12
       have c12b1 : decide (l0_2.length < 1) = false := decide_eq_false (by omega)
       clear c12
       have H' := za H
       clear H
       obtain ⟨hcz14_0, hcz14_1, hcz14_2, hfz14_0, hfz14_1, hfz14_2⟩ := z3 BK297
       go_wp2
       go_meet
       case rel => exact ⟨_, (decide ((l0_2.length : Int) > 24)), (by first | rfl | (simp; done) | (simp [*]; done)), H', ⟨by first | omega | exact Nat.le_refl _⟩, ⟨by (with_reducible repeat (first | refine blk_drewN ?_ _ | refine blk_drew ?_ | refine blk_alloc ?_ _)); exact BK297.out⟩, ⟨zm HB⟩⟩
 case rest =>
  clear HC2
  try clear c1
  try clear p2
  try clear c3
  try clear c4
  try clear c4b0
  try clear c6
  try clear c6b0
  try clear c8
  try clear c8b0
  try clear c10
  try clear c10b0
  try clear c12
  try clear c12b0
  try clear c12b1
  try clear hcz11_0
  try clear hcz11_1
  try clear hcz11_2
  try clear hcz13_0
  try clear hcz13_1
  try clear hcz13_2
  try clear hcz14_0
  try clear hcz14_1
  try clear hcz14_2
  try clear hcz5_0
  try clear hcz5_1
  try clear hcz5_2
  try clear hcz7_0
  try clear hcz7_1
  try clear hcz7_2
  try clear hcz9_0
  try clear hcz9_1
  try clear hcz9_2
  try clear hfz11_0
  try clear hfz11_1
  try clear hfz11_2
  try clear hfz13_0
  try clear hfz13_1
  try clear hfz13_2
  try clear hfz14_0
  try clear hfz14_1
  try clear hfz14_2
  try clear hfz5_0
  try clear hfz5_1
  try clear hfz5_2
  try clear hfz7_0
  try clear hfz7_1
  try clear hfz7_2
  try clear hfz9_0
  try clear hfz9_1
  try clear hfz9_2
  obtain ⟨kq, x34_1, rfl, HA, HJ1, BK297, HB⟩ := hcut
  cases kq with
  | zero => exact absurd HA.out (by simp [awardingbodyref06_ValidPaper.j0])
  | succ kj1 =>
   have H := HA.out
   clear HA
   simp only [awardingbodyref06_ValidPaper.j0] at H
   by_cases c15 : x34_1 = true
   ·subst c15
    have H1 : (some false) = some r := by rw [if_pos rfl] at H; exact H
    clear H
    have H := H1
    clear H1
    obtain rfl := Option.some.inj H
    go_wp2
    go_ret
    exact ⟨zf, zm HB⟩
   ·replace c15 := Bool.eq_false_iff.mpr c15
    subst c15
    have H1 : (awardingbodyref06_ValidPaper.l0 kj1 0 0 a0_0 a0_1 l0_2) = some r := by rw [if_neg (show ¬ (false = true) by decide)] at H; exact H
    clear H
    have H := H1
    clear H1
    have H' := za H
    clear H
    go_wp2
    go_loopg [3, 4] kj1 (fun kq v3 v4 w' => ∃ (x3_2 : Int) (x4_2 : Int), v3 = .int .i64 x3_2 ∧ v4 = .int .i64 x4_2 ∧ Aside0 (awardingbodyref06_ValidPaper.l0 kq x3_2 x4_2 a0_0 a0_1 l0_2 = some r) ∧ Aside0 (kq ≤ kj1) ∧ Aside0 (w'.heap[gb297]? = some (.cells #[.int .i64 a0_0, .int .i64 a0_1, (.slice A0_2 l0_2.length c0_2)] 33 (0, 0))) ∧ Aside0 (Below w.heap.size w w'))
    case atStart => exact ⟨(0), (0), (by first | rfl | (simp; done) | (simp [*]; done)), (by first | rfl | (simp; done) | (simp [*]; done)), H', ⟨Nat.le_refl _⟩, ⟨by (with_reducible repeat (first | refine blk_drewN ?_ _ | refine blk_drew ?_ | refine blk_alloc ?_ _)); exact BK297.out⟩, ⟨zm HB⟩⟩
    case round =>
     clear H'
     try clear c1
     try clear p2
     try clear c3
     try clear c4
     try clear c4b0
     try clear c6
     try clear c6b0
     try clear c8
     try clear c8b0
     try clear c10
     try clear c10b0
     try clear c12
     try clear c12b0
     try clear c12b1
     try clear c15
     try clear hcz11_0
     try clear hcz11_1
     try clear hcz11_2
     try clear hcz13_0
     try clear hcz13_1
     try clear hcz13_2
     try clear hcz14_0
     try clear hcz14_1
     try clear hcz14_2
     try clear hcz5_0
     try clear hcz5_1
     try clear hcz5_2
     try clear hcz7_0
     try clear hcz7_1
     try clear hcz7_2
     try clear hcz9_0
     try clear hcz9_1
     try clear hcz9_2
     try clear hfz11_0
     try clear hfz11_1
     try clear hfz11_2
     try clear hfz13_0
     try clear hfz13_1
     try clear hfz13_2
     try clear hfz14_0
     try clear hfz14_1
     try clear hfz14_2
     try clear hfz5_0
     try clear hfz5_1
     try clear hfz5_2
     try clear hfz7_0
     try clear hfz7_1
     try clear hfz7_2
     try clear hfz9_0
     try clear hfz9_1
     try clear hfz9_2
     try clear p2
     obtain ⟨x3_2, x4_2, rfl, rfl, HA, HK2, BK297, HB⟩ := hrel
     cases gk with
     | zero => exact absurd HA.out (by simp [awardingbodyref06_ValidPaper.l0])
     | succ k2 =>
      have H := HA.out
      clear HA
      simp only [awardingbodyref06_ValidPaper.l0] at H
      by_cases c16 : x4_2 < (l0_2.length : Int)
      ·rw [if_pos c16] at H
       have c16b0 : decide (x4_2 < (l0_2.length : Int)) = true := decide_eq_true c16
       clear c16
       by_cases c17 : 0 ≤ x4_2
       ·rw [if_pos c17] at H
        have c17b0 : decide (0 ≤ x4_2) = true := decide_eq_true c17
        clear c17
        replace H := Option.bind_eq_some_iff.mp H
        obtain ⟨t299, A180, H⟩ := H
        replace H : (if t299 = true then (awardingbodyref06_ValidPaper.l0 k2 (wrap64 (x3_2 + ((rd_T23 l0_2 x4_2).f1))) (wrap64 (x4_2 + 1)) a0_0 a0_1 l0_2) else (some false)) = some r := H
        have A18 := za A180
        clear A180
        by_cases c19 : t299 = true
        ·subst c19
         have H1 : (awardingbodyref06_ValidPaper.l0 k2 (wrap64 (x3_2 + ((rd_T23 l0_2 x4_2).f1))) (wrap64 (x4_2 + 1)) a0_0 a0_1 l0_2) = some r := by rw [if_pos rfl] at H; exact H
         clear H
         have H := H1
         clear H1
         have H' := za H
         clear H
         obtain ⟨hcz20_0, hcz20_1, hcz20_2, hfz20_0, hfz20_1, hfz20_2⟩ := z3 BK297
         have p298 : 0 ≤ (x4_2 : Int) := of_decide_eq_true (by first | (with_reducible assumption) | assumption)
         have q298 : x4_2 < (l0_2.length : Int) := of_decide_eq_true (by first | (with_reducible assumption) | assumption)
         obtain ⟨ad298, e298, hx298_0, hx298_1, hx298_2, hx298_3, hx298_4, hx298_5⟩ := at_T23 HR0_2.out x4_2 p298 q298
         cases e298
         replace hx298_0 := zx HB hx298_0
         replace hx298_1 := zx HB hx298_1
         replace hx298_2 := zx HB hx298_2
         replace hx298_3 := zx HB hx298_3
         replace hx298_4 := zx HB hx298_4
         replace hx298_5 := zx HB hx298_5
         replace p298 := eq_true p298
         replace q298 := eq_true q298
         go_wp2_with (first | ((with_reducible refine gate_callee (f := 31) rfl ?_); refine zL (some 47) Try.func31 #[.agg #[.int .i64 ((rd_T23 l0_2 x4_2).f0), .int .i64 ((rd_T23 l0_2 x4_2).f1), .int .i64 ((rd_T23 l0_2 x4_2).f2), .int .i64 ((rd_T23 l0_2 x4_2).f3), .int .i64 ((rd_T23 l0_2 x4_2).f4), .int .i64 ((rd_T23 l0_2 x4_2).f5)]] ?_; (with_reducible refine (awardingbodyref06_ValidPart.calls k2 ((rd_T23 l0_2 x4_2).f0) ((rd_T23 l0_2 x4_2).f1) ((rd_T23 l0_2 x4_2).f2) ((rd_T23 l0_2 x4_2).f3) ((rd_T23 l0_2 x4_2).f4) ((rd_T23 l0_2 x4_2).f5) true _ A18.out).mono ?_); rintro e w21 ⟨rfl, hb⟩; refine ⟨_, rfl, ?_⟩; replace BK297 := zb BK297 hb; replace HB := zs HB hb; (try clear hb); (try clear hb2); (try clear hk); (try clear hi); obtain ⟨hcz22_0, hcz22_1, hcz22_2, hfz22_0, hfz22_1, hfz22_2⟩ := z3 BK297; have p300 : 0 ≤ (x4_2 : Int) := of_decide_eq_true (by first | (with_reducible assumption) | assumption); have q300 : x4_2 < (l0_2.length : Int) := of_decide_eq_true (by first | (with_reducible assumption) | assumption); obtain ⟨ad300, e300, hx300_0, hx300_1, hx300_2, hx300_3, hx300_4, hx300_5⟩ := at_T23 HR0_2.out x4_2 p300 q300; obtain rfl : ad298 = ad300 := (by injection e300); replace hx300_0 := zx HB hx300_0; replace hx300_1 := zx HB hx300_1; replace hx300_2 := zx HB hx300_2; replace hx300_3 := zx HB hx300_3; replace hx300_4 := zx HB hx300_4; replace hx300_5 := zx HB hx300_5; replace p300 := eq_true p300; replace q300 := eq_true q300))
         go_roundg k2
         case measure => have := HJ1.out; have := HK2.out; omega
         case rel => exact ⟨(wrap64 (x3_2 + ((rd_T23 l0_2 x4_2).f1))), (wrap64 (x4_2 + 1)), (by first | rfl | (simp; done) | (simp [*]; done)), (by first | rfl | (simp; done) | (simp [*]; done)), H', ⟨by have := HJ1.out; have := HK2.out; omega⟩, ⟨by (with_reducible repeat (first | refine blk_drewN ?_ _ | refine blk_drew ?_ | refine blk_alloc ?_ _)); exact BK297.out⟩, ⟨zm HB⟩⟩
        ·replace c19 := Bool.eq_false_iff.mpr c19
         subst c19
         have H1 : (some false) = some r := by rw [if_neg (show ¬ (false = true) by decide)] at H; exact H
         clear H
         have H := H1
         clear H1
         obtain rfl := Option.some.inj H
         obtain ⟨hcz23_0, hcz23_1, hcz23_2, hfz23_0, hfz23_1, hfz23_2⟩ := z3 BK297
         have p298 : 0 ≤ (x4_2 : Int) := of_decide_eq_true (by first | (with_reducible assumption) | assumption)
         have q298 : x4_2 < (l0_2.length : Int) := of_decide_eq_true (by first | (with_reducible assumption) | assumption)
         obtain ⟨ad298, e298, hx298_0, hx298_1, hx298_2, hx298_3, hx298_4, hx298_5⟩ := at_T23 HR0_2.out x4_2 p298 q298
         cases e298
         replace hx298_0 := zx HB hx298_0
         replace hx298_1 := zx HB hx298_1
         replace hx298_2 := zx HB hx298_2
         replace hx298_3 := zx HB hx298_3
         replace hx298_4 := zx HB hx298_4
         replace hx298_5 := zx HB hx298_5
         replace p298 := eq_true p298
         replace q298 := eq_true q298
         go_wp2_with (first | ((with_reducible refine gate_callee (f := 31) rfl ?_); refine zL (some 47) Try.func31 #[.agg #[.int .i64 ((rd_T23 l0_2 x4_2).f0), .int .i64 ((rd_T23 l0_2 x4_2).f1), .int .i64 ((rd_T23 l0_2 x4_2).f2), .int .i64 ((rd_T23 l0_2 x4_2).f3), .int .i64 ((rd_T23 l0_2 x4_2).f4), .int .i64 ((rd_T23 l0_2 x4_2).f5)]] ?_; (with_reducible refine (awardingbodyref06_ValidPart.calls k2 ((rd_T23 l0_2 x4_2).f0) ((rd_T23 l0_2 x4_2).f1) ((rd_T23 l0_2 x4_2).f2) ((rd_T23 l0_2 x4_2).f3) ((rd_T23 l0_2 x4_2).f4) ((rd_T23 l0_2 x4_2).f5) false _ A18.out).mono ?_); rintro e w24 ⟨rfl, hb⟩; refine ⟨_, rfl, ?_⟩; replace BK297 := zb BK297 hb; replace HB := zs HB hb; (try clear hb); (try clear hb2); (try clear hk); (try clear hi)))
         go_ret
         exact ⟨zf, zm HB⟩
       ·rw [if_neg c17] at H
        exact absurd H (by simp)
      ·rw [if_neg c16] at H
       have c16b0 : decide (x4_2 < (l0_2.length : Int)) = false := decide_eq_false c16
       clear c16
       obtain rfl := Option.some.inj H
       obtain ⟨hcz25_0, hcz25_1, hcz25_2, hfz25_0, hfz25_1, hfz25_2⟩ := z3 BK297
       go_wp2
       go_ret
       exact ⟨zf, zm HB⟩

end Go.Proofs.Ytdmlbgdefapcjaa.Print
