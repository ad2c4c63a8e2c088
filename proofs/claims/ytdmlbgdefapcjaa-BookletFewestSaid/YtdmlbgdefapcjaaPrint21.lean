-- Printed by a program of this session (wip/own_print.py) out of the translation; Lean checks it.
import Derived.Test.YtdmlbgdefapcjaaShort
import Derived.Test.YtdmlbgdefapcjaaPrint0
import Derived.Test.YtdmlbgdefapcjaaPrint3
import Derived.Test.YtdmlbgdefapcjaaPrint14
namespace Go.Proofs.Ytdmlbgdefapcjaa.Print
open Go.RowKit Go.Proofs.YtdmlbgdefapcjaaW.PrintWords Go.Proofs.YtdmlbgdefapcjaaW.PrintLast Go.Proofs.YtdmlbgdefapcjaaW.PrintMore
attribute [local go_sem] max2_int min2_int max_two min_two max_three min_three max_four min_four   -- for this text's walks alone
set_option linter.unusedVariables false
set_option linter.unusedSimpArgs false

/-! ### awardingbodyref12_Valid: function 24 -/
mutual
def awardingbodyref12_Valid.j0 : Nat → Bool → Int → Int → List (S23) → List (List Int) → Option (Bool)
  | 0, _, _, _, _, _ => none
  | k + 1, x38, x473000, x473001, x473002, x474000 => if x38 = true then (some false) else (awardingbodyref12_Valid.l0 k 0 0 x473000 x473001 x473002 x474000)
def awardingbodyref12_Valid.l0 : Nat → Int → Int → Int → Int → List (S23) → List (List Int) → Option (Bool)
  | 0, _, _, _, _, _, _ => none
  | k + 1, x5, x6, x473000, x473001, x473002, x474000 => if x6 < (x474000.length : Int) then (awardingbodyref12_Valid.l1 k x5 x6 0 0 x473000 x473001 x473002 x474000) else (some (x5 == (x473002.length : Int)))
def awardingbodyref12_Valid.l1 : Nat → Int → Int → Int → Int → Int → Int → List (S23) → List (List Int) → Option (Bool)
  | 0, _, _, _, _, _, _, _, _ => none
  | k + 1, x5, x6, x7, x8, x473000, x473001, x473002, x474000 => if 0 ≤ x6 then (if x6 < (x474000.length : Int) then (if x8 < ((rd_L2 x474000 x6).length : Int) then (if x5 ≥ (x473002.length : Int) then (some false) else (if 0 ≤ x8 then (if (rd (rd_L2 x474000 x6) x8) = x5 then (if 0 ≤ x5 then (if x5 < (x473002.length : Int) then ((awardingbodyref12_Need.f k ((rd_T23 x473002 x5).f0) ((rd_T23 x473002 x5).f1) ((rd_T23 x473002 x5).f2) ((rd_T23 x473002 x5).f3) ((rd_T23 x473002 x5).f4) ((rd_T23 x473002 x5).f5)).bind fun t480 => (awardingbodyref12_Valid.l1 k (wrap64 (x5 + 1)) x6 (wrap64 (x7 + t480)) (wrap64 (x8 + 1)) x473000 x473001 x473002 x474000)) else (none)) else (none)) else (some false)) else (none))) else (if x7 > 30 then (some false) else (awardingbodyref12_Valid.l0 k x5 (wrap64 (x6 + 1)) x473000 x473001 x473002 x474000))) else (none)) else (none)
end
def awardingbodyref12_Valid.f (k : Nat) (a0_0 : Int) (a0_1 : Int) (l0_2 : List (S23)) (l1_0 : List (List Int)) : Option (Bool) := (awardingbodyref06_ValidPaper.f k a0_0 a0_1 l0_2).bind fun t474 => (if t474 = true then (if (l1_0.length : Int) < 1 then (awardingbodyref12_Valid.j0 k true a0_0 a0_1 l0_2 l1_0) else (if (l1_0.length : Int) > 12 then (awardingbodyref12_Valid.j0 k true a0_0 a0_1 l0_2 l1_0) else (if ((l1_0.length : Int) % 4) = 0 then (if 0 < (l1_0.length : Int) then (awardingbodyref12_Valid.j0 k (decide (((rd_L2 l1_0 0).length : Int) > 0)) a0_0 a0_1 l0_2 l1_0) else (none)) else (awardingbodyref12_Valid.j0 k true a0_0 a0_1 l0_2 l1_0)))) else (awardingbodyref12_Valid.j0 k true a0_0 a0_1 l0_2 l1_0))
theorem awardingbodyref12_Valid.mono_l : ∀ k, (∀ y0 y1 y2 y3 y4, LeO (awardingbodyref12_Valid.j0 k y0 y1 y2 y3 y4) (awardingbodyref12_Valid.j0 (k + 1) y0 y1 y2 y3 y4)) ∧ (∀ y0 y1 y2 y3 y4 y5, LeO (awardingbodyref12_Valid.l0 k y0 y1 y2 y3 y4 y5) (awardingbodyref12_Valid.l0 (k + 1) y0 y1 y2 y3 y4 y5)) ∧ (∀ y0 y1 y2 y3 y4 y5 y6 y7, LeO (awardingbodyref12_Valid.l1 k y0 y1 y2 y3 y4 y5 y6 y7) (awardingbodyref12_Valid.l1 (k + 1) y0 y1 y2 y3 y4 y5 y6 y7))
  | 0 => ⟨fun _ _ _ _ _ r h => by simp [awardingbodyref12_Valid.j0] at h, fun _ _ _ _ _ _ r h => by simp [awardingbodyref12_Valid.l0] at h, fun _ _ _ _ _ _ _ _ r h => by simp [awardingbodyref12_Valid.l1] at h⟩
  | k + 1 => by
    obtain ⟨ih0, ih1, ih2⟩ := awardingbodyref12_Valid.mono_l k
    refine ⟨?_, ?_, ?_⟩
    · intro y0 y1 y2 y3 y4
      unfold awardingbodyref12_Valid.j0
      repeat' first
      | (with_reducible exact ih0 _ _ _ _ _)
      | (with_reducible exact ih1 _ _ _ _ _ _)
      | (with_reducible exact ih2 _ _ _ _ _ _ _ _)
      | (with_reducible exact awardingbodyref06_ValidPaper.mono _ _ _ _)
      | (with_reducible exact awardingbodyref12_Need.mono _ _ _ _ _ _ _)
      | (with_reducible exact LeO.refl _)
      | (with_reducible exact LeO.none _)
      | (with_reducible refine LeO.ite ?_ ?_)
      | (with_reducible refine LeO.bind ?_ (fun _ => ?_))
      | exact ih0 _ _ _ _ _
      | exact ih1 _ _ _ _ _ _
      | exact ih2 _ _ _ _ _ _ _ _
      | exact awardingbodyref06_ValidPaper.mono _ _ _ _
      | exact awardingbodyref12_Need.mono _ _ _ _ _ _ _
      | exact LeO.none _
      | refine LeO.ite ?_ ?_
      | refine LeO.bind ?_ (fun _ => ?_)
    · intro y0 y1 y2 y3 y4 y5
      unfold awardingbodyref12_Valid.l0
      repeat' first
      | (with_reducible exact ih0 _ _ _ _ _)
      | (with_reducible exact ih1 _ _ _ _ _ _)
      | (with_reducible exact ih2 _ _ _ _ _ _ _ _)
      | (with_reducible exact awardingbodyref06_ValidPaper.mono _ _ _ _)
      | (with_reducible exact awardingbodyref12_Need.mono _ _ _ _ _ _ _)
      | (with_reducible exact LeO.refl _)
      | (with_reducible exact LeO.none _)
      | (with_reducible refine LeO.ite ?_ ?_)
      | (with_reducible refine LeO.bind ?_ (fun _ => ?_))
      | exact ih0 _ _ _ _ _
      | exact ih1 _ _ _ _ _ _
      | exact ih2 _ _ _ _ _ _ _ _
      | exact awardingbodyref06_ValidPaper.mono _ _ _ _
      | exact awardingbodyref12_Need.mono _ _ _ _ _ _ _
      | exact LeO.none _
      | refine LeO.ite ?_ ?_
      | refine LeO.bind ?_ (fun _ => ?_)
    · intro y0 y1 y2 y3 y4 y5 y6 y7
      unfold awardingbodyref12_Valid.l1
      repeat' first
      | (with_reducible exact ih0 _ _ _ _ _)
      | (with_reducible exact ih1 _ _ _ _ _ _)
      | (with_reducible exact ih2 _ _ _ _ _ _ _ _)
      | (with_reducible exact awardingbodyref06_ValidPaper.mono _ _ _ _)
      | (with_reducible exact awardingbodyref12_Need.mono _ _ _ _ _ _ _)
      | (with_reducible exact LeO.refl _)
      | (with_reducible exact LeO.none _)
      | (with_reducible refine LeO.ite ?_ ?_)
      | (with_reducible refine LeO.bind ?_ (fun _ => ?_))
      | exact ih0 _ _ _ _ _
      | exact ih1 _ _ _ _ _ _
      | exact ih2 _ _ _ _ _ _ _ _
      | exact awardingbodyref06_ValidPaper.mono _ _ _ _
      | exact awardingbodyref12_Need.mono _ _ _ _ _ _ _
      | exact LeO.none _
      | refine LeO.ite ?_ ?_
      | refine LeO.bind ?_ (fun _ => ?_)
theorem awardingbodyref12_Valid.mono : ∀ a0 a1 a2 a3 k, LeO (awardingbodyref12_Valid.f k a0 a1 a2 a3) (awardingbodyref12_Valid.f (k + 1) a0 a1 a2 a3) := by
  intro a0 a1 a2 a3 k
  obtain ⟨ih0, ih1, ih2⟩ := awardingbodyref12_Valid.mono_l k
  unfold awardingbodyref12_Valid.f
  repeat' first
      | (with_reducible exact ih0 _ _ _ _ _)
      | (with_reducible exact ih1 _ _ _ _ _ _)
      | (with_reducible exact ih2 _ _ _ _ _ _ _ _)
      | (with_reducible exact awardingbodyref06_ValidPaper.mono _ _ _ _)
      | (with_reducible exact awardingbodyref12_Need.mono _ _ _ _ _ _ _)
      | (with_reducible exact LeO.refl _)
      | (with_reducible exact LeO.none _)
      | (with_reducible refine LeO.ite ?_ ?_)
      | (with_reducible refine LeO.bind ?_ (fun _ => ?_))
      | exact ih0 _ _ _ _ _
      | exact ih1 _ _ _ _ _ _
      | exact ih2 _ _ _ _ _ _ _ _
      | exact awardingbodyref06_ValidPaper.mono _ _ _ _
      | exact awardingbodyref12_Need.mono _ _ _ _ _ _ _
      | exact LeO.none _
      | refine LeO.ite ?_ ?_
      | refine LeO.bind ?_ (fun _ => ?_)
set_option maxHeartbeats 8000000 in
set_option maxRecDepth 100000 in
theorem awardingbodyref12_Valid.calls (k : Nat) (a0_0 : Int) (a0_1 : Int) (A0_2 : Option Addr) (c0_2 : Nat) (l0_2 : List (S23)) (A1_0 : Option Addr) (c1_0 : Nat) (l1_0 : List (List Int)) (r : Bool) (w : World) (hr0_2 : Kd.C k23 w A0_2 l0_2.length l0_2) (hc0_2 : l0_2.length ≤ c0_2) (hr1_0 : Kd.C (Kd.slice 3 (Kd.int .i64)) w A1_0 l1_0.length l1_0) (hc1_0 : l1_0.length ≤ c1_0) (h : awardingbodyref12_Valid.f k a0_0 a0_1 l0_2 l1_0 = some r) :
    Calls Try.prog 24 #[.agg #[.int .i64 a0_0, .int .i64 a0_1, .slice A0_2 l0_2.length c0_2], .agg #[.slice A1_0 l1_0.length c1_0]] w fun e w' => e = .returned (.bool r) ∧ Below w.heap.size w w' := by
 have hu33 := Try.underlying33
 have hu38 := Try.underlying38
 have hu23 := Try.underlying23
 have HR0_2 := za hr0_2
 have HC0_2 := za hc0_2
 clear hr0_2 hc0_2
 have HR1_0 := za hr1_0
 have HC1_0 := za hc1_0
 clear hr1_0 hc1_0
 have HB := za (Below.refl w.heap.size w)
 have H : ((awardingbodyref06_ValidPaper.f k a0_0 a0_1 l0_2).bind fun t474 => (if t474 = true then (if (l1_0.length : Int) < 1 then (awardingbodyref12_Valid.j0 k true a0_0 a0_1 l0_2 l1_0) else (if (l1_0.length : Int) > 12 then (awardingbodyref12_Valid.j0 k true a0_0 a0_1 l0_2 l1_0) else (if ((l1_0.length : Int) % 4) = 0 then (if 0 < (l1_0.length : Int) then (awardingbodyref12_Valid.j0 k (decide (((rd_L2 l1_0 0).length : Int) > 0)) a0_0 a0_1 l0_2 l1_0) else (none)) else (awardingbodyref12_Valid.j0 k true a0_0 a0_1 l0_2 l1_0)))) else (awardingbodyref12_Valid.j0 k true a0_0 a0_1 l0_2 l1_0))) = some r := h
 clear h
 have HC3 := za H
 clear H
 go_enter Try.func24, Try.ntmps24
 go_upto_region 1 with (first | ((with_reducible refine gate_dst (N := 2) rfl ?_); (try (refine gate_guard (by rfl) ?_; dsimp only)); refine zE 2 #[.int .i64 a0_0, .int .i64 a0_1, .slice A0_2 l0_2.length c0_2] 33 ?_; intro gb472 hg w4 hbox hb; have BK472 := za (hbox); have GW472 := zg HB hg; have GE472 := zg HB hg; replace HB := zs HB hb; clear hb hbox hg) | ((with_reducible refine gate_dst (N := 3) rfl ?_); (try (refine gate_guard (by rfl) ?_; dsimp only)); refine zE 3 #[.slice A1_0 l1_0.length c1_0] 38 ?_; intro gb473 hg w5 hbox hb; have BK473 := za (hbox); have GW473 := zg HB hg; have GE473 := zg HB hg; have NB472_473 := zl BK472 hg; have NB473_472 := zr BK472 hg; replace BK472 := zb BK472 hb; replace HB := zs HB hb; clear hb hbox hg))
 (try simp only [Act.put, List.setIfInBounds_toArray, List.set_cons_zero, List.set_cons_succ])
 go_cut [38] (fun v38 wc => ∃ (kq : Nat) (x38_2 : Bool), v38 = .bool x38_2 ∧ Aside0 (awardingbodyref12_Valid.j0 kq x38_2 a0_0 a0_1 l0_2 l1_0 = some r) ∧ Aside0 (kq ≤ k) ∧ Aside0 (wc.heap[gb472]? = some (.cells #[.int .i64 a0_0, .int .i64 a0_1, (.slice A0_2 l0_2.length c0_2)] 33 (0, 0))) ∧ Aside0 (wc.heap[gb473]? = some (.cells #[(.slice A1_0 l1_0.length c1_0)] 38 (0, 0))) ∧ Aside0 (Below w.heap.size w wc))
 case first =>
  have H := HC3.out
  clear HC3
  replace H := Option.bind_eq_some_iff.mp H
  obtain ⟨t474, A60, H⟩ := H
  replace H : (if t474 = true then (if (l1_0.length : Int) < 1 then (awardingbodyref12_Valid.j0 k true a0_0 a0_1 l0_2 l1_0) else (if (l1_0.length : Int) > 12 then (awardingbodyref12_Valid.j0 k true a0_0 a0_1 l0_2 l1_0) else (if ((l1_0.length : Int) % 4) = 0 then (if 0 < (l1_0.length : Int) then (awardingbodyref12_Valid.j0 k (decide (((rd_L2 l1_0 0).length : Int) > 0)) a0_0 a0_1 l0_2 l1_0) else (none)) else (awardingbodyref12_Valid.j0 k true a0_0 a0_1 l0_2 l1_0)))) else (awardingbodyref12_Valid.j0 k true a0_0 a0_1 l0_2 l1_0)) = some r := H
  have A6 := za A60
  clear A60
  by_cases c7 : t474 = true
  ·subst c7
   have H1 : (if (l1_0.length : Int) < 1 then (awardingbodyref12_Valid.j0 k true a0_0 a0_1 l0_2 l1_0) else (if (l1_0.length : Int) > 12 then (awardingbodyref12_Valid.j0 k true a0_0 a0_1 l0_2 l1_0) else (if ((l1_0.length : Int) % 4) = 0 then (if 0 < (l1_0.length : Int) then (awardingbodyref12_Valid.j0 k (decide (((rd_L2 l1_0 0).length : Int) > 0)) a0_0 a0_1 l0_2 l1_0) else (none)) else (awardingbodyref12_Valid.j0 k true a0_0 a0_1 l0_2 l1_0)))) = some r := by rw [if_pos rfl] at H; exact H
   clear H
   have H := H1
   clear H1
   by_cases c8 : (l1_0.length : Int) < 1
   ·rw [if_pos c8] at H
    have c8b0 : decide ((l1_0.length : Int) < 1) = true := decide_eq_true c8
    have c8b1 : decide (l1_0.length < 1) = true := decide_eq_true (by omega)
    clear c8
    (first | rw [c8b0] | (simp only [i64_w, i32_w]; rw [c8b0]) | skip)
    have H' := za H
    clear H
    have hnb9 := NB472_473.out
    have hnc9 := NB473_472.out
    obtain ⟨hcz10_0, hcz10_1, hcz10_2, hfz10_0, hfz10_1, hfz10_2⟩ := z3 BK472
    go_wp2_with (first | ((with_reducible refine gate_callee (f := 38) rfl ?_); refine zL (some 10) Try.func38 #[.agg #[.int .i64 a0_0, .int .i64 a0_1, .slice A0_2 l0_2.length c0_2]] ?_; (with_reducible refine (awardingbodyref06_ValidPaper.calls k a0_0 a0_1 _ _ l0_2 true _ ?side1 ?side2 A6.out).mono ?_); (case side1 => exact zC HR0_2 HB); (case side2 => exact HC0_2.out); rintro e w11 ⟨rfl, hb⟩; refine ⟨_, rfl, ?_⟩; replace BK472 := zb BK472 hb; replace BK473 := zb BK473 hb; replace HB := zs HB hb; (try clear hb); (try clear hb2); (try clear hk); (try clear hi); obtain ⟨hcz12_0, hfz12_0⟩ := z1 BK473))
    go_meet
    case rel => exact ⟨_, (true), (by first | rfl | (simp; done) | (simp [*]; done)), H', ⟨by first | omega | exact Nat.le_refl _⟩, ⟨by (with_reducible repeat (first | refine blk_drewN ?_ _ | refine blk_drew ?_ | refine blk_alloc ?_ _)); exact BK472.out⟩, ⟨by (with_reducible repeat (first | refine blk_drewN ?_ _ | refine blk_drew ?_ | refine blk_alloc ?_ _)); exact BK473.out⟩, ⟨zm HB⟩⟩
   ·rw [if_neg c8] at H
    have c8b0 : decide ((l1_0.length : Int) < 1) = false := decide_eq_false c8
    have c8b1 : decide (l1_0.length < 1) = false := decide_eq_false (by omega)
    clear c8
    (first | rw [c8b0] | (simp only [i64_w, i32_w]; rw [c8b0]) | skip)
    by_cases c13 : (l1_0.length : Int) > 12
    ·rw [if_pos c13] at H
     have c13b0 : decide (12 < (l1_0.length : Int)) = true := decide_eq_true c13
     have c13b1 : decide (12 < l1_0.length) = true := decide_eq_true (by omega)
     clear c13
     have H' := za H
     clear H
     have hnb14 := NB472_473.out
     have hnc14 := NB473_472.out
     obtain ⟨hcz15_0, hcz15_1, hcz15_2, hfz15_0, hfz15_1, hfz15_2⟩ := z3 BK472
     go_wp2_with (first | ((with_reducible refine gate_callee (f := 38) rfl ?_); refine zL (some 10) Try.func38 #[.agg #[.int .i64 a0_0, .int .i64 a0_1, .slice A0_2 l0_2.length c0_2]] ?_; (with_reducible refine (awardingbodyref06_ValidPaper.calls k a0_0 a0_1 _ _ l0_2 true _ ?side1 ?side2 A6.out).mono ?_); (case side1 => exact zC HR0_2 HB); (case side2 => exact HC0_2.out); rintro e w16 ⟨rfl, hb⟩; refine ⟨_, rfl, ?_⟩; replace BK472 := zb BK472 hb; replace BK473 := zb BK473 hb; replace HB := zs HB hb; (try clear hb); (try clear hb2); (try clear hk); (try clear hi); obtain ⟨hcz17_0, hfz17_0⟩ := z1 BK473))
     go_meet
     case rel => exact ⟨_, (true), (by first | rfl | (simp; done) | (simp [*]; done)), H', ⟨by first | omega | exact Nat.le_refl _⟩, ⟨by (with_reducible repeat (first | refine blk_drewN ?_ _ | refine blk_drew ?_ | refine blk_alloc ?_ _)); exact BK472.out⟩, ⟨by (with_reducible repeat (first | refine blk_drewN ?_ _ | refine blk_drew ?_ | refine blk_alloc ?_ _)); exact BK473.out⟩, ⟨zm HB⟩⟩
    ·rw [if_neg c13] at H
     have c13b0 : decide (12 < (l1_0.length : Int)) = false := decide_eq_false c13
     have c13b1 : decide (12 < l1_0.length) = false := decide_eq_false (by omega)
     clear c13
     by_cases c18 : ((l1_0.length : Int) % 4) = 0
     ·rw [if_pos c18] at H
      have c18b0 : (((l1_0.length : Int) % 4) == 0) = true := beq_iff_eq.mpr c18
      have c18b1 : (((l1_0.length : Int) % 4) != 0) = false := bne_eq_false_iff_eq.mpr c18
      clear c18
      by_cases c19 : 0 < (l1_0.length : Int)
      ·rw [if_pos c19] at H
       have c19b0 : decide (0 < (l1_0.length : Int)) = true := decide_eq_true c19
       have c19b1 : decide (0 < l1_0.length) = true := decide_eq_true (by omega)
       clear c19
       have H' := za H
       clear H
       have hnb20 := NB472_473.out
       have hnc20 := NB473_472.out
       obtain ⟨hcz21_0, hcz21_1, hcz21_2, hfz21_0, hfz21_1, hfz21_2⟩ := z3 BK472
       go_wp2_with (first | ((with_reducible refine gate_callee (f := 38) rfl ?_); refine zL (some 10) Try.func38 #[.agg #[.int .i64 a0_0, .int .i64 a0_1, .slice A0_2 l0_2.length c0_2]] ?_; (with_reducible refine (awardingbodyref06_ValidPaper.calls k a0_0 a0_1 _ _ l0_2 true _ ?side1 ?side2 A6.out).mono ?_); (case side1 => exact zC HR0_2 HB); (case side2 => exact HC0_2.out); rintro e w22 ⟨rfl, hb⟩; refine ⟨_, rfl, ?_⟩; replace BK472 := zb BK472 hb; replace BK473 := zb BK473 hb; replace HB := zs HB hb; (try clear hb); (try clear hb2); (try clear hk); (try clear hi); obtain ⟨hcz23_0, hfz23_0⟩ := z1 BK473; have p475 : 0 ≤ (0 : Int) := (by omega); have q475 : 0 < (l1_0.length : Int) := of_decide_eq_true (by first | (with_reducible assumption) | assumption); obtain ⟨ad475, A475_0, c475_0, e475, hx475_0, hl475_0, hi475_0⟩ := at_L2 HR1_0.out 0 p475 q475; cases e475; have qi475 : (0 < l1_0.length) = True := eq_true (by omega); (try rw [show ((0 : Int)).toNat = 0 from rfl] at hx475_0); (try rw [Addr.add_zero'] at hx475_0); replace hx475_0 := zx HB hx475_0; have HR475_0 := za hi475_0; have HC475_0 := za hl475_0; clear hi475_0 hl475_0; replace p475 := eq_true p475; replace q475 := eq_true q475))
       go_meet
       case rel => exact ⟨_, (decide (((rd_L2 l1_0 0).length : Int) > 0)), (by first | rfl | (simp; done) | (simp [*]; done)), H', ⟨by first | omega | exact Nat.le_refl _⟩, ⟨by (with_reducible repeat (first | refine blk_drewN ?_ _ | refine blk_drew ?_ | refine blk_alloc ?_ _)); exact BK472.out⟩, ⟨by (with_reducible repeat (first | refine blk_drewN ?_ _ | refine blk_drew ?_ | refine blk_alloc ?_ _)); exact BK473.out⟩, ⟨zm HB⟩⟩
      ·rw [if_neg c19] at H
       exact absurd H (by simp)
     ·rw [if_neg c18] at H
      have c18b0 : (((l1_0.length : Int) % 4) == 0) = false := beq_eq_false_iff_ne.mpr c18
      have c18b1 : (((l1_0.length : Int) % 4) != 0) = true := bne_iff_ne.mpr c18
      have H' := za H
      clear H
      have hnb24 := NB472_473.out
      have hnc24 := NB473_472.out
      obtain ⟨hcz25_0, hcz25_1, hcz25_2, hfz25_0, hfz25_1, hfz25_2⟩ := z3 BK472
      go_wp2_with (first | ((with_reducible refine gate_callee (f := 38) rfl ?_); refine zL (some 10) Try.func38 #[.agg #[.int .i64 a0_0, .int .i64 a0_1, .slice A0_2 l0_2.length c0_2]] ?_; (with_reducible refine (awardingbodyref06_ValidPaper.calls k a0_0 a0_1 _ _ l0_2 true _ ?side1 ?side2 A6.out).mono ?_); (case side1 => exact zC HR0_2 HB); (case side2 => exact HC0_2.out); rintro e w26 ⟨rfl, hb⟩; refine ⟨_, rfl, ?_⟩; replace BK472 := zb BK472 hb; replace BK473 := zb BK473 hb; replace HB := zs HB hb; (try clear hb); (try clear hb2); (try clear hk); (try clear hi); obtain ⟨hcz27_0, hfz27_0⟩ := z1 BK473))
      go_meet
      case rel => exact ⟨_, (true), (by first | rfl | (simp; done) | (simp [*]; done)), H', ⟨by first | omega | exact Nat.le_refl _⟩, ⟨by (with_reducible repeat (first | refine blk_drewN ?_ _ | refine blk_drew ?_ | refine blk_alloc ?_ _)); exact BK472.out⟩, ⟨by (with_reducible repeat (first | refine blk_drewN ?_ _ | refine blk_drew ?_ | refine blk_alloc ?_ _)); exact BK473.out⟩, ⟨zm HB⟩⟩
  ·replace c7 := Bool.eq_false_iff.mpr c7
   subst c7
   have H1 : (awardingbodyref12_Valid.j0 k true a0_0 a0_1 l0_2 l1_0) = some r := by rw [if_neg (show ¬ (false = true) by decide)] at H; exact H
   clear H
   have H := H1
   clear H1
   have H' := za H
   clear H
   have hnb28 := NB472_473.out
   have hnc28 := NB473_472.out
   obtain ⟨hcz29_0, hcz29_1, hcz29_2, hfz29_0, hfz29_1, hfz29_2⟩ := z3 BK472
   go_wp2_with (first | ((with_reducible refine gate_callee (f := 38) rfl ?_); refine zL (some 10) Try.func38 #[.agg #[.int .i64 a0_0, .int .i64 a0_1, .slice A0_2 l0_2.length c0_2]] ?_; (with_reducible refine (awardingbodyref06_ValidPaper.calls k a0_0 a0_1 _ _ l0_2 false _ ?side1 ?side2 A6.out).mono ?_); (case side1 => exact zC HR0_2 HB); (case side2 => exact HC0_2.out); rintro e w30 ⟨rfl, hb⟩; refine ⟨_, rfl, ?_⟩; replace BK472 := zb BK472 hb; replace BK473 := zb BK473 hb; replace HB := zs HB hb; (try clear hb); (try clear hb2); (try clear hk); (try clear hi)))
   go_meet
   case rel => exact ⟨_, (true), (by first | rfl | (simp; done) | (simp [*]; done)), H', ⟨by first | omega | exact Nat.le_refl _⟩, ⟨by (with_reducible repeat (first | refine blk_drewN ?_ _ | refine blk_drew ?_ | refine blk_alloc ?_ _)); exact BK472.out⟩, ⟨by (with_reducible repeat (first | refine blk_drewN ?_ _ | refine blk_drew ?_ | refine blk_alloc ?_ _)); exact BK473.out⟩, ⟨zm HB⟩⟩
 case rest =>
  clear HC3
  try clear c1
  try clear c2
  try clear p2
  try clear c3
  try clear c4
  try clear p4
  try clear q4
  try clear hx4
  try clear qi4
  try clear c7
  try clear c8
  try clear c8b0
  try clear c8b1
  try clear c9
  try clear c13
  try clear c13b0
  try clear c13b1
  try clear c14
  try clear c18
  try clear c18b0
  try clear c18b1
  try clear c19
  try clear c19b0
  try clear c19b1
  try clear c20
  try clear c24
  try clear c28
  try clear hcz10_0
  try clear hcz10_1
  try clear hcz10_2
  try clear hcz12_0
  try clear hcz15_0
  try clear hcz15_1
  try clear hcz15_2
  try clear hcz17_0
  try clear hcz21_0
  try clear hcz21_1
  try clear hcz21_2
  try clear hcz23_0
  try clear hcz25_0
  try clear hcz25_1
  try clear hcz25_2
  try clear hcz27_0
  try clear hcz29_0
  try clear hcz29_1
  try clear hcz29_2
  try clear hfz10_0
  try clear hfz10_1
  try clear hfz10_2
  try clear hfz12_0
  try clear hfz15_0
  try clear hfz15_1
  try clear hfz15_2
  try clear hfz17_0
  try clear hfz21_0
  try clear hfz21_1
  try clear hfz21_2
  try clear hfz23_0
  try clear hfz25_0
  try clear hfz25_1
  try clear hfz25_2
  try clear hfz27_0
  try clear hfz29_0
  try clear hfz29_1
  try clear hfz29_2
  try clear hx475_0
  try clear p475
  try clear q475
  obtain ⟨kq, x38_2, rfl, HA, HJ2, BK472, BK473, HB⟩ := hcut
  cases kq with
  | zero => exact absurd HA.out (by simp [awardingbodyref12_Valid.j0])
  | succ kj2 =>
   have H := HA.out
   clear HA
   simp only [awardingbodyref12_Valid.j0] at H
   by_cases c31 : x38_2 = true
   ·subst c31
    have H1 : (some false) = some r := by rw [if_pos rfl] at H; exact H
    clear H
    have H := H1
    clear H1
    obtain rfl := Option.some.inj H
    go_wp2
    go_ret
    exact ⟨zf, zm HB⟩
   ·replace c31 := Bool.eq_false_iff.mpr c31
    subst c31
    have H1 : (awardingbodyref12_Valid.l0 kj2 0 0 a0_0 a0_1 l0_2 l1_0) = some r := by rw [if_neg (show ¬ (false = true) by decide)] at H; exact H
    clear H
    have H := H1
    clear H1
    have H' := za H
    clear H
    go_wp2
    go_loopg [5, 6] kj2 (fun kq v5 v6 w' => ∃ (x5_2 : Int) (x6_2 : Int), v5 = .int .i64 x5_2 ∧ v6 = .int .i64 x6_2 ∧ Aside0 (awardingbodyref12_Valid.l0 kq x5_2 x6_2 a0_0 a0_1 l0_2 l1_0 = some r) ∧ Aside0 (kq ≤ kj2) ∧ Aside0 (w'.heap[gb472]? = some (.cells #[.int .i64 a0_0, .int .i64 a0_1, (.slice A0_2 l0_2.length c0_2)] 33 (0, 0))) ∧ Aside0 (w'.heap[gb473]? = some (.cells #[(.slice A1_0 l1_0.length c1_0)] 38 (0, 0))) ∧ Aside0 (Below w.heap.size w w'))
    case atStart => exact ⟨(0), (0), (by first | rfl | (simp; done) | (simp [*]; done)), (by first | rfl | (simp; done) | (simp [*]; done)), H', ⟨Nat.le_refl _⟩, ⟨by (with_reducible repeat (first | refine blk_drewN ?_ _ | refine blk_drew ?_ | refine blk_alloc ?_ _)); exact BK472.out⟩, ⟨by (with_reducible repeat (first | refine blk_drewN ?_ _ | refine blk_drew ?_ | refine blk_alloc ?_ _)); exact BK473.out⟩, ⟨zm HB⟩⟩
    case round =>
     clear H'
     try clear c1
     try clear c2
     try clear p2
     try clear c3
     try clear c4
     try clear p4
     try clear q4
     try clear hx4
     try clear qi4
     try clear c7
     try clear c8
     try clear c8b0
     try clear c8b1
     try clear c9
     try clear c13
     try clear c13b0
     try clear c13b1
     try clear c14
     try clear c18
     try clear c18b0
     try clear c18b1
     try clear c19
     try clear c19b0
     try clear c19b1
     try clear c20
     try clear c24
     try clear c28
     try clear c31
     try clear hcz10_0
     try clear hcz10_1
     try clear hcz10_2
     try clear hcz12_0
     try clear hcz15_0
     try clear hcz15_1
     try clear hcz15_2
     try clear hcz17_0
     try clear hcz21_0
     try clear hcz21_1
     try clear hcz21_2
     try clear hcz23_0
     try clear hcz25_0
     try clear hcz25_1
     try clear hcz25_2
     try clear hcz27_0
     try clear hcz29_0
     try clear hcz29_1
     try clear hcz29_2
     try clear hfz10_0
     try clear hfz10_1
     try clear hfz10_2
     try clear hfz12_0
     try clear hfz15_0
     try clear hfz15_1
     try clear hfz15_2
     try clear hfz17_0
     try clear hfz21_0
     try clear hfz21_1
     try clear hfz21_2
     try clear hfz23_0
     try clear hfz25_0
     try clear hfz25_1
     try clear hfz25_2
     try clear hfz27_0
     try clear hfz29_0
     try clear hfz29_1
     try clear hfz29_2
     try clear hx475_0
     try clear p2
     try clear p4
     try clear p475
     try clear q4
     try clear q475
     obtain ⟨x5_2, x6_2, rfl, rfl, HA, HK2, BK472, BK473, HB⟩ := hrel
     cases gk with
     | zero => exact absurd HA.out (by simp [awardingbodyref12_Valid.l0])
     | succ k2 =>
      have H := HA.out
      clear HA
      simp only [awardingbodyref12_Valid.l0] at H
      by_cases c32 : x6_2 < (l1_0.length : Int)
      ·rw [if_pos c32] at H
       have c32b0 : decide (x6_2 < (l1_0.length : Int)) = true := decide_eq_true c32
       clear c32
       have H' := za H
       clear H
       have hnb33 := NB473_472.out
       have hnc33 := NB472_473.out
       obtain ⟨hcz34_0, hfz34_0⟩ := z1 BK473
       go_wp2
       go_loopg [5, 7, 8] k2 (fun kq v5 v7 v8 w' => ∃ (x5_3 : Int) (x7_3 : Int) (x8_3 : Int), v5 = .int .i64 x5_3 ∧ v7 = .int .i64 x7_3 ∧ v8 = .int .i64 x8_3 ∧ Aside0 (awardingbodyref12_Valid.l1 kq x5_3 x6_2 x7_3 x8_3 a0_0 a0_1 l0_2 l1_0 = some r) ∧ Aside0 (kq ≤ k2) ∧ Aside0 (w'.heap[gb472]? = some (.cells #[.int .i64 a0_0, .int .i64 a0_1, (.slice A0_2 l0_2.length c0_2)] 33 (0, 0))) ∧ Aside0 (w'.heap[gb473]? = some (.cells #[(.slice A1_0 l1_0.length c1_0)] 38 (0, 0))) ∧ Aside0 (Below w.heap.size w w'))
       case atStart => exact ⟨(x5_2), (0), (0), (by first | rfl | (simp; done) | (simp [*]; done)), (by first | rfl | (simp; done) | (simp [*]; done)), (by first | rfl | (simp; done) | (simp [*]; done)), H', ⟨Nat.le_refl _⟩, ⟨by (with_reducible repeat (first | refine blk_drewN ?_ _ | refine blk_drew ?_ | refine blk_alloc ?_ _)); exact BK472.out⟩, ⟨by (with_reducible repeat (first | refine blk_drewN ?_ _ | refine blk_drew ?_ | refine blk_alloc ?_ _)); exact BK473.out⟩, ⟨zm HB⟩⟩
       case round =>
        clear H'
        try clear c1
        try clear c2
        try clear p2
        try clear c3
        try clear c4
        try clear p4
        try clear q4
        try clear hx4
        try clear qi4
        try clear c7
        try clear c8
        try clear c8b0
        try clear c8b1
        try clear c9
        try clear c13
        try clear c13b0
        try clear c13b1
        try clear c14
        try clear c18
        try clear c18b0
        try clear c18b1
        try clear c19
        try clear c19b0
        try clear c19b1
        try clear c20
        try clear c24
        try clear c28
        try clear c31
        try clear c32
        try clear c32b0
        try clear c33
        try clear hcz10_0
        try clear hcz10_1
        try clear hcz10_2
        try clear hcz12_0
        try clear hcz15_0
        try clear hcz15_1
        try clear hcz15_2
        try clear hcz17_0
        try clear hcz21_0
        try clear hcz21_1
        try clear hcz21_2
        try clear hcz23_0
        try clear hcz25_0
        try clear hcz25_1
        try clear hcz25_2
        try clear hcz27_0
        try clear hcz29_0
        try clear hcz29_1
        try clear hcz29_2
        try clear hcz34_0
        try clear hfz10_0
        try clear hfz10_1
        try clear hfz10_2
        try clear hfz12_0
        try clear hfz15_0
        try clear hfz15_1
        try clear hfz15_2
        try clear hfz17_0
        try clear hfz21_0
        try clear hfz21_1
        try clear hfz21_2
        try clear hfz23_0
        try clear hfz25_0
        try clear hfz25_1
        try clear hfz25_2
        try clear hfz27_0
        try clear hfz29_0
        try clear hfz29_1
        try clear hfz29_2
        try clear hfz34_0
        try clear hx475_0
        try clear p2
        try clear p4
        try clear p475
        try clear q4
        try clear q475
        obtain ⟨x5_3, x7_3, x8_3, rfl, rfl, rfl, HA, HK3, BK472, BK473, HB⟩ := hrel
        cases gk with
        | zero => exact absurd HA.out (by simp [awardingbodyref12_Valid.l1])
        | succ k3 =>
         have H := HA.out
         clear HA
         simp only [awardingbodyref12_Valid.l1] at H
         by_cases c35 : 0 ≤ x6_2
         ·rw [if_pos c35] at H
          have c35b0 : decide (0 ≤ x6_2) = true := decide_eq_true c35
          clear c35
          by_cases c36 : x6_2 < (l1_0.length : Int)
          ·rw [if_pos c36] at H
           have c36b0 : decide (x6_2 < (l1_0.length : Int)) = true := decide_eq_true c36
           clear c36
           by_cases c37 : x8_3 < ((rd_L2 l1_0 x6_2).length : Int)
           ·rw [if_pos c37] at H
            have c37b0 : decide (x8_3 < ((rd_L2 l1_0 x6_2).length : Int)) = true := decide_eq_true c37
            clear c37
            by_cases c38 : x5_3 ≥ (l0_2.length : Int)
            ·rw [if_pos c38] at H
             have c38b0 : decide ((l0_2.length : Int) ≤ x5_3) = true := decide_eq_true c38
             clear c38
             obtain rfl := Option.some.inj H
             have hnb39 := NB473_472.out
             have hnc39 := NB472_473.out
             obtain ⟨hcz40_0, hfz40_0⟩ := z1 BK473
             have p476 : 0 ≤ (x6_2 : Int) := of_decide_eq_true (by first | (with_reducible assumption) | assumption)
             have q476 : x6_2 < (l1_0.length : Int) := of_decide_eq_true (by first | (with_reducible assumption) | assumption)
             obtain ⟨ad476, A476_0, c476_0, e476, hx476_0, hl476_0, hi476_0⟩ := at_L2 HR1_0.out x6_2 p476 q476
             cases e476
             replace hx476_0 := zx HB hx476_0
             have HR476_0 := za hi476_0
             have HC476_0 := za hl476_0
             clear hi476_0 hl476_0
             replace p476 := eq_true p476
             replace q476 := eq_true q476
             obtain ⟨hcz41_0, hcz41_1, hcz41_2, hfz41_0, hfz41_1, hfz41_2⟩ := z3 BK472
             go_wp2
             go_ret
             exact ⟨zf, zm HB⟩
            ·rw [if_neg c38] at H
             have c38b0 : decide ((l0_2.length : Int) ≤ x5_3) = false := decide_eq_false c38
             clear c38
             by_cases c42 : 0 ≤ x8_3
             ·rw [if_pos c42] at H
              have c42b0 : decide (0 ≤ x8_3) = true := decide_eq_true c42
              clear c42
              by_cases c43 : (rd (rd_L2 l1_0 x6_2) x8_3) = x5_3
              ·rw [if_pos c43] at H
               have c43b0 : ((rd (rd_L2 l1_0 x6_2) x8_3) == x5_3) = true := beq_iff_eq.mpr c43
               have c43b1 : ((rd (rd_L2 l1_0 x6_2) x8_3) != x5_3) = false := bne_eq_false_iff_eq.mpr c43
               clear c43
               by_cases c44 : 0 ≤ x5_3
               ·rw [if_pos c44] at H
                have c44b0 : decide (0 ≤ x5_3) = true := decide_eq_true c44
                clear c44
                by_cases c45 : x5_3 < (l0_2.length : Int)
                ·rw [if_pos c45] at H
                 have c45b0 : decide (x5_3 < (l0_2.length : Int)) = true := decide_eq_true c45
                 clear c45
                 replace H := Option.bind_eq_some_iff.mp H
                 obtain ⟨t480, A460, H⟩ := H
                 replace H : (awardingbodyref12_Valid.l1 k3 (wrap64 (x5_3 + 1)) x6_2 (wrap64 (x7_3 + t480)) (wrap64 (x8_3 + 1)) a0_0 a0_1 l0_2 l1_0) = some r := H
                 have A46 := za A460
                 clear A460
                 have H' := za H
                 clear H
                 have hnb47 := NB473_472.out
                 have hnc47 := NB472_473.out
                 obtain ⟨hcz48_0, hfz48_0⟩ := z1 BK473
                 have p476 : 0 ≤ (x6_2 : Int) := of_decide_eq_true (by first | (with_reducible assumption) | assumption)
                 have q476 : x6_2 < (l1_0.length : Int) := of_decide_eq_true (by first | (with_reducible assumption) | assumption)
                 obtain ⟨ad476, A476_0, c476_0, e476, hx476_0, hl476_0, hi476_0⟩ := at_L2 HR1_0.out x6_2 p476 q476
                 cases e476
                 replace hx476_0 := zx HB hx476_0
                 have HR476_0 := za hi476_0
                 have HC476_0 := za hl476_0
                 clear hi476_0 hl476_0
                 replace p476 := eq_true p476
                 replace q476 := eq_true q476
                 obtain ⟨hcz49_0, hcz49_1, hcz49_2, hfz49_0, hfz49_1, hfz49_2⟩ := z3 BK472
                 have p477 : 0 ≤ (x6_2 : Int) := of_decide_eq_true (by first | (with_reducible assumption) | assumption)
                 have q477 : x6_2 < (l1_0.length : Int) := of_decide_eq_true (by first | (with_reducible assumption) | assumption)
                 obtain ⟨ad477, A477_0, c477_0, e477, hx477_0, hl477_0, hi477_0⟩ := at_L2 HR1_0.out x6_2 p477 q477
                 obtain rfl : ad476 = ad477 := (by injection e477)
                 replace hx477_0 := zx HB hx477_0
                 have HR477_0 := za hi477_0
                 have HC477_0 := za hl477_0
                 clear hi477_0 hl477_0
                 replace p477 := eq_true p477
                 replace q477 := eq_true q477
                 have ea_ := Option.some.inj (hx476_0.symm.trans hx477_0)
                 injection ea_ with ea_ en_ ec_
                 subst ea_
                 subst ec_
                 clear en_
                 have p478 : 0 ≤ (x8_3 : Int) := of_decide_eq_true (by first | (with_reducible assumption) | assumption)
                 have q478 : x8_3 < ((rd_L2 l1_0 x6_2).length : Int) := of_decide_eq_true (by first | (with_reducible assumption) | assumption)
                 obtain ⟨ad478, e478, hx478_0⟩ := Kd.at_int HR477_0.out x8_3 p478 q478
                 cases e478
                 replace hx478_0 := zx HB hx478_0
                 replace p478 := eq_true p478
                 replace q478 := eq_true q478
                 have p479 : 0 ≤ (x5_3 : Int) := of_decide_eq_true (by first | (with_reducible assumption) | assumption)
                 have q479 : x5_3 < (l0_2.length : Int) := of_decide_eq_true (by first | (with_reducible assumption) | assumption)
                 obtain ⟨ad479, e479, hx479_0, hx479_1, hx479_2, hx479_3, hx479_4, hx479_5⟩ := at_T23 HR0_2.out x5_3 p479 q479
                 cases e479
                 replace hx479_0 := zx HB hx479_0
                 replace hx479_1 := zx HB hx479_1
                 replace hx479_2 := zx HB hx479_2
                 replace hx479_3 := zx HB hx479_3
                 replace hx479_4 := zx HB hx479_4
                 replace hx479_5 := zx HB hx479_5
                 replace p479 := eq_true p479
                 replace q479 := eq_true q479
                 go_wp2_with (first | ((with_reducible refine gate_callee (f := 13) rfl ?_); refine zL (some 79) Try.func13 #[.agg #[.int .i64 ((rd_T23 l0_2 x5_3).f0), .int .i64 ((rd_T23 l0_2 x5_3).f1), .int .i64 ((rd_T23 l0_2 x5_3).f2), .int .i64 ((rd_T23 l0_2 x5_3).f3), .int .i64 ((rd_T23 l0_2 x5_3).f4), .int .i64 ((rd_T23 l0_2 x5_3).f5)]] ?_; (with_reducible refine (awardingbodyref12_Need.calls k3 ((rd_T23 l0_2 x5_3).f0) ((rd_T23 l0_2 x5_3).f1) ((rd_T23 l0_2 x5_3).f2) ((rd_T23 l0_2 x5_3).f3) ((rd_T23 l0_2 x5_3).f4) ((rd_T23 l0_2 x5_3).f5) t480 _ A46.out).mono ?_); rintro e w50 ⟨rfl, hb⟩; refine ⟨_, rfl, ?_⟩; replace BK472 := zb BK472 hb; replace BK473 := zb BK473 hb; replace HB := zs HB hb; (try clear hb); (try clear hb2); (try clear hk); (try clear hi)))
                 go_roundg k3
                 case measure => have := HJ2.out; have := HK2.out; have := HK3.out; omega
                 case rel => exact ⟨(wrap64 (x5_3 + 1)), (wrap64 (x7_3 + t480)), (wrap64 (x8_3 + 1)), (by first | rfl | (simp; done) | (simp [*]; done)), (by first | rfl | (simp; done) | (simp [*]; done)), (by first | rfl | (simp; done) | (simp [*]; done)), H', ⟨by have := HJ2.out; have := HK2.out; have := HK3.out; omega⟩, ⟨by (with_reducible repeat (first | refine blk_drewN ?_ _ | refine blk_drew ?_ | refine blk_alloc ?_ _)); exact BK472.out⟩, ⟨by (with_reducible repeat (first | refine blk_drewN ?_ _ | refine blk_drew ?_ | refine blk_alloc ?_ _)); exact BK473.out⟩, ⟨zm HB⟩⟩
                ·rw [if_neg c45] at H
                 exact absurd H (by simp)
               ·rw [if_neg c44] at H
                exact absurd H (by simp)
              ·rw [if_neg c43] at H
               have c43b0 : ((rd (rd_L2 l1_0 x6_2) x8_3) == x5_3) = false := beq_eq_false_iff_ne.mpr c43
               have c43b1 : ((rd (rd_L2 l1_0 x6_2) x8_3) != x5_3) = true := bne_iff_ne.mpr c43
               obtain rfl := Option.some.inj H
               have hnb51 := NB473_472.out
               have hnc51 := NB472_473.out
               obtain ⟨hcz52_0, hfz52_0⟩ := z1 BK473
               have p476 : 0 ≤ (x6_2 : Int) := of_decide_eq_true (by first | (with_reducible assumption) | assumption)
               have q476 : x6_2 < (l1_0.length : Int) := of_decide_eq_true (by first | (with_reducible assumption) | assumption)
               obtain ⟨ad476, A476_0, c476_0, e476, hx476_0, hl476_0, hi476_0⟩ := at_L2 HR1_0.out x6_2 p476 q476
               cases e476
               replace hx476_0 := zx HB hx476_0
               have HR476_0 := za hi476_0
               have HC476_0 := za hl476_0
               clear hi476_0 hl476_0
               replace p476 := eq_true p476
               replace q476 := eq_true q476
               obtain ⟨hcz53_0, hcz53_1, hcz53_2, hfz53_0, hfz53_1, hfz53_2⟩ := z3 BK472
               have p477 : 0 ≤ (x6_2 : Int) := of_decide_eq_true (by first | (with_reducible assumption) | assumption)
               have q477 : x6_2 < (l1_0.length : Int) := of_decide_eq_true (by first | (with_reducible assumption) | assumption)
               obtain ⟨ad477, A477_0, c477_0, e477, hx477_0, hl477_0, hi477_0⟩ := at_L2 HR1_0.out x6_2 p477 q477
               obtain rfl : ad476 = ad477 := (by injection e477)
               replace hx477_0 := zx HB hx477_0
               have HR477_0 := za hi477_0
               have HC477_0 := za hl477_0
               clear hi477_0 hl477_0
               replace p477 := eq_true p477
               replace q477 := eq_true q477
               have ea_ := Option.some.inj (hx476_0.symm.trans hx477_0)
               injection ea_ with ea_ en_ ec_
               subst ea_
               subst ec_
               clear en_
               have p478 : 0 ≤ (x8_3 : Int) := of_decide_eq_true (by first | (with_reducible assumption) | assumption)
               have q478 : x8_3 < ((rd_L2 l1_0 x6_2).length : Int) := of_decide_eq_true (by first | (with_reducible assumption) | assumption)
               obtain ⟨ad478, e478, hx478_0⟩ := Kd.at_int HR477_0.out x8_3 p478 q478
               cases e478
               replace hx478_0 := zx HB hx478_0
               replace p478 := eq_true p478
               replace q478 := eq_true q478
               go_wp2
               go_ret
               exact ⟨zf, zm HB⟩
             ·rw [if_neg c42] at H
              exact absurd H (by simp)
           ·rw [if_neg c37] at H
            have c37b0 : decide (x8_3 < ((rd_L2 l1_0 x6_2).length : Int)) = false := decide_eq_false c37
            clear c37
            by_cases c54 : x7_3 > 30
            ·rw [if_pos c54] at H
             have c54b0 : decide (30 < x7_3) = true := decide_eq_true c54
             clear c54
             obtain rfl := Option.some.inj H
             have hnb55 := NB473_472.out
             have hnc55 := NB472_473.out
             obtain ⟨hcz56_0, hfz56_0⟩ := z1 BK473
             have p476 : 0 ≤ (x6_2 : Int) := of_decide_eq_true (by first | (with_reducible assumption) | assumption)
             have q476 : x6_2 < (l1_0.length : Int) := of_decide_eq_true (by first | (with_reducible assumption) | assumption)
             obtain ⟨ad476, A476_0, c476_0, e476, hx476_0, hl476_0, hi476_0⟩ := at_L2 HR1_0.out x6_2 p476 q476
             cases e476
             replace hx476_0 := zx HB hx476_0
             have HR476_0 := za hi476_0
             have HC476_0 := za hl476_0
             clear hi476_0 hl476_0
             replace p476 := eq_true p476
             replace q476 := eq_true q476
             go_wp2
             go_ret
             exact ⟨zf, zm HB⟩
            ·rw [if_neg c54] at H
             have c54b0 : decide (30 < x7_3) = false := decide_eq_false c54
             clear c54
             have H' := za H
             clear H
             have hnb57 := NB473_472.out
             have hnc57 := NB472_473.out
             obtain ⟨hcz58_0, hfz58_0⟩ := z1 BK473
             have p476 : 0 ≤ (x6_2 : Int) := of_decide_eq_true (by first | (with_reducible assumption) | assumption)
             have q476 : x6_2 < (l1_0.length : Int) := of_decide_eq_true (by first | (with_reducible assumption) | assumption)
             obtain ⟨ad476, A476_0, c476_0, e476, hx476_0, hl476_0, hi476_0⟩ := at_L2 HR1_0.out x6_2 p476 q476
             cases e476
             replace hx476_0 := zx HB hx476_0
             have HR476_0 := za hi476_0
             have HC476_0 := za hl476_0
             clear hi476_0 hl476_0
             replace p476 := eq_true p476
             replace q476 := eq_true q476
             go_wp2
             go_roundg k3
             case measure => have := HJ2.out; have := HK2.out; have := HK3.out; omega
             case rel => exact ⟨(x5_3), (wrap64 (x6_2 + 1)), (by first | rfl | (simp; done) | (simp [*]; done)), (by first | rfl | (simp; done) | (simp [*]; done)), H', ⟨by have := HJ2.out; have := HK2.out; have := HK3.out; omega⟩, ⟨by (with_reducible repeat (first | refine blk_drewN ?_ _ | refine blk_drew ?_ | refine blk_alloc ?_ _)); exact BK472.out⟩, ⟨by (with_reducible repeat (first | refine blk_drewN ?_ _ | refine blk_drew ?_ | refine blk_alloc ?_ _)); exact BK473.out⟩, ⟨zm HB⟩⟩
          ·rw [if_neg c36] at H
           exact absurd H (by simp)
         ·rw [if_neg c35] at H
          exact absurd H (by simp)
      ·rw [if_neg c32] at H
       have c32b0 : decide (x6_2 < (l1_0.length : Int)) = false := decide_eq_false c32
       clear c32
       obtain rfl := Option.some.inj H
       have hnb59 := NB473_472.out
       have hnc59 := NB472_473.out
       obtain ⟨hcz60_0, hfz60_0⟩ := z1 BK473
       obtain ⟨hcz61_0, hcz61_1, hcz61_2, hfz61_0, hfz61_1, hfz61_2⟩ := z3 BK472
       go_wp2
       go_ret
       exact ⟨zf, zm HB⟩

end Go.Proofs.Ytdmlbgdefapcjaa.Print
