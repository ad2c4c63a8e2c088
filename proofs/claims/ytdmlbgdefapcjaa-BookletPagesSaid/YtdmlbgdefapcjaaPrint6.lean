-- Printed by a program of this session (wip/own_print.py) out of the translation; Lean checks it.
import Derived.Test.YtdmlbgdefapcjaaShort
import Derived.Test.YtdmlbgdefapcjaaPrint0
import Derived.Test.YtdmlbgdefapcjaaPrint2
import Derived.Test.YtdmlbgdefapcjaaPrint4
namespace Go.Proofs.Ytdmlbgdefapcjaa.Print
open Go.RowKit Go.Proofs.YtdmlbgdefapcjaaW.PrintWords Go.Proofs.YtdmlbgdefapcjaaW.PrintLast Go.Proofs.YtdmlbgdefapcjaaW.PrintMore
attribute [local go_sem] max2_int min2_int max_two min_two max_three min_three max_four min_four   -- for this text's walks alone
set_option linter.unusedVariables false
set_option linter.unusedSimpArgs false

/-! ### booklet_Valid: function 23 -/
mutual
def booklet_Valid.j0 : Nat → Bool → Int → Int → List (S23) → List (List Int) → Option (Bool)
  | 0, _, _, _, _, _ => none
  | k + 1, x38, x146000, x146001, x146002, x147000 => if x38 = true then (some false) else (booklet_Valid.l0 k 0 x147000 (x147000.length : Int) 0 x146000 x146001 x146002)
def booklet_Valid.l0 : Nat → Int → List (List Int) → Int → Int → Int → Int → List (S23) → Option (Bool)
  | 0, _, _, _, _, _, _, _ => none
  | k + 1, x6, x40, x41, x42, x146000, x146001, x146002 => if x42 < x41 then (if 0 ≤ x42 then (if x42 < (x40.length : Int) then (booklet_Valid.l1 k x6 30 x40 x41 x42 (rd_L2 x40 x42) ((rd_L2 x40 x42).length : Int) 0 x146000 x146001 x146002) else (none)) else (none)) else (some (x6 == (x146002.length : Int)))
def booklet_Valid.l1 : Nat → Int → Int → List (List Int) → Int → Int → List Int → Int → Int → Int → Int → List (S23) → Option (Bool)
  | 0, _, _, _, _, _, _, _, _, _, _, _ => none
  | k + 1, x6, x9, x40, x41, x42, x46, x47, x48, x146000, x146001, x146002 => if x48 < x47 then (if 0 ≤ x48 then (if x48 < (x46.length : Int) then (if (rd x46 x48) = x6 then (if (rd x46 x48) ≥ (x146002.length : Int) then (some false) else (if 0 ≤ (rd x46 x48) then (if (rd x46 x48) < (x146002.length : Int) then ((booklet_Need.f k ((rd_T23 x146002 (rd x46 x48)).f0) ((rd_T23 x146002 (rd x46 x48)).f1) ((rd_T23 x146002 (rd x46 x48)).f2) ((rd_T23 x146002 (rd x46 x48)).f3) ((rd_T23 x146002 (rd x46 x48)).f4) ((rd_T23 x146002 (rd x46 x48)).f5)).bind fun t152 => (booklet_Valid.l1 k (wrap64 (x6 + 1)) (wrap64 (x9 - t152)) x40 x41 x42 x46 x47 (wrap64 (x48 + 1)) x146000 x146001 x146002)) else (none)) else (none))) else (some false)) else (none)) else (none)) else (if x9 < 0 then (some false) else (booklet_Valid.l0 k x6 x40 x41 (wrap64 (x42 + 1)) x146000 x146001 x146002))
end
def booklet_Valid.f (k : Nat) (a0_0 : Int) (a0_1 : Int) (l0_2 : List (S23)) (l1_0 : List (List Int)) : Option (Bool) := (item_ValidPaper.f k a0_0 a0_1 l0_2).bind fun t147 => (if t147 = true then (if (l1_0.length : Int) = 0 then (booklet_Valid.j0 k true a0_0 a0_1 l0_2 l1_0) else (if (l1_0.length : Int) > 12 then (booklet_Valid.j0 k true a0_0 a0_1 l0_2 l1_0) else (if ((l1_0.length : Int) % 4) = 0 then (if 0 < (l1_0.length : Int) then (booklet_Valid.j0 k (decide (((rd_L2 l1_0 0).length : Int) > 0)) a0_0 a0_1 l0_2 l1_0) else (none)) else (booklet_Valid.j0 k true a0_0 a0_1 l0_2 l1_0)))) else (booklet_Valid.j0 k true a0_0 a0_1 l0_2 l1_0))
theorem booklet_Valid.mono_l : ∀ k, (∀ y0 y1 y2 y3 y4, LeO (booklet_Valid.j0 k y0 y1 y2 y3 y4) (booklet_Valid.j0 (k + 1) y0 y1 y2 y3 y4)) ∧ (∀ y0 y1 y2 y3 y4 y5 y6, LeO (booklet_Valid.l0 k y0 y1 y2 y3 y4 y5 y6) (booklet_Valid.l0 (k + 1) y0 y1 y2 y3 y4 y5 y6)) ∧ (∀ y0 y1 y2 y3 y4 y5 y6 y7 y8 y9 y10, LeO (booklet_Valid.l1 k y0 y1 y2 y3 y4 y5 y6 y7 y8 y9 y10) (booklet_Valid.l1 (k + 1) y0 y1 y2 y3 y4 y5 y6 y7 y8 y9 y10))
  | 0 => ⟨fun _ _ _ _ _ r h => by simp [booklet_Valid.j0] at h, fun _ _ _ _ _ _ _ r h => by simp [booklet_Valid.l0] at h, fun _ _ _ _ _ _ _ _ _ _ _ r h => by simp [booklet_Valid.l1] at h⟩
  | k + 1 => by
    obtain ⟨ih0, ih1, ih2⟩ := booklet_Valid.mono_l k
    refine ⟨?_, ?_, ?_⟩
    · intro y0 y1 y2 y3 y4
      unfold booklet_Valid.j0
      repeat' first
      | (with_reducible exact ih0 _ _ _ _ _)
      | (with_reducible exact ih1 _ _ _ _ _ _ _)
      | (with_reducible exact ih2 _ _ _ _ _ _ _ _ _ _ _)
      | (with_reducible exact booklet_Need.mono _ _ _ _ _ _ _)
      | (with_reducible exact item_ValidPaper.mono _ _ _ _)
      | (with_reducible exact LeO.refl _)
      | (with_reducible exact LeO.none _)
      | (with_reducible refine LeO.ite ?_ ?_)
      | (with_reducible refine LeO.bind ?_ (fun _ => ?_))
      | exact ih0 _ _ _ _ _
      | exact ih1 _ _ _ _ _ _ _
      | exact ih2 _ _ _ _ _ _ _ _ _ _ _
      | exact booklet_Need.mono _ _ _ _ _ _ _
      | exact item_ValidPaper.mono _ _ _ _
      | exact LeO.none _
      | refine LeO.ite ?_ ?_
      | refine LeO.bind ?_ (fun _ => ?_)
    · intro y0 y1 y2 y3 y4 y5 y6
      unfold booklet_Valid.l0
      repeat' first
      | (with_reducible exact ih0 _ _ _ _ _)
      | (with_reducible exact ih1 _ _ _ _ _ _ _)
      | (with_reducible exact ih2 _ _ _ _ _ _ _ _ _ _ _)
      | (with_reducible exact booklet_Need.mono _ _ _ _ _ _ _)
      | (with_reducible exact item_ValidPaper.mono _ _ _ _)
      | (with_reducible exact LeO.refl _)
      | (with_reducible exact LeO.none _)
      | (with_reducible refine LeO.ite ?_ ?_)
      | (with_reducible refine LeO.bind ?_ (fun _ => ?_))
      | exact ih0 _ _ _ _ _
      | exact ih1 _ _ _ _ _ _ _
      | exact ih2 _ _ _ _ _ _ _ _ _ _ _
      | exact booklet_Need.mono _ _ _ _ _ _ _
      | exact item_ValidPaper.mono _ _ _ _
      | exact LeO.none _
      | refine LeO.ite ?_ ?_
      | refine LeO.bind ?_ (fun _ => ?_)
    · intro y0 y1 y2 y3 y4 y5 y6 y7 y8 y9 y10
      unfold booklet_Valid.l1
      repeat' first
      | (with_reducible exact ih0 _ _ _ _ _)
      | (with_reducible exact ih1 _ _ _ _ _ _ _)
      | (with_reducible exact ih2 _ _ _ _ _ _ _ _ _ _ _)
      | (with_reducible exact booklet_Need.mono _ _ _ _ _ _ _)
      | (with_reducible exact item_ValidPaper.mono _ _ _ _)
      | (with_reducible exact LeO.refl _)
      | (with_reducible exact LeO.none _)
      | (with_reducible refine LeO.ite ?_ ?_)
      | (with_reducible refine LeO.bind ?_ (fun _ => ?_))
      | exact ih0 _ _ _ _ _
      | exact ih1 _ _ _ _ _ _ _
      | exact ih2 _ _ _ _ _ _ _ _ _ _ _
      | exact booklet_Need.mono _ _ _ _ _ _ _
      | exact item_ValidPaper.mono _ _ _ _
      | exact LeO.none _
      | refine LeO.ite ?_ ?_
      | refine LeO.bind ?_ (fun _ => ?_)
theorem booklet_Valid.mono : ∀ a0 a1 a2 a3 k, LeO (booklet_Valid.f k a0 a1 a2 a3) (booklet_Valid.f (k + 1) a0 a1 a2 a3) := by
  intro a0 a1 a2 a3 k
  obtain ⟨ih0, ih1, ih2⟩ := booklet_Valid.mono_l k
  unfold booklet_Valid.f
  repeat' first
      | (with_reducible exact ih0 _ _ _ _ _)
      | (with_reducible exact ih1 _ _ _ _ _ _ _)
      | (with_reducible exact ih2 _ _ _ _ _ _ _ _ _ _ _)
      | (with_reducible exact booklet_Need.mono _ _ _ _ _ _ _)
      | (with_reducible exact item_ValidPaper.mono _ _ _ _)
      | (with_reducible exact LeO.refl _)
      | (with_reducible exact LeO.none _)
      | (with_reducible refine LeO.ite ?_ ?_)
      | (with_reducible refine LeO.bind ?_ (fun _ => ?_))
      | exact ih0 _ _ _ _ _
      | exact ih1 _ _ _ _ _ _ _
      | exact ih2 _ _ _ _ _ _ _ _ _ _ _
      | exact booklet_Need.mono _ _ _ _ _ _ _
      | exact item_ValidPaper.mono _ _ _ _
      | exact LeO.none _
      | refine LeO.ite ?_ ?_
      | refine LeO.bind ?_ (fun _ => ?_)
set_option maxHeartbeats 8000000 in
set_option maxRecDepth 100000 in
theorem booklet_Valid.calls (k : Nat) (a0_0 : Int) (a0_1 : Int) (A0_2 : Option Addr) (c0_2 : Nat) (l0_2 : List (S23)) (A1_0 : Option Addr) (c1_0 : Nat) (l1_0 : List (List Int)) (r : Bool) (w : World) (hr0_2 : Kd.C k23 w A0_2 l0_2.length l0_2) (hc0_2 : l0_2.length ≤ c0_2) (hr1_0 : Kd.C (Kd.slice 3 (Kd.int .i64)) w A1_0 l1_0.length l1_0) (hc1_0 : l1_0.length ≤ c1_0) (h : booklet_Valid.f k a0_0 a0_1 l0_2 l1_0 = some r) :
    Calls Try.prog 23 #[.agg #[.int .i64 a0_0, .int .i64 a0_1, .slice A0_2 l0_2.length c0_2], .agg #[.slice A1_0 l1_0.length c1_0]] w fun e w' => e = .returned (.bool r) ∧ Below w.heap.size w w' := by
 have hu33 := Try.underlying33
 have hu38 := Try.underlying38
 have hu23 := Try.underlying23
 have HR0_2 := za hr0_2
 have HC0_2 := za hc0_2
 clear hr0_2 hc0_2
 have HR1_0 := za hr1_0
 have HC1_0 := za hc1_0
 clear hr1_0 hc1_0
 have HB := za (Below.refl w.heap.size w)
 have H : ((item_ValidPaper.f k a0_0 a0_1 l0_2).bind fun t147 => (if t147 = true then (if (l1_0.length : Int) = 0 then (booklet_Valid.j0 k true a0_0 a0_1 l0_2 l1_0) else (if (l1_0.length : Int) > 12 then (booklet_Valid.j0 k true a0_0 a0_1 l0_2 l1_0) else (if ((l1_0.length : Int) % 4) = 0 then (if 0 < (l1_0.length : Int) then (booklet_Valid.j0 k (decide (((rd_L2 l1_0 0).length : Int) > 0)) a0_0 a0_1 l0_2 l1_0) else (none)) else (booklet_Valid.j0 k true a0_0 a0_1 l0_2 l1_0)))) else (booklet_Valid.j0 k true a0_0 a0_1 l0_2 l1_0))) = some r := h
 clear h
 have HC3 := za H
 clear H
 go_enter Try.func23, Try.ntmps23
 go_upto_region 2 with (first | ((with_reducible refine gate_dst (N := 2) rfl ?_); (try (refine gate_guard (by rfl) ?_; dsimp only)); refine zE 2 #[.int .i64 a0_0, .int .i64 a0_1, .slice A0_2 l0_2.length c0_2] 33 ?_; intro gb145 hg w4 hbox hb; have BK145 := za (hbox); have GW145 := zg HB hg; have GE145 := zg HB hg; replace HB := zs HB hb; clear hb hbox hg) | ((with_reducible refine gate_dst (N := 3) rfl ?_); (try (refine gate_guard (by rfl) ?_; dsimp only)); refine zE 3 #[.slice A1_0 l1_0.length c1_0] 38 ?_; intro gb146 hg w5 hbox hb; have BK146 := za (hbox); have GW146 := zg HB hg; have GE146 := zg HB hg; have NB145_146 := zl BK145 hg; have NB146_145 := zr BK145 hg; replace BK145 := zb BK145 hb; replace HB := zs HB hb; clear hb hbox hg; have hnb6 := NB146_145.out; have hnc6 := NB145_146.out; obtain ⟨hcz7_0, hfz7_0⟩ := z1 BK146))
 (try simp only [Act.put, List.setIfInBounds_toArray, List.set_cons_zero, List.set_cons_succ])
 go_cut [38] (fun v38 wc => ∃ (kq : Nat) (x38_2 : Bool), v38 = .bool x38_2 ∧ Aside0 (booklet_Valid.j0 kq x38_2 a0_0 a0_1 l0_2 l1_0 = some r) ∧ Aside0 (kq ≤ k) ∧ Aside0 (wc.heap[gb145]? = some (.cells #[.int .i64 a0_0, .int .i64 a0_1, (.slice A0_2 l0_2.length c0_2)] 33 (0, 0))) ∧ Aside0 (wc.heap[gb146]? = some (.cells #[(.slice A1_0 l1_0.length c1_0)] 38 (0, 0))) ∧ Aside0 (Below w.heap.size w wc))
 case first =>
  have H := HC3.out
  clear HC3
  replace H := Option.bind_eq_some_iff.mp H
  obtain ⟨t147, A80, H⟩ := H
  replace H : (if t147 = true then (if (l1_0.length : Int) = 0 then (booklet_Valid.j0 k true a0_0 a0_1 l0_2 l1_0) else (if (l1_0.length : Int) > 12 then (booklet_Valid.j0 k true a0_0 a0_1 l0_2 l1_0) else (if ((l1_0.length : Int) % 4) = 0 then (if 0 < (l1_0.length : Int) then (booklet_Valid.j0 k (decide (((rd_L2 l1_0 0).length : Int) > 0)) a0_0 a0_1 l0_2 l1_0) else (none)) else (booklet_Valid.j0 k true a0_0 a0_1 l0_2 l1_0)))) else (booklet_Valid.j0 k true a0_0 a0_1 l0_2 l1_0)) = some r := H
  have A8 := za A80
  clear A80
  by_cases c9 : t147 = true
  ·subst c9
   have H1 : (if (l1_0.length : Int) = 0 then (booklet_Valid.j0 k true a0_0 a0_1 l0_2 l1_0) else (if (l1_0.length : Int) > 12 then (booklet_Valid.j0 k true a0_0 a0_1 l0_2 l1_0) else (if ((l1_0.length : Int) % 4) = 0 then (if 0 < (l1_0.length : Int) then (booklet_Valid.j0 k (decide (((rd_L2 l1_0 0).length : Int) > 0)) a0_0 a0_1 l0_2 l1_0) else (none)) else (booklet_Valid.j0 k true a0_0 a0_1 l0_2 l1_0)))) = some r := by rw [if_pos rfl] at H; exact H
   clear H
   have H := H1
   clear H1
   by_cases c10 : (l1_0.length : Int) = 0
   ·rw [if_pos c10] at H
    have c10b0 : ((l1_0.length : Int) == 0) = true := beq_iff_eq.mpr c10
    have c10b1 : ((l1_0.length : Int) != 0) = false := bne_eq_false_iff_eq.mpr c10
    clear c10
    (first | rw [c10b0] | (simp only [i64_w, i32_w]; rw [c10b0]) | skip)
    have H' := za H
    clear H
    have hnb11 := NB145_146.out
    have hnc11 := NB146_145.out
    obtain ⟨hcz12_0, hcz12_1, hcz12_2, hfz12_0, hfz12_1, hfz12_2⟩ := z3 BK145
    go_wp2_with (first | ((with_reducible refine gate_callee (f := 39) rfl ?_); refine zL (some 16) Try.func39 #[.agg #[.int .i64 a0_0, .int .i64 a0_1, .slice A0_2 l0_2.length c0_2]] ?_; (with_reducible refine (item_ValidPaper.calls k a0_0 a0_1 _ _ l0_2 true _ ?side1 ?side2 A8.out).mono ?_); (case side1 => exact zC HR0_2 HB); (case side2 => exact HC0_2.out); rintro e w13 ⟨rfl, hb⟩; refine ⟨_, rfl, ?_⟩; replace BK145 := zb BK145 hb; replace BK146 := zb BK146 hb; replace HB := zs HB hb; (try clear hb); (try clear hb2); (try clear hk); (try clear hi)))
    go_meet
    case rel => exact ⟨_, (true), (by first | rfl | (simp; done) | (simp [*]; done)), H', ⟨by first | omega | exact Nat.le_refl _⟩, ⟨by (with_reducible repeat (first | refine blk_drewN ?_ _ | refine blk_drew ?_ | refine blk_alloc ?_ _)); exact BK145.out⟩, ⟨by (with_reducible repeat (first | refine blk_drewN ?_ _ | refine blk_drew ?_ | refine blk_alloc ?_ _)); exact BK146.out⟩, ⟨zm HB⟩⟩
   ·rw [if_neg c10] at H
    have c10b0 : ((l1_0.length : Int) == 0) = false := beq_eq_false_iff_ne.mpr c10
    have c10b1 : ((l1_0.length : Int) != 0) = true := bne_iff_ne.mpr c10
    have c10b2 : ¬ (l1_0 = []) := fun h_ => c10 (by rw [h_]; rfl)
    (first | rw [c10b0] | (simp only [i64_w, i32_w]; rw [c10b0]) | skip)
    by_cases c14 : (l1_0.length : Int) > 12
    ·rw [if_pos c14] at H
     have c14b0 : decide (12 < (l1_0.length : Int)) = true := decide_eq_true c14
     have c14b1 : decide (12 < l1_0.length) = true := decide_eq_true (by omega)
     clear c14
     have H' := za H
     clear H
     have hnb15 := NB145_146.out
     have hnc15 := NB146_145.out
     obtain ⟨hcz16_0, hcz16_1, hcz16_2, hfz16_0, hfz16_1, hfz16_2⟩ := z3 BK145
     go_wp2_with (first | ((with_reducible refine gate_callee (f := 39) rfl ?_); refine zL (some 16) Try.func39 #[.agg #[.int .i64 a0_0, .int .i64 a0_1, .slice A0_2 l0_2.length c0_2]] ?_; (with_reducible refine (item_ValidPaper.calls k a0_0 a0_1 _ _ l0_2 true _ ?side1 ?side2 A8.out).mono ?_); (case side1 => exact zC HR0_2 HB); (case side2 => exact HC0_2.out); rintro e w17 ⟨rfl, hb⟩; refine ⟨_, rfl, ?_⟩; replace BK145 := zb BK145 hb; replace BK146 := zb BK146 hb; replace HB := zs HB hb; (try clear hb); (try clear hb2); (try clear hk); (try clear hi)))
     go_meet
     case rel => exact ⟨_, (true), (by first | rfl | (simp; done) | (simp [*]; done)), H', ⟨by first | omega | exact Nat.le_refl _⟩, ⟨by (with_reducible repeat (first | refine blk_drewN ?_ _ | refine blk_drew ?_ | refine blk_alloc ?_ _)); exact BK145.out⟩, ⟨by (with_reducible repeat (first | refine blk_drewN ?_ _ | refine blk_drew ?_ | refine blk_alloc ?_ _)); exact BK146.out⟩, ⟨zm HB⟩⟩
    ·rw [if_neg c14] at H
     have c14b0 : decide (12 < (l1_0.length : Int)) = false := decide_eq_false c14
     have c14b1 : decide (12 < l1_0.length) = false := decide_eq_false (by omega)
     clear c14
     by_cases c18 : ((l1_0.length : Int) % 4) = 0
     ·rw [if_pos c18] at H
      have c18b0 : (((l1_0.length : Int) % 4) == 0) = true := beq_iff_eq.mpr c18
      have c18b1 : (((l1_0.length : Int) % 4) != 0) = false := bne_eq_false_iff_eq.mpr c18
      clear c18
      by_cases c19 : 0 < (l1_0.length : Int)
      ·rw [if_pos c19] at H
       have c19b0 : decide (0 < (l1_0.length : Int)) = true := decide_eq_true c19
       have c19b1 : decide (0 < l1_0.length) = true := decide_eq_true (by omega)
       clear c19
       have H' := za H
       clear H
       have hnb20 := NB145_146.out
       have hnc20 := NB146_145.out
       obtain ⟨hcz21_0, hcz21_1, hcz21_2, hfz21_0, hfz21_1, hfz21_2⟩ := z3 BK145
       go_wp2_with (first | ((with_reducible refine gate_callee (f := 39) rfl ?_); refine zL (some 16) Try.func39 #[.agg #[.int .i64 a0_0, .int .i64 a0_1, .slice A0_2 l0_2.length c0_2]] ?_; (with_reducible refine (item_ValidPaper.calls k a0_0 a0_1 _ _ l0_2 true _ ?side1 ?side2 A8.out).mono ?_); (case side1 => exact zC HR0_2 HB); (case side2 => exact HC0_2.out); rintro e w22 ⟨rfl, hb⟩; refine ⟨_, rfl, ?_⟩; replace BK145 := zb BK145 hb; replace BK146 := zb BK146 hb; replace HB := zs HB hb; (try clear hb); (try clear hb2); (try clear hk); (try clear hi); obtain ⟨hcz23_0, hfz23_0⟩ := z1 BK146; have p148 : 0 ≤ (0 : Int) := (by omega); have q148 : 0 < (l1_0.length : Int) := of_decide_eq_true (by first | (with_reducible assumption) | assumption); obtain ⟨ad148, A148_0, c148_0, e148, hx148_0, hl148_0, hi148_0⟩ := at_L2 HR1_0.out 0 p148 q148; cases e148; have qi148 : (0 < l1_0.length) = True := eq_true (by omega); (try rw [show ((0 : Int)).toNat = 0 from rfl] at hx148_0); (try rw [Addr.add_zero'] at hx148_0); replace hx148_0 := zx HB hx148_0; have HR148_0 := za hi148_0; have HC148_0 := za hl148_0; clear hi148_0 hl148_0; replace p148 := eq_true p148; replace q148 := eq_true q148))
       go_meet
       case rel => exact ⟨_, (decide (((rd_L2 l1_0 0).length : Int) > 0)), (by first | rfl | (simp; done) | (simp [*]; done)), H', ⟨by first | omega | exact Nat.le_refl _⟩, ⟨by (with_reducible repeat (first | refine blk_drewN ?_ _ | refine blk_drew ?_ | refine blk_alloc ?_ _)); exact BK145.out⟩, ⟨by (with_reducible repeat (first | refine blk_drewN ?_ _ | refine blk_drew ?_ | refine blk_alloc ?_ _)); exact BK146.out⟩, ⟨zm HB⟩⟩
      ·rw [if_neg c19] at H
       exact absurd H (by simp)
     ·rw [if_neg c18] at H
      have c18b0 : (((l1_0.length : Int) % 4) == 0) = false := beq_eq_false_iff_ne.mpr c18
      have c18b1 : (((l1_0.length : Int) % 4) != 0) = true := bne_iff_ne.mpr c18
      have H' := za H
      clear H
      have hnb24 := NB145_146.out
      have hnc24 := NB146_145.out
      obtain ⟨hcz25_0, hcz25_1, hcz25_2, hfz25_0, hfz25_1, hfz25_2⟩ := z3 BK145
      go_wp2_with (first | ((with_reducible refine gate_callee (f := 39) rfl ?_); refine zL (some 16) Try.func39 #[.agg #[.int .i64 a0_0, .int .i64 a0_1, .slice A0_2 l0_2.length c0_2]] ?_; (with_reducible refine (item_ValidPaper.calls k a0_0 a0_1 _ _ l0_2 true _ ?side1 ?side2 A8.out).mono ?_); (case side1 => exact zC HR0_2 HB); (case side2 => exact HC0_2.out); rintro e w26 ⟨rfl, hb⟩; refine ⟨_, rfl, ?_⟩; replace BK145 := zb BK145 hb; replace BK146 := zb BK146 hb; replace HB := zs HB hb; (try clear hb); (try clear hb2); (try clear hk); (try clear hi)))
      go_meet
      case rel => exact ⟨_, (true), (by first | rfl | (simp; done) | (simp [*]; done)), H', ⟨by first | omega | exact Nat.le_refl _⟩, ⟨by (with_reducible repeat (first | refine blk_drewN ?_ _ | refine blk_drew ?_ | refine blk_alloc ?_ _)); exact BK145.out⟩, ⟨by (with_reducible repeat (first | refine blk_drewN ?_ _ | refine blk_drew ?_ | refine blk_alloc ?_ _)); exact BK146.out⟩, ⟨zm HB⟩⟩
  ·replace c9 := Bool.eq_false_iff.mpr c9
   subst c9
   have H1 : (booklet_Valid.j0 k true a0_0 a0_1 l0_2 l1_0) = some r := by rw [if_neg (show ¬ (false = true) by decide)] at H; exact H
   clear H
   have H := H1
   clear H1
   have H' := za H
   clear H
   have hnb27 := NB145_146.out
   have hnc27 := NB146_145.out
   obtain ⟨hcz28_0, hcz28_1, hcz28_2, hfz28_0, hfz28_1, hfz28_2⟩ := z3 BK145
   go_wp2_with (first | ((with_reducible refine gate_callee (f := 39) rfl ?_); refine zL (some 16) Try.func39 #[.agg #[.int .i64 a0_0, .int .i64 a0_1, .slice A0_2 l0_2.length c0_2]] ?_; (with_reducible refine (item_ValidPaper.calls k a0_0 a0_1 _ _ l0_2 false _ ?side1 ?side2 A8.out).mono ?_); (case side1 => exact zC HR0_2 HB); (case side2 => exact HC0_2.out); rintro e w29 ⟨rfl, hb⟩; refine ⟨_, rfl, ?_⟩; replace BK145 := zb BK145 hb; replace BK146 := zb BK146 hb; replace HB := zs HB hb; (try clear hb); (try clear hb2); (try clear hk); (try clear hi)))
   go_meet
   case rel => exact ⟨_, (true), (by first | rfl | (simp; done) | (simp [*]; done)), H', ⟨by first | omega | exact Nat.le_refl _⟩, ⟨by (with_reducible repeat (first | refine blk_drewN ?_ _ | refine blk_drew ?_ | refine blk_alloc ?_ _)); exact BK145.out⟩, ⟨by (with_reducible repeat (first | refine blk_drewN ?_ _ | refine blk_drew ?_ | refine blk_alloc ?_ _)); exact BK146.out⟩, ⟨zm HB⟩⟩
 case rest =>
  clear HC3
  try clear c1
  try clear p1
  try clear q1
  try clear hx1
  try clear qi1
  try clear c2
  try clear p2
  try clear c3
  try clear c6
  try clear c9
  try clear c10
  try clear c10b0
  try clear c10b1
  try clear c10b2
  try clear c11
  try clear c14
  try clear c14b0
  try clear c14b1
  try clear p14
  try clear q14
  try clear hx14
  try clear qi14
  try clear c15
  try clear c18
  try clear c18b0
  try clear c18b1
  try clear c19
  try clear c19b0
  try clear c19b1
  try clear c20
  try clear c23
  try clear c24
  try clear c27
  try clear hcz12_0
  try clear hcz12_1
  try clear hcz12_2
  try clear hcz16_0
  try clear hcz16_1
  try clear hcz16_2
  try clear hcz21_0
  try clear hcz21_1
  try clear hcz21_2
  try clear hcz23_0
  try clear hcz25_0
  try clear hcz25_1
  try clear hcz25_2
  try clear hcz28_0
  try clear hcz28_1
  try clear hcz28_2
  try clear hcz7_0
  try clear hfz12_0
  try clear hfz12_1
  try clear hfz12_2
  try clear hfz16_0
  try clear hfz16_1
  try clear hfz16_2
  try clear hfz21_0
  try clear hfz21_1
  try clear hfz21_2
  try clear hfz23_0
  try clear hfz25_0
  try clear hfz25_1
  try clear hfz25_2
  try clear hfz28_0
  try clear hfz28_1
  try clear hfz28_2
  try clear hfz7_0
  try clear hx148_0
  try clear p148
  try clear q148
  obtain ⟨kq, x38_2, rfl, HA, HJ2, BK145, BK146, HB⟩ := hcut
  cases kq with
  | zero => exact absurd HA.out (by simp [booklet_Valid.j0])
  | succ kj2 =>
   have H := HA.out
   clear HA
   simp only [booklet_Valid.j0] at H
   by_cases c30 : x38_2 = true
   ·subst c30
    have H1 : (some false) = some r := by rw [if_pos rfl] at H; exact H
    clear H
    have H := H1
    clear H1
    obtain rfl := Option.some.inj H
    go_wp2
    go_ret
    exact ⟨zf, zm HB⟩
   ·replace c30 := Bool.eq_false_iff.mpr c30
    subst c30
    have H1 : (booklet_Valid.l0 kj2 0 l1_0 (l1_0.length : Int) 0 a0_0 a0_1 l0_2) = some r := by rw [if_neg (show ¬ (false = true) by decide)] at H; exact H
    clear H
    have H := H1
    clear H1
    have H' := za H
    clear H
    have hnb31 := NB146_145.out
    have hnc31 := NB145_146.out
    obtain ⟨hcz32_0, hfz32_0⟩ := z1 BK146
    go_wp2
    go_loopg [6, 42] kj2 (fun kq v6 v42 w' => ∃ (x6_2 : Int) (x42_2 : Int), v6 = .int .i64 x6_2 ∧ v42 = .int .i64 x42_2 ∧ Aside0 (booklet_Valid.l0 kq x6_2 l1_0 (l1_0.length : Int) x42_2 a0_0 a0_1 l0_2 = some r) ∧ Aside0 (kq ≤ kj2) ∧ Aside0 (w'.heap[gb145]? = some (.cells #[.int .i64 a0_0, .int .i64 a0_1, (.slice A0_2 l0_2.length c0_2)] 33 (0, 0))) ∧ Aside0 (w'.heap[gb146]? = some (.cells #[(.slice A1_0 l1_0.length c1_0)] 38 (0, 0))) ∧ Aside0 (Below w.heap.size w w'))
    case atStart => exact ⟨(0), (0), (by first | rfl | (simp; done) | (simp [*]; done)), (by first | rfl | (simp; done) | (simp [*]; done)), H', ⟨Nat.le_refl _⟩, ⟨by (with_reducible repeat (first | refine blk_drewN ?_ _ | refine blk_drew ?_ | refine blk_alloc ?_ _)); exact BK145.out⟩, ⟨by (with_reducible repeat (first | refine blk_drewN ?_ _ | refine blk_drew ?_ | refine blk_alloc ?_ _)); exact BK146.out⟩, ⟨zm HB⟩⟩
    case round =>
     clear H'
     try clear c1
     try clear p1
     try clear q1
     try clear hx1
     try clear qi1
     try clear c2
     try clear p2
     try clear c3
     try clear c6
     try clear c9
     try clear c10
     try clear c10b0
     try clear c10b1
     try clear c10b2
     try clear c11
     try clear c14
     try clear c14b0
     try clear c14b1
     try clear p14
     try clear q14
     try clear hx14
     try clear qi14
     try clear c15
     try clear c18
     try clear c18b0
     try clear c18b1
     try clear c19
     try clear c19b0
     try clear c19b1
     try clear c20
     try clear c23
     try clear c24
     try clear c27
     try clear c30
     try clear c31
     try clear hcz12_0
     try clear hcz12_1
     try clear hcz12_2
     try clear hcz16_0
     try clear hcz16_1
     try clear hcz16_2
     try clear hcz21_0
     try clear hcz21_1
     try clear hcz21_2
     try clear hcz23_0
     try clear hcz25_0
     try clear hcz25_1
     try clear hcz25_2
     try clear hcz28_0
     try clear hcz28_1
     try clear hcz28_2
     try clear hcz32_0
     try clear hcz7_0
     try clear hfz12_0
     try clear hfz12_1
     try clear hfz12_2
     try clear hfz16_0
     try clear hfz16_1
     try clear hfz16_2
     try clear hfz21_0
     try clear hfz21_1
     try clear hfz21_2
     try clear hfz23_0
     try clear hfz25_0
     try clear hfz25_1
     try clear hfz25_2
     try clear hfz28_0
     try clear hfz28_1
     try clear hfz28_2
     try clear hfz32_0
     try clear hfz7_0
     try clear hx148_0
     try clear p1
     try clear p14
     try clear p148
     try clear p2
     try clear q1
     try clear q14
     try clear q148
     obtain ⟨x6_2, x42_2, rfl, rfl, HA, HK2, BK145, BK146, HB⟩ := hrel
     cases gk with
     | zero => exact absurd HA.out (by simp [booklet_Valid.l0])
     | succ k2 =>
      have H := HA.out
      clear HA
      simp only [booklet_Valid.l0] at H
      by_cases c33 : x42_2 < (l1_0.length : Int)
      ·rw [if_pos c33] at H
       have c33b0 : decide (x42_2 < (l1_0.length : Int)) = true := decide_eq_true c33
       clear c33
       by_cases c34 : 0 ≤ x42_2
       ·rw [if_pos c34] at H
        have c34b0 : decide (0 ≤ x42_2) = true := decide_eq_true c34
        clear c34
        by_cases c35 : x42_2 < (l1_0.length : Int)
        ·rw [if_pos c35] at H
         have c35b0 : decide (x42_2 < (l1_0.length : Int)) = true := decide_eq_true c35
         clear c35
         have H' := za H
         clear H
         have p149 : 0 ≤ (x42_2 : Int) := of_decide_eq_true (by first | (with_reducible assumption) | assumption)
         have q149 : x42_2 < (l1_0.length : Int) := of_decide_eq_true (by first | (with_reducible assumption) | assumption)
         obtain ⟨ad149, A149_0, c149_0, e149, hx149_0, hl149_0, hi149_0⟩ := at_L2 HR1_0.out x42_2 p149 q149
         cases e149
         replace hx149_0 := zx HB hx149_0
         have HR149_0 := za hi149_0
         have HC149_0 := za hl149_0
         clear hi149_0 hl149_0
         replace p149 := eq_true p149
         replace q149 := eq_true q149
         go_wp2
         go_loopg [6, 9, 48] k2 (fun kq v6 v9 v48 w' => ∃ (x6_3 : Int) (x9_3 : Int) (x48_3 : Int), v6 = .int .i64 x6_3 ∧ v9 = .int .i64 x9_3 ∧ v48 = .int .i64 x48_3 ∧ Aside0 (booklet_Valid.l1 kq x6_3 x9_3 l1_0 (l1_0.length : Int) x42_2 (rd_L2 l1_0 x42_2) ((rd_L2 l1_0 x42_2).length : Int) x48_3 a0_0 a0_1 l0_2 = some r) ∧ Aside0 (kq ≤ k2) ∧ Aside0 (w'.heap[gb145]? = some (.cells #[.int .i64 a0_0, .int .i64 a0_1, (.slice A0_2 l0_2.length c0_2)] 33 (0, 0))) ∧ Aside0 (w'.heap[gb146]? = some (.cells #[(.slice (some ad149) l1_0.length c1_0)] 38 (0, 0))) ∧ Aside0 (Below w.heap.size w w'))
         case atStart => exact ⟨(x6_2), (30), (0), (by first | rfl | (simp; done) | (simp [*]; done)), (by first | rfl | (simp; done) | (simp [*]; done)), (by first | rfl | (simp; done) | (simp [*]; done)), H', ⟨Nat.le_refl _⟩, ⟨by (with_reducible repeat (first | refine blk_drewN ?_ _ | refine blk_drew ?_ | refine blk_alloc ?_ _)); exact BK145.out⟩, ⟨by (with_reducible repeat (first | refine blk_drewN ?_ _ | refine blk_drew ?_ | refine blk_alloc ?_ _)); exact BK146.out⟩, ⟨zm HB⟩⟩
         case round =>
          clear H'
          try clear c1
          try clear p1
          try clear q1
          try clear hx1
          try clear qi1
          try clear c2
          try clear p2
          try clear c3
          try clear c6
          try clear c9
          try clear c10
          try clear c10b0
          try clear c10b1
          try clear c10b2
          try clear c11
          try clear c14
          try clear c14b0
          try clear c14b1
          try clear p14
          try clear q14
          try clear hx14
          try clear qi14
          try clear c15
          try clear c18
          try clear c18b0
          try clear c18b1
          try clear c19
          try clear c19b0
          try clear c19b1
          try clear c20
          try clear c23
          try clear c24
          try clear c27
          try clear c30
          try clear c31
          try clear c33
          try clear c33b0
          try clear c34
          try clear c34b0
          try clear c35
          try clear c35b0
          try clear hcz12_0
          try clear hcz12_1
          try clear hcz12_2
          try clear hcz16_0
          try clear hcz16_1
          try clear hcz16_2
          try clear hcz21_0
          try clear hcz21_1
          try clear hcz21_2
          try clear hcz23_0
          try clear hcz25_0
          try clear hcz25_1
          try clear hcz25_2
          try clear hcz28_0
          try clear hcz28_1
          try clear hcz28_2
          try clear hcz32_0
          try clear hcz7_0
          try clear hfz12_0
          try clear hfz12_1
          try clear hfz12_2
          try clear hfz16_0
          try clear hfz16_1
          try clear hfz16_2
          try clear hfz21_0
          try clear hfz21_1
          try clear hfz21_2
          try clear hfz23_0
          try clear hfz25_0
          try clear hfz25_1
          try clear hfz25_2
          try clear hfz28_0
          try clear hfz28_1
          try clear hfz28_2
          try clear hfz32_0
          try clear hfz7_0
          try clear hx148_0
          try clear hx149_0
          try clear p1
          try clear p14
          try clear p148
          try clear p149
          try clear p2
          try clear q1
          try clear q14
          try clear q148
          try clear q149
          obtain ⟨x6_3, x9_3, x48_3, rfl, rfl, rfl, HA, HK3, BK145, BK146, HB⟩ := hrel
          cases gk with
          | zero => exact absurd HA.out (by simp [booklet_Valid.l1])
          | succ k3 =>
           have H := HA.out
           clear HA
           simp only [booklet_Valid.l1] at H
           by_cases c36 : x48_3 < ((rd_L2 l1_0 x42_2).length : Int)
           ·rw [if_pos c36] at H
            have c36b0 : decide (x48_3 < ((rd_L2 l1_0 x42_2).length : Int)) = true := decide_eq_true c36
            clear c36
            by_cases c37 : 0 ≤ x48_3
            ·rw [if_pos c37] at H
             have c37b0 : decide (0 ≤ x48_3) = true := decide_eq_true c37
             clear c37
             by_cases c38 : x48_3 < ((rd_L2 l1_0 x42_2).length : Int)
             ·rw [if_pos c38] at H
              have c38b0 : decide (x48_3 < ((rd_L2 l1_0 x42_2).length : Int)) = true := decide_eq_true c38
              clear c38
              by_cases c39 : (rd (rd_L2 l1_0 x42_2) x48_3) = x6_3
              ·rw [if_pos c39] at H
               have c39b0 : ((rd (rd_L2 l1_0 x42_2) x48_3) == x6_3) = true := beq_iff_eq.mpr c39
               have c39b1 : ((rd (rd_L2 l1_0 x42_2) x48_3) != x6_3) = false := bne_eq_false_iff_eq.mpr c39
               clear c39
               by_cases c40 : (rd (rd_L2 l1_0 x42_2) x48_3) ≥ (l0_2.length : Int)
               ·rw [if_pos c40] at H
                have c40b0 : decide ((l0_2.length : Int) ≤ (rd (rd_L2 l1_0 x42_2) x48_3)) = true := decide_eq_true c40
                clear c40
                obtain rfl := Option.some.inj H
                have p150 : 0 ≤ (x48_3 : Int) := of_decide_eq_true (by first | (with_reducible assumption) | assumption)
                have q150 : x48_3 < ((rd_L2 l1_0 x42_2).length : Int) := of_decide_eq_true (by first | (with_reducible assumption) | assumption)
                obtain ⟨ad150, e150, hx150_0⟩ := Kd.at_int HR149_0.out x48_3 p150 q150
                cases e150
                replace hx150_0 := zx HB hx150_0
                replace p150 := eq_true p150
                replace q150 := eq_true q150
                have hnb41 := NB145_146.out
                have hnc41 := NB146_145.out
                obtain ⟨hcz42_0, hcz42_1, hcz42_2, hfz42_0, hfz42_1, hfz42_2⟩ := z3 BK145
                go_wp2
                go_ret
                exact ⟨zf, zm HB⟩
               ·rw [if_neg c40] at H
                have c40b0 : decide ((l0_2.length : Int) ≤ (rd (rd_L2 l1_0 x42_2) x48_3)) = false := decide_eq_false c40
                clear c40
                by_cases c43 : 0 ≤ (rd (rd_L2 l1_0 x42_2) x48_3)
                ·rw [if_pos c43] at H
                 have c43b0 : decide (0 ≤ (rd (rd_L2 l1_0 x42_2) x48_3)) = true := decide_eq_true c43
                 clear c43
                 by_cases c44 : (rd (rd_L2 l1_0 x42_2) x48_3) < (l0_2.length : Int)
                 ·rw [if_pos c44] at H
                  have c44b0 : decide ((rd (rd_L2 l1_0 x42_2) x48_3) < (l0_2.length : Int)) = true := decide_eq_true c44
                  clear c44
                  replace H := Option.bind_eq_some_iff.mp H
                  obtain ⟨t152, A450, H⟩ := H
                  replace H : (booklet_Valid.l1 k3 (wrap64 (x6_3 + 1)) (wrap64 (x9_3 - t152)) l1_0 (l1_0.length : Int) x42_2 (rd_L2 l1_0 x42_2) ((rd_L2 l1_0 x42_2).length : Int) (wrap64 (x48_3 + 1)) a0_0 a0_1 l0_2) = some r := H
                  have A45 := za A450
                  clear A450
                  have H' := za H
                  clear H
                  have p150 : 0 ≤ (x48_3 : Int) := of_decide_eq_true (by first | (with_reducible assumption) | assumption)
                  have q150 : x48_3 < ((rd_L2 l1_0 x42_2).length : Int) := of_decide_eq_true (by first | (with_reducible assumption) | assumption)
                  obtain ⟨ad150, e150, hx150_0⟩ := Kd.at_int HR149_0.out x48_3 p150 q150
                  cases e150
                  replace hx150_0 := zx HB hx150_0
                  replace p150 := eq_true p150
                  replace q150 := eq_true q150
                  have hnb46 := NB145_146.out
                  have hnc46 := NB146_145.out
                  obtain ⟨hcz47_0, hcz47_1, hcz47_2, hfz47_0, hfz47_1, hfz47_2⟩ := z3 BK145
                  have p151 : 0 ≤ ((rd (rd_L2 l1_0 x42_2) x48_3) : Int) := of_decide_eq_true (by first | (with_reducible assumption) | assumption)
                  have q151 : (rd (rd_L2 l1_0 x42_2) x48_3) < (l0_2.length : Int) := of_decide_eq_true (by first | (with_reducible assumption) | assumption)
                  obtain ⟨ad151, e151, hx151_0, hx151_1, hx151_2, hx151_3, hx151_4, hx151_5⟩ := at_T23 HR0_2.out (rd (rd_L2 l1_0 x42_2) x48_3) p151 q151
                  cases e151
                  replace hx151_0 := zx HB hx151_0
                  replace hx151_1 := zx HB hx151_1
                  replace hx151_2 := zx HB hx151_2
                  replace hx151_3 := zx HB hx151_3
                  replace hx151_4 := zx HB hx151_4
                  replace hx151_5 := zx HB hx151_5
                  replace p151 := eq_true p151
                  replace q151 := eq_true q151
                  go_wp2_with (first | ((with_reducible refine gate_callee (f := 12) rfl ?_); refine zL (some 68) Try.func12 #[.agg #[.int .i64 ((rd_T23 l0_2 (rd (rd_L2 l1_0 x42_2) x48_3)).f0), .int .i64 ((rd_T23 l0_2 (rd (rd_L2 l1_0 x42_2) x48_3)).f1), .int .i64 ((rd_T23 l0_2 (rd (rd_L2 l1_0 x42_2) x48_3)).f2), .int .i64 ((rd_T23 l0_2 (rd (rd_L2 l1_0 x42_2) x48_3)).f3), .int .i64 ((rd_T23 l0_2 (rd (rd_L2 l1_0 x42_2) x48_3)).f4), .int .i64 ((rd_T23 l0_2 (rd (rd_L2 l1_0 x42_2) x48_3)).f5)]] ?_; (with_reducible refine (booklet_Need.calls k3 ((rd_T23 l0_2 (rd (rd_L2 l1_0 x42_2) x48_3)).f0) ((rd_T23 l0_2 (rd (rd_L2 l1_0 x42_2) x48_3)).f1) ((rd_T23 l0_2 (rd (rd_L2 l1_0 x42_2) x48_3)).f2) ((rd_T23 l0_2 (rd (rd_L2 l1_0 x42_2) x48_3)).f3) ((rd_T23 l0_2 (rd (rd_L2 l1_0 x42_2) x48_3)).f4) ((rd_T23 l0_2 (rd (rd_L2 l1_0 x42_2) x48_3)).f5) t152 _ A45.out).mono ?_); rintro e w48 ⟨rfl, hb⟩; refine ⟨_, rfl, ?_⟩; replace BK145 := zb BK145 hb; replace BK146 := zb BK146 hb; replace HB := zs HB hb; (try clear hb); (try clear hb2); (try clear hk); (try clear hi)))
                  go_roundg k3
                  case measure => have := HJ2.out; have := HK2.out; have := HK3.out; omega
                  case rel => exact ⟨(wrap64 (x6_3 + 1)), (wrap64 (x9_3 - t152)), (wrap64 (x48_3 + 1)), (by first | rfl | (simp; done) | (simp [*]; done)), (by first | rfl | (simp; done) | (simp [*]; done)), (by first | rfl | (simp; done) | (simp [*]; done)), H', ⟨by have := HJ2.out; have := HK2.out; have := HK3.out; omega⟩, ⟨by (with_reducible repeat (first | refine blk_drewN ?_ _ | refine blk_drew ?_ | refine blk_alloc ?_ _)); exact BK145.out⟩, ⟨by (with_reducible repeat (first | refine blk_drewN ?_ _ | refine blk_drew ?_ | refine blk_alloc ?_ _)); exact BK146.out⟩, ⟨zm HB⟩⟩
                 ·rw [if_neg c44] at H
                  exact absurd H (by simp)
                ·rw [if_neg c43] at H
                 exact absurd H (by simp)
              ·rw [if_neg c39] at H
               have c39b0 : ((rd (rd_L2 l1_0 x42_2) x48_3) == x6_3) = false := beq_eq_false_iff_ne.mpr c39
               have c39b1 : ((rd (rd_L2 l1_0 x42_2) x48_3) != x6_3) = true := bne_iff_ne.mpr c39
               obtain rfl := Option.some.inj H
               have p150 : 0 ≤ (x48_3 : Int) := of_decide_eq_true (by first | (with_reducible assumption) | assumption)
               have q150 : x48_3 < ((rd_L2 l1_0 x42_2).length : Int) := of_decide_eq_true (by first | (with_reducible assumption) | assumption)
               obtain ⟨ad150, e150, hx150_0⟩ := Kd.at_int HR149_0.out x48_3 p150 q150
               cases e150
               replace hx150_0 := zx HB hx150_0
               replace p150 := eq_true p150
               replace q150 := eq_true q150
               go_wp2
               go_ret
               exact ⟨zf, zm HB⟩
             ·rw [if_neg c38] at H
              exact absurd H (by simp)
            ·rw [if_neg c37] at H
             exact absurd H (by simp)
           ·rw [if_neg c36] at H
            have c36b0 : decide (x48_3 < ((rd_L2 l1_0 x42_2).length : Int)) = false := decide_eq_false c36
            clear c36
            by_cases c49 : x9_3 < 0
            ·rw [if_pos c49] at H
             have c49b0 : decide (x9_3 < 0) = true := decide_eq_true c49
             clear c49
             obtain rfl := Option.some.inj H
             go_wp2
             go_ret
             exact ⟨zf, zm HB⟩
            ·rw [if_neg c49] at H
             have c49b0 : decide (x9_3 < 0) = false := decide_eq_false c49
             clear c49
             have H' := za H
             clear H
             go_wp2
             go_roundg k3
             case measure => have := HJ2.out; have := HK2.out; have := HK3.out; omega
             case rel => exact ⟨(x6_3), (wrap64 (x42_2 + 1)), (by first | rfl | (simp; done) | (simp [*]; done)), (by first | rfl | (simp; done) | (simp [*]; done)), H', ⟨by have := HJ2.out; have := HK2.out; have := HK3.out; omega⟩, ⟨by (with_reducible repeat (first | refine blk_drewN ?_ _ | refine blk_drew ?_ | refine blk_alloc ?_ _)); exact BK145.out⟩, ⟨by (with_reducible repeat (first | refine blk_drewN ?_ _ | refine blk_drew ?_ | refine blk_alloc ?_ _)); exact BK146.out⟩, ⟨zm HB⟩⟩
        ·rw [if_neg c35] at H
         exact absurd H (by simp)
       ·rw [if_neg c34] at H
        exact absurd H (by simp)
      ·rw [if_neg c33] at H
       have c33b0 : decide (x42_2 < (l1_0.length : Int)) = false := decide_eq_false c33
       clear c33
       obtain rfl := Option.some.inj H
       have hnb50 := NB145_146.out
       have hnc50 := NB146_145.out
       obtain ⟨hcz51_0, hcz51_1, hcz51_2, hfz51_0, hfz51_1, hfz51_2⟩ := z3 BK145
       go_wp2
       go_ret
       exact ⟨zf, zm HB⟩

end Go.Proofs.Ytdmlbgdefapcjaa.Print
