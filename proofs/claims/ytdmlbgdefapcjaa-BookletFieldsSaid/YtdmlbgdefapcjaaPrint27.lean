-- Printed by a program of this session (wip/own_print.py) out of the translation; Lean checks it.
import Derived.Test.YtdmlbgdefapcjaaShort
import Derived.Test.YtdmlbgdefapcjaaPrint0
import Derived.Test.YtdmlbgdefapcjaaPrint21
namespace Go.Proofs.Ytdmlbgdefapcjaa.Print
open Go.RowKit Go.Proofs.YtdmlbgdefapcjaaW.PrintWords Go.Proofs.YtdmlbgdefapcjaaW.PrintLast Go.Proofs.YtdmlbgdefapcjaaW.PrintMore
attribute [local go_sem] max2_int min2_int max_two min_two max_three min_three max_four min_four   -- for this text's walks alone
set_option linter.unusedVariables false
set_option linter.unusedSimpArgs false

/-! ### awardingbodyref12_Fields: function 28 -/
mutual
def awardingbodyref12_Fields.j0 : Nat → Int → Bool → Int → Int → List (S23) → List (List Int) → Option ((List (S53)))
  | 0, _, _, _, _, _, _ => none
  | k + 1, x2, x25, x552000, x552001, x552002, x553000 => if x25 = true then (some ([] : List (S53))) else (awardingbodyref12_Fields.l0 k x2 ([] : List (S53)) 0 x552000 x552001 x552002 x553000)
def awardingbodyref12_Fields.l0 : Nat → Int → List (S53) → Int → Int → Int → List (S23) → List (List Int) → Option ((List (S53)))
  | 0, _, _, _, _, _, _, _ => none
  | k + 1, x2, x7, x8, x552000, x552001, x552002, x553000 => if 0 ≤ x2 then (if x2 < (x553000.length : Int) then (if x8 < ((rd_L2 x553000 x2).length : Int) then (if 0 ≤ x8 then (if 0 ≤ (rd (rd_L2 x553000 x2) x8) then (if (rd (rd_L2 x553000 x2) x8) < (x552002.length : Int) then (if ((rd_T23 x552002 (rd (rd_L2 x553000 x2) x8)).f0) = 2 then (awardingbodyref12_Fields.l1 k x2 x7 x8 (rd (rd_L2 x553000 x2) x8) 0 x552000 x552001 x552002 x553000) else (awardingbodyref12_Fields.l0 k x2 x7 (wrap64 (x8 + 1)) x552000 x552001 x552002 x553000)) else (none)) else (none)) else (none)) else (some x7)) else (none)) else (none)
def awardingbodyref12_Fields.l1 : Nat → Int → List (S53) → Int → Int → Int → Int → Int → List (S23) → List (List Int) → Option ((List (S53)))
  | 0, _, _, _, _, _, _, _, _, _ => none
  | k + 1, x2, x7, x8, x9, x10, x552000, x552001, x552002, x553000 => if 0 ≤ x9 then (if x9 < (x552002.length : Int) then (if x10 < ((rd_T23 x552002 x9).f4) then (if x7.length < 8796093022208 then (awardingbodyref12_Fields.l1 k x2 (x7 ++ [(⟨x9, x10⟩ : S53)]) x8 x9 (wrap64 (x10 + 1)) x552000 x552001 x552002 x553000) else (none)) else (awardingbodyref12_Fields.l0 k x2 x7 (wrap64 (x8 + 1)) x552000 x552001 x552002 x553000)) else (none)) else (none)
end
def awardingbodyref12_Fields.f (k : Nat) (a0_0 : Int) (a0_1 : Int) (l0_2 : List (S23)) (l1_0 : List (List Int)) (a2 : Int) : Option ((List (S53))) := (awardingbodyref12_Valid.f k a0_0 a0_1 l0_2 l1_0).bind fun t553 => (if t553 = true then (if a2 < 0 then (awardingbodyref12_Fields.j0 k a2 true a0_0 a0_1 l0_2 l1_0) else (awardingbodyref12_Fields.j0 k a2 (decide (a2 ≥ (l1_0.length : Int))) a0_0 a0_1 l0_2 l1_0)) else (awardingbodyref12_Fields.j0 k a2 true a0_0 a0_1 l0_2 l1_0))
theorem awardingbodyref12_Fields.mono_l : ∀ k, (∀ y0 y1 y2 y3 y4 y5, LeO (awardingbodyref12_Fields.j0 k y0 y1 y2 y3 y4 y5) (awardingbodyref12_Fields.j0 (k + 1) y0 y1 y2 y3 y4 y5)) ∧ (∀ y0 y1 y2 y3 y4 y5 y6, LeO (awardingbodyref12_Fields.l0 k y0 y1 y2 y3 y4 y5 y6) (awardingbodyref12_Fields.l0 (k + 1) y0 y1 y2 y3 y4 y5 y6)) ∧ (∀ y0 y1 y2 y3 y4 y5 y6 y7 y8, LeO (awardingbodyref12_Fields.l1 k y0 y1 y2 y3 y4 y5 y6 y7 y8) (awardingbodyref12_Fields.l1 (k + 1) y0 y1 y2 y3 y4 y5 y6 y7 y8))
  | 0 => ⟨fun _ _ _ _ _ _ r h => by simp [awardingbodyref12_Fields.j0] at h, fun _ _ _ _ _ _ _ r h => by simp [awardingbodyref12_Fields.l0] at h, fun _ _ _ _ _ _ _ _ _ r h => by simp [awardingbodyref12_Fields.l1] at h⟩
  | k + 1 => by
    obtain ⟨ih0, ih1, ih2⟩ := awardingbodyref12_Fields.mono_l k
    refine ⟨?_, ?_, ?_⟩
    · intro y0 y1 y2 y3 y4 y5
      unfold awardingbodyref12_Fields.j0
      repeat' first
      | (with_reducible exact ih0 _ _ _ _ _ _)
      | (with_reducible exact ih1 _ _ _ _ _ _ _)
      | (with_reducible exact ih2 _ _ _ _ _ _ _ _ _)
      | (with_reducible exact awardingbodyref12_Valid.mono _ _ _ _ _)
      | (with_reducible exact LeO.refl _)
      | (with_reducible exact LeO.none _)
      | (with_reducible refine LeO.ite ?_ ?_)
      | (with_reducible refine LeO.bind ?_ (fun _ => ?_))
      | exact ih0 _ _ _ _ _ _
      | exact ih1 _ _ _ _ _ _ _
      | exact ih2 _ _ _ _ _ _ _ _ _
      | exact awardingbodyref12_Valid.mono _ _ _ _ _
      | exact LeO.none _
      | refine LeO.ite ?_ ?_
      | refine LeO.bind ?_ (fun _ => ?_)
    · intro y0 y1 y2 y3 y4 y5 y6
      unfold awardingbodyref12_Fields.l0
      repeat' first
      | (with_reducible exact ih0 _ _ _ _ _ _)
      | (with_reducible exact ih1 _ _ _ _ _ _ _)
      | (with_reducible exact ih2 _ _ _ _ _ _ _ _ _)
      | (with_reducible exact awardingbodyref12_Valid.mono _ _ _ _ _)
      | (with_reducible exact LeO.refl _)
      | (with_reducible exact LeO.none _)
      | (with_reducible refine LeO.ite ?_ ?_)
      | (with_reducible refine LeO.bind ?_ (fun _ => ?_))
      | exact ih0 _ _ _ _ _ _
      | exact ih1 _ _ _ _ _ _ _
      | exact ih2 _ _ _ _ _ _ _ _ _
      | exact awardingbodyref12_Valid.mono _ _ _ _ _
      | exact LeO.none _
      | refine LeO.ite ?_ ?_
      | refine LeO.bind ?_ (fun _ => ?_)
    · intro y0 y1 y2 y3 y4 y5 y6 y7 y8
      unfold awardingbodyref12_Fields.l1
      repeat' first
      | (with_reducible exact ih0 _ _ _ _ _ _)
      | (with_reducible exact ih1 _ _ _ _ _ _ _)
      | (with_reducible exact ih2 _ _ _ _ _ _ _ _ _)
      | (with_reducible exact awardingbodyref12_Valid.mono _ _ _ _ _)
      | (with_reducible exact LeO.refl _)
      | (with_reducible exact LeO.none _)
      | (with_reducible refine LeO.ite ?_ ?_)
      | (with_reducible refine LeO.bind ?_ (fun _ => ?_))
      | exact ih0 _ _ _ _ _ _
      | exact ih1 _ _ _ _ _ _ _
      | exact ih2 _ _ _ _ _ _ _ _ _
      | exact awardingbodyref12_Valid.mono _ _ _ _ _
      | exact LeO.none _
      | refine LeO.ite ?_ ?_
      | refine LeO.bind ?_ (fun _ => ?_)
theorem awardingbodyref12_Fields.mono : ∀ a0 a1 a2 a3 a4 k, LeO (awardingbodyref12_Fields.f k a0 a1 a2 a3 a4) (awardingbodyref12_Fields.f (k + 1) a0 a1 a2 a3 a4) := by
  intro a0 a1 a2 a3 a4 k
  obtain ⟨ih0, ih1, ih2⟩ := awardingbodyref12_Fields.mono_l k
  unfold awardingbodyref12_Fields.f
  repeat' first
      | (with_reducible exact ih0 _ _ _ _ _ _)
      | (with_reducible exact ih1 _ _ _ _ _ _ _)
      | (with_reducible exact ih2 _ _ _ _ _ _ _ _ _)
      | (with_reducible exact awardingbodyref12_Valid.mono _ _ _ _ _)
      | (with_reducible exact LeO.refl _)
      | (with_reducible exact LeO.none _)
      | (with_reducible refine LeO.ite ?_ ?_)
      | (with_reducible refine LeO.bind ?_ (fun _ => ?_))
      | exact ih0 _ _ _ _ _ _
      | exact ih1 _ _ _ _ _ _ _
      | exact ih2 _ _ _ _ _ _ _ _ _
      | exact awardingbodyref12_Valid.mono _ _ _ _ _
      | exact LeO.none _
      | refine LeO.ite ?_ ?_
      | refine LeO.bind ?_ (fun _ => ?_)
set_option maxHeartbeats 8000000 in
set_option maxRecDepth 100000 in
theorem awardingbodyref12_Fields.calls (k : Nat) (a0_0 : Int) (a0_1 : Int) (A0_2 : Option Addr) (c0_2 : Nat) (l0_2 : List (S23)) (A1_0 : Option Addr) (c1_0 : Nat) (l1_0 : List (List Int)) (a2 : Int) (r : List (S53)) (w : World) (hr0_2 : Kd.C k23 w A0_2 l0_2.length l0_2) (hc0_2 : l0_2.length ≤ c0_2) (hr1_0 : Kd.C (Kd.slice 3 (Kd.int .i64)) w A1_0 l1_0.length l1_0) (hc1_0 : l1_0.length ≤ c1_0) (h : awardingbodyref12_Fields.f k a0_0 a0_1 l0_2 l1_0 a2 = some r) :
    Calls Try.prog 28 #[.agg #[.int .i64 a0_0, .int .i64 a0_1, .slice A0_2 l0_2.length c0_2], .agg #[.slice A1_0 l1_0.length c1_0], .int .i64 a2] w fun e w' => ∃ v0_ : Value, e = .returned (v0_) ∧ Kd.R k53 53 w' w.heap.size (fun _ => True) v0_ r ∧ Below w.heap.size w w' := by
 have hu33 := Try.underlying33
 have hu38 := Try.underlying38
 have hu53 := Try.underlying53
 have HR0_2 := za hr0_2
 have HC0_2 := za hc0_2
 clear hr0_2 hc0_2
 have HR1_0 := za hr1_0
 have HC1_0 := za hc1_0
 clear hr1_0 hc1_0
 have HB := za (Below.refl w.heap.size w)
 have H : ((awardingbodyref12_Valid.f k a0_0 a0_1 l0_2 l1_0).bind fun t553 => (if t553 = true then (if a2 < 0 then (awardingbodyref12_Fields.j0 k a2 true a0_0 a0_1 l0_2 l1_0) else (awardingbodyref12_Fields.j0 k a2 (decide (a2 ≥ (l1_0.length : Int))) a0_0 a0_1 l0_2 l1_0)) else (awardingbodyref12_Fields.j0 k a2 true a0_0 a0_1 l0_2 l1_0))) = some r := h
 clear h
 have HC4 := za H
 clear H
 go_enter Try.func28, Try.ntmps28
 go_upto_region 1 with (first | ((with_reducible refine gate_dst (N := 3) rfl ?_); (try (refine gate_guard (by rfl) ?_; dsimp only)); refine zE 3 #[.int .i64 a0_0, .int .i64 a0_1, .slice A0_2 l0_2.length c0_2] 33 ?_; intro gb551 hg w5 hbox hb; have BK551 := za (hbox); have GW551 := zg HB hg; have GE551 := zg HB hg; replace HB := zs HB hb; clear hb hbox hg) | ((with_reducible refine gate_dst (N := 4) rfl ?_); (try (refine gate_guard (by rfl) ?_; dsimp only)); refine zE 4 #[.slice A1_0 l1_0.length c1_0] 38 ?_; intro gb552 hg w6 hbox hb; have BK552 := za (hbox); have GW552 := zg HB hg; have GE552 := zg HB hg; have NB551_552 := zl BK551 hg; have NB552_551 := zr BK551 hg; replace BK551 := zb BK551 hb; replace HB := zs HB hb; clear hb hbox hg))
 (try simp only [Act.put, List.setIfInBounds_toArray, List.set_cons_zero, List.set_cons_succ])
 go_cut [25] (fun v25 wc => ∃ (kq : Nat) (x25_3 : Bool), v25 = .bool x25_3 ∧ Aside0 (awardingbodyref12_Fields.j0 kq a2 x25_3 a0_0 a0_1 l0_2 l1_0 = some r) ∧ Aside0 (kq ≤ k) ∧ Aside0 (wc.heap[gb551]? = some (.cells #[.int .i64 a0_0, .int .i64 a0_1, (.slice A0_2 l0_2.length c0_2)] 33 (0, 0))) ∧ Aside0 (wc.heap[gb552]? = some (.cells #[(.slice A1_0 l1_0.length c1_0)] 38 (0, 0))) ∧ Aside0 (Below w.heap.size w wc))
 case first =>
  have H := HC4.out
  clear HC4
  replace H := Option.bind_eq_some_iff.mp H
  obtain ⟨t553, A70, H⟩ := H
  replace H : (if t553 = true then (if a2 < 0 then (awardingbodyref12_Fields.j0 k a2 true a0_0 a0_1 l0_2 l1_0) else (awardingbodyref12_Fields.j0 k a2 (decide (a2 ≥ (l1_0.length : Int))) a0_0 a0_1 l0_2 l1_0)) else (awardingbodyref12_Fields.j0 k a2 true a0_0 a0_1 l0_2 l1_0)) = some r := H
  have A7 := za A70
  clear A70
  by_cases c8 : t553 = true
  ·subst c8
   have H1 : (if a2 < 0 then (awardingbodyref12_Fields.j0 k a2 true a0_0 a0_1 l0_2 l1_0) else (awardingbodyref12_Fields.j0 k a2 (decide (a2 ≥ (l1_0.length : Int))) a0_0 a0_1 l0_2 l1_0)) = some r := by rw [if_pos rfl] at H; exact H
   clear H
   have H := H1
   clear H1
   by_cases c9 : a2 < 0
   ·rw [if_pos c9] at H
    have c9b0 : decide (a2 < 0) = true := decide_eq_true c9
    clear c9
    (first | rw [c9b0] | (simp only [i64_w, i32_w]; rw [c9b0]) | skip)
    have H' := za H
    clear H
    have hnb10 := NB551_552.out
    have hnc10 := NB552_551.out
    obtain ⟨hcz11_0, hcz11_1, hcz11_2, hfz11_0, hfz11_1, hfz11_2⟩ := z3 BK551
    obtain ⟨hcz12_0, hfz12_0⟩ := z1 BK552
    go_wp2_with (first | ((with_reducible refine gate_callee (f := 24) rfl ?_); refine zL (some 13) Try.func24 #[.agg #[.int .i64 a0_0, .int .i64 a0_1, .slice A0_2 l0_2.length c0_2], .agg #[.slice A1_0 l1_0.length c1_0]] ?_; (with_reducible refine (awardingbodyref12_Valid.calls k a0_0 a0_1 _ _ l0_2 _ _ l1_0 true _ ?side1 ?side2 ?side3 ?side4 A7.out).mono ?_); (case side1 => exact zC HR0_2 HB); (case side2 => exact HC0_2.out); (case side3 => exact zC HR1_0 HB); (case side4 => exact HC1_0.out); rintro e w13 ⟨rfl, hb⟩; refine ⟨_, rfl, ?_⟩; replace BK551 := zb BK551 hb; replace BK552 := zb BK552 hb; replace HB := zs HB hb; (try clear hb); (try clear hb2); (try clear hk); (try clear hi)))
    go_meet
    case rel => exact ⟨_, (true), (by first | rfl | (simp; done) | (simp [*]; done)), H', ⟨by first | omega | exact Nat.le_refl _⟩, ⟨by (with_reducible repeat (first | refine blk_drewN ?_ _ | refine blk_drew ?_ | refine blk_alloc ?_ _)); exact BK551.out⟩, ⟨by (with_reducible repeat (first | refine blk_drewN ?_ _ | refine blk_drew ?_ | refine blk_alloc ?_ _)); exact BK552.out⟩, ⟨zm HB⟩⟩
   ·rw [if_neg c9] at H
    have c9b0 : decide (a2 < 0) = false := decide_eq_false c9
    clear c9
    (first | rw [c9b0] | (simp only [i64_w, i32_w]; rw [c9b0]) | skip)
    have H' := za H
    clear H
    have hnb14 := NB551_552.out
    have hnc14 := NB552_551.out
    obtain ⟨hcz15_0, hcz15_1, hcz15_2, hfz15_0, hfz15_1, hfz15_2⟩ := z3 BK551
    obtain ⟨hcz16_0, hfz16_0⟩ := z1 BK552
    go_wp2_with (first | ((with_reducible refine gate_callee (f := 24) rfl ?_); refine zL (some 13) Try.func24 #[.agg #[.int .i64 a0_0, .int .i64 a0_1, .slice A0_2 l0_2.length c0_2], .agg #[.slice A1_0 l1_0.length c1_0]] ?_; (with_reducible refine (awardingbodyref12_Valid.calls k a0_0 a0_1 _ _ l0_2 _ _ l1_0 true _ ?side1 ?side2 ?side3 ?side4 A7.out).mono ?_); (case side1 => exact zC HR0_2 HB); (case side2 => exact HC0_2.out); (case side3 => exact zC HR1_0 HB); (case side4 => exact HC1_0.out); rintro e w17 ⟨rfl, hb⟩; refine ⟨_, rfl, ?_⟩; replace BK551 := zb BK551 hb; replace BK552 := zb BK552 hb; replace HB := zs HB hb; (try clear hb); (try clear hb2); (try clear hk); (try clear hi); obtain ⟨hcz18_0, hfz18_0⟩ := z1 BK552))
    go_meet
    case rel => exact ⟨_, (decide (a2 ≥ (l1_0.length : Int))), (by first | rfl | (simp; done) | (simp [*]; done)), H', ⟨by first | omega | exact Nat.le_refl _⟩, ⟨by (with_reducible repeat (first | refine blk_drewN ?_ _ | refine blk_drew ?_ | refine blk_alloc ?_ _)); exact BK551.out⟩, ⟨by (with_reducible repeat (first | refine blk_drewN ?_ _ | refine blk_drew ?_ | refine blk_alloc ?_ _)); exact BK552.out⟩, ⟨zm HB⟩⟩
  ·replace c8 := Bool.eq_false_iff.mpr c8
   subst c8
   have H1 : (awardingbodyref12_Fields.j0 k a2 true a0_0 a0_1 l0_2 l1_0) = some r := by rw [if_neg (show ¬ (false = true) by decide)] at H; exact H
   clear H
   have H := H1
   clear H1
   have H' := za H
   clear H
   have hnb19 := NB551_552.out
   have hnc19 := NB552_551.out
   obtain ⟨hcz20_0, hcz20_1, hcz20_2, hfz20_0, hfz20_1, hfz20_2⟩ := z3 BK551
   obtain ⟨hcz21_0, hfz21_0⟩ := z1 BK552
   go_wp2_with (first | ((with_reducible refine gate_callee (f := 24) rfl ?_); refine zL (some 13) Try.func24 #[.agg #[.int .i64 a0_0, .int .i64 a0_1, .slice A0_2 l0_2.length c0_2], .agg #[.slice A1_0 l1_0.length c1_0]] ?_; (with_reducible refine (awardingbodyref12_Valid.calls k a0_0 a0_1 _ _ l0_2 _ _ l1_0 false _ ?side1 ?side2 ?side3 ?side4 A7.out).mono ?_); (case side1 => exact zC HR0_2 HB); (case side2 => exact HC0_2.out); (case side3 => exact zC HR1_0 HB); (case side4 => exact HC1_0.out); rintro e w22 ⟨rfl, hb⟩; refine ⟨_, rfl, ?_⟩; replace BK551 := zb BK551 hb; replace BK552 := zb BK552 hb; replace HB := zs HB hb; (try clear hb); (try clear hb2); (try clear hk); (try clear hi)))
   go_meet
   case rel => exact ⟨_, (true), (by first | rfl | (simp; done) | (simp [*]; done)), H', ⟨by first | omega | exact Nat.le_refl _⟩, ⟨by (with_reducible repeat (first | refine blk_drewN ?_ _ | refine blk_drew ?_ | refine blk_alloc ?_ _)); exact BK551.out⟩, ⟨by (with_reducible repeat (first | refine blk_drewN ?_ _ | refine blk_drew ?_ | refine blk_alloc ?_ _)); exact BK552.out⟩, ⟨zm HB⟩⟩
 case rest =>
  clear HC4
  try clear c1
  try clear c2
  try clear p2
  try clear c8
  try clear c9
  try clear c9b0
  try clear c10
  try clear c14
  try clear c19
  try clear hcz11_0
  try clear hcz11_1
  try clear hcz11_2
  try clear hcz12_0
  try clear hcz15_0
  try clear hcz15_1
  try clear hcz15_2
  try clear hcz16_0
  try clear hcz18_0
  try clear hcz20_0
  try clear hcz20_1
  try clear hcz20_2
  try clear hcz21_0
  try clear hfz11_0
  try clear hfz11_1
  try clear hfz11_2
  try clear hfz12_0
  try clear hfz15_0
  try clear hfz15_1
  try clear hfz15_2
  try clear hfz16_0
  try clear hfz18_0
  try clear hfz20_0
  try clear hfz20_1
  try clear hfz20_2
  try clear hfz21_0
  obtain ⟨kq, x25_3, rfl, HA, HJ3, BK551, BK552, HB⟩ := hcut
  cases kq with
  | zero => exact absurd HA.out (by simp [awardingbodyref12_Fields.j0])
  | succ kj3 =>
   have H := HA.out
   clear HA
   simp only [awardingbodyref12_Fields.j0] at H
   by_cases c23 : x25_3 = true
   ·subst c23
    have H1 : (some ([] : List (S53))) = some r := by rw [if_pos rfl] at H; exact H
    clear H
    have H := H1
    clear H1
    obtain rfl := Option.some.inj H
    go_wp2
    go_ret
    exact ⟨_, zf, by first | exact Kd.R_nil _ _ _ _ _ | exact Kd.N_nil _ _ _ _ _ | exact Kd.V_nil _ _ _ _ _ | exact Kd.Q_nil _ _ _ _ _ | exact Kd.S_nil _ _ _ _ _, zm HB⟩
   ·replace c23 := Bool.eq_false_iff.mpr c23
    subst c23
    have H1 : (awardingbodyref12_Fields.l0 kj3 a2 ([] : List (S53)) 0 a0_0 a0_1 l0_2 l1_0) = some r := by rw [if_neg (show ¬ (false = true) by decide)] at H; exact H
    clear H
    have H := H1
    clear H1
    have H' := za H
    clear H
    go_wp2
    go_loopg [7, 8] kj3 (fun kq v7 v8 w' => ∃ (x7_2 : List (S53)) (x8_2 : Int), v8 = .int .i64 x8_2 ∧ Aside0 (awardingbodyref12_Fields.l0 kq a2 x7_2 x8_2 a0_0 a0_1 l0_2 l1_0 = some r) ∧ Aside0 (kq ≤ kj3) ∧ Aside0 (Kd.R k53 53 w' w.heap.size (fun _ => True) v7 x7_2) ∧ Aside0 (w'.heap[gb551]? = some (.cells #[.int .i64 a0_0, .int .i64 a0_1, (.slice A0_2 l0_2.length c0_2)] 33 (0, 0))) ∧ Aside0 (w'.heap[gb552]? = some (.cells #[(.slice A1_0 l1_0.length c1_0)] 38 (0, 0))) ∧ Aside0 (Below w.heap.size w w'))
    case atStart => exact ⟨(([] : List (S53))), (0), (by first | rfl | (simp; done) | (simp [*]; done)), H', ⟨Nat.le_refl _⟩, ⟨by first | exact Kd.R_nil _ _ _ _ _ | exact Kd.N_nil _ _ _ _ _ | exact Kd.V_nil _ _ _ _ _ | exact Kd.Q_nil _ _ _ _ _ | exact Kd.S_nil _ _ _ _ _⟩, ⟨by (with_reducible repeat (first | refine blk_drewN ?_ _ | refine blk_drew ?_ | refine blk_alloc ?_ _)); exact BK551.out⟩, ⟨by (with_reducible repeat (first | refine blk_drewN ?_ _ | refine blk_drew ?_ | refine blk_alloc ?_ _)); exact BK552.out⟩, ⟨zm HB⟩⟩
    case round =>
     clear H'
     try clear c1
     try clear c2
     try clear p2
     try clear c8
     try clear c9
     try clear c9b0
     try clear c10
     try clear c14
     try clear c19
     try clear c23
     try clear hcz11_0
     try clear hcz11_1
     try clear hcz11_2
     try clear hcz12_0
     try clear hcz15_0
     try clear hcz15_1
     try clear hcz15_2
     try clear hcz16_0
     try clear hcz18_0
     try clear hcz20_0
     try clear hcz20_1
     try clear hcz20_2
     try clear hcz21_0
     try clear hfz11_0
     try clear hfz11_1
     try clear hfz11_2
     try clear hfz12_0
     try clear hfz15_0
     try clear hfz15_1
     try clear hfz15_2
     try clear hfz16_0
     try clear hfz18_0
     try clear hfz20_0
     try clear hfz20_1
     try clear hfz20_2
     try clear hfz21_0
     try clear p2
     obtain ⟨x7_2, x8_2, rfl, HA, HK2, HO_7, BK551, BK552, HB⟩ := hrel
     cases gk with
     | zero => exact absurd HA.out (by simp [awardingbodyref12_Fields.l0])
     | succ k2 =>
      have H := HA.out
      clear HA
      simp only [awardingbodyref12_Fields.l0] at H
      by_cases c24 : 0 ≤ a2
      ·rw [if_pos c24] at H
       have c24b0 : decide (0 ≤ a2) = true := decide_eq_true c24
       clear c24
       by_cases c25 : a2 < (l1_0.length : Int)
       ·rw [if_pos c25] at H
        have c25b0 : decide (a2 < (l1_0.length : Int)) = true := decide_eq_true c25
        clear c25
        by_cases c26 : x8_2 < ((rd_L2 l1_0 a2).length : Int)
        ·rw [if_pos c26] at H
         have c26b0 : decide (x8_2 < ((rd_L2 l1_0 a2).length : Int)) = true := decide_eq_true c26
         clear c26
         by_cases c27 : 0 ≤ x8_2
         ·rw [if_pos c27] at H
          have c27b0 : decide (0 ≤ x8_2) = true := decide_eq_true c27
          clear c27
          by_cases c28 : 0 ≤ (rd (rd_L2 l1_0 a2) x8_2)
          ·rw [if_pos c28] at H
           have c28b0 : decide (0 ≤ (rd (rd_L2 l1_0 a2) x8_2)) = true := decide_eq_true c28
           clear c28
           by_cases c29 : (rd (rd_L2 l1_0 a2) x8_2) < (l0_2.length : Int)
           ·rw [if_pos c29] at H
            have c29b0 : decide ((rd (rd_L2 l1_0 a2) x8_2) < (l0_2.length : Int)) = true := decide_eq_true c29
            clear c29
            by_cases c30 : ((rd_T23 l0_2 (rd (rd_L2 l1_0 a2) x8_2)).f0) = 2
            ·rw [if_pos c30] at H
             have c30b0 : (((rd_T23 l0_2 (rd (rd_L2 l1_0 a2) x8_2)).f0) == 2) = true := beq_iff_eq.mpr c30
             have c30b1 : (((rd_T23 l0_2 (rd (rd_L2 l1_0 a2) x8_2)).f0) != 2) = false := bne_eq_false_iff_eq.mpr c30
             clear c30
             have H' := za H
             clear H
             have hnb31 := NB552_551.out
             have hnc31 := NB551_552.out
             obtain ⟨hcz32_0, hfz32_0⟩ := z1 BK552
             have p554 : 0 ≤ (a2 : Int) := of_decide_eq_true (by first | (with_reducible assumption) | assumption)
             have q554 : a2 < (l1_0.length : Int) := of_decide_eq_true (by first | (with_reducible assumption) | assumption)
             obtain ⟨ad554, A554_0, c554_0, e554, hx554_0, hl554_0, hi554_0⟩ := at_L2 HR1_0.out a2 p554 q554
             cases e554
             replace hx554_0 := zx HB hx554_0
             have HR554_0 := za hi554_0
             have HC554_0 := za hl554_0
             clear hi554_0 hl554_0
             replace p554 := eq_true p554
             replace q554 := eq_true q554
             have p555 : 0 ≤ (a2 : Int) := of_decide_eq_true (by first | (with_reducible assumption) | assumption)
             have q555 : a2 < (l1_0.length : Int) := of_decide_eq_true (by first | (with_reducible assumption) | assumption)
             obtain ⟨ad555, A555_0, c555_0, e555, hx555_0, hl555_0, hi555_0⟩ := at_L2 HR1_0.out a2 p555 q555
             obtain rfl : ad554 = ad555 := (by injection e555)
             replace hx555_0 := zx HB hx555_0
             have HR555_0 := za hi555_0
             have HC555_0 := za hl555_0
             clear hi555_0 hl555_0
             replace p555 := eq_true p555
             replace q555 := eq_true q555
             have ea_ := Option.some.inj (hx554_0.symm.trans hx555_0)
             injection ea_ with ea_ en_ ec_
             subst ea_
             subst ec_
             clear en_
             have p556 : 0 ≤ (x8_2 : Int) := of_decide_eq_true (by first | (with_reducible assumption) | assumption)
             have q556 : x8_2 < ((rd_L2 l1_0 a2).length : Int) := of_decide_eq_true (by first | (with_reducible assumption) | assumption)
             obtain ⟨ad556, e556, hx556_0⟩ := Kd.at_int HR555_0.out x8_2 p556 q556
             cases e556
             replace hx556_0 := zx HB hx556_0
             replace p556 := eq_true p556
             replace q556 := eq_true q556
             obtain ⟨hcz33_0, hcz33_1, hcz33_2, hfz33_0, hfz33_1, hfz33_2⟩ := z3 BK551
             have p557 : 0 ≤ ((rd (rd_L2 l1_0 a2) x8_2) : Int) := of_decide_eq_true (by first | (with_reducible assumption) | assumption)
             have q557 : (rd (rd_L2 l1_0 a2) x8_2) < (l0_2.length : Int) := of_decide_eq_true (by first | (with_reducible assumption) | assumption)
             obtain ⟨ad557, e557, hx557_0, hx557_1, hx557_2, hx557_3, hx557_4, hx557_5⟩ := at_T23 HR0_2.out (rd (rd_L2 l1_0 a2) x8_2) p557 q557
             cases e557
             replace hx557_0 := zx HB hx557_0
             replace hx557_1 := zx HB hx557_1
             replace hx557_2 := zx HB hx557_2
             replace hx557_3 := zx HB hx557_3
             replace hx557_4 := zx HB hx557_4
             replace hx557_5 := zx HB hx557_5
             replace p557 := eq_true p557
             replace q557 := eq_true q557
             go_wp2
             go_loopg [7, 10] k2 (fun kq v7 v10 w' => ∃ (x7_3 : List (S53)) (x10_3 : Int), v10 = .int .i64 x10_3 ∧ Aside0 (awardingbodyref12_Fields.l1 kq a2 x7_3 x8_2 (rd (rd_L2 l1_0 a2) x8_2) x10_3 a0_0 a0_1 l0_2 l1_0 = some r) ∧ Aside0 (kq ≤ k2) ∧ Aside0 (Kd.R k53 53 w' w.heap.size (fun _ => True) v7 x7_3) ∧ Aside0 (w'.heap[gb551]? = some (.cells #[.int .i64 a0_0, .int .i64 a0_1, (.slice (some ad557) l0_2.length c0_2)] 33 (0, 0))) ∧ Aside0 (w'.heap[gb552]? = some (.cells #[(.slice (some ad554) l1_0.length c1_0)] 38 (0, 0))) ∧ Aside0 (Below w.heap.size w w'))
             case atStart => exact ⟨(x7_2), (0), (by first | rfl | (simp; done) | (simp [*]; done)), H', ⟨Nat.le_refl _⟩, ⟨by (with_reducible repeat (first | apply Kd.R_alloc | apply Kd.R_drewN | apply Kd.R_drew)); exact HO_7.out⟩, ⟨by (with_reducible repeat (first | refine blk_drewN ?_ _ | refine blk_drew ?_ | refine blk_alloc ?_ _)); exact BK551.out⟩, ⟨by (with_reducible repeat (first | refine blk_drewN ?_ _ | refine blk_drew ?_ | refine blk_alloc ?_ _)); exact BK552.out⟩, ⟨zm HB⟩⟩
             case round =>
              clear H'
              try clear c1
              try clear c2
              try clear p2
              try clear c3
              try clear c5
              try clear p5
              try clear q5
              try clear hx5
              try clear c8
              try clear c9
              try clear c9b0
              try clear c10
              try clear c14
              try clear c19
              try clear c23
              try clear c24
              try clear c24b0
              try clear c25
              try clear c25b0
              try clear c26
              try clear c26b0
              try clear c27
              try clear c27b0
              try clear c28
              try clear c28b0
              try clear c29
              try clear c29b0
              try clear c30
              try clear c30b0
              try clear c30b1
              try clear c31
              try clear hcz11_0
              try clear hcz11_1
              try clear hcz11_2
              try clear hcz12_0
              try clear hcz15_0
              try clear hcz15_1
              try clear hcz15_2
              try clear hcz16_0
              try clear hcz18_0
              try clear hcz20_0
              try clear hcz20_1
              try clear hcz20_2
              try clear hcz21_0
              try clear hcz32_0
              try clear hcz33_0
              try clear hcz33_1
              try clear hcz33_2
              try clear hfz11_0
              try clear hfz11_1
              try clear hfz11_2
              try clear hfz12_0
              try clear hfz15_0
              try clear hfz15_1
              try clear hfz15_2
              try clear hfz16_0
              try clear hfz18_0
              try clear hfz20_0
              try clear hfz20_1
              try clear hfz20_2
              try clear hfz21_0
              try clear hfz32_0
              try clear hfz33_0
              try clear hfz33_1
              try clear hfz33_2
              try clear hx554_0
              try clear hx555_0
              try clear hx556_0
              try clear hx557_0
              try clear hx557_1
              try clear hx557_2
              try clear hx557_3
              try clear hx557_4
              try clear hx557_5
              try clear p2
              try clear p554
              try clear p555
              try clear p556
              try clear p557
              try clear q554
              try clear q555
              try clear q556
              try clear q557
              obtain ⟨x7_3, x10_3, rfl, HA, HK3, HO_7, BK551, BK552, HB⟩ := hrel
              cases gk with
              | zero => exact absurd HA.out (by simp [awardingbodyref12_Fields.l1])
              | succ k3 =>
               have H := HA.out
               clear HA
               simp only [awardingbodyref12_Fields.l1] at H
               by_cases c34 : 0 ≤ (rd (rd_L2 l1_0 a2) x8_2)
               ·rw [if_pos c34] at H
                have c34b0 : decide (0 ≤ (rd (rd_L2 l1_0 a2) x8_2)) = true := decide_eq_true c34
                clear c34
                by_cases c35 : (rd (rd_L2 l1_0 a2) x8_2) < (l0_2.length : Int)
                ·rw [if_pos c35] at H
                 have c35b0 : decide ((rd (rd_L2 l1_0 a2) x8_2) < (l0_2.length : Int)) = true := decide_eq_true c35
                 clear c35
                 by_cases c36 : x10_3 < ((rd_T23 l0_2 (rd (rd_L2 l1_0 a2) x8_2)).f4)
                 ·rw [if_pos c36] at H
                  have c36b0 : decide (x10_3 < ((rd_T23 l0_2 (rd (rd_L2 l1_0 a2) x8_2)).f4)) = true := decide_eq_true c36
                  clear c36
                  by_cases c37 : x7_3.length < 8796093022208
                  ·rw [if_pos c37] at H
                   have LMc37 := za c37
                   clear c37
                   obtain ⟨y559, hy559⟩ : ∃ y_ : List (S53), y_ = (x7_3 ++ [(⟨(rd (rd_L2 l1_0 a2) x8_2), x10_3⟩ : S53)]) := ⟨_, rfl⟩
                   replace H : (awardingbodyref12_Fields.l1 k3 a2 y559 x8_2 (rd (rd_L2 l1_0 a2) x8_2) (wrap64 (x10_3 + 1)) a0_0 a0_1 l0_2 l1_0) = some r := by first | (rw [hy559]; with_reducible exact H) | (have H2_ := (Option.bind_some _ _).symm.trans H; rw [hy559]; with_reducible exact H2_) | (have H2_ := (Option.bind_some _ _).symm.trans H; with_reducible exact H2_) | with_reducible exact H | (rw [hy559]; exact H) | exact H
                   have Ny559 := za hy559
                   clear hy559
                   have H' := za H
                   clear H
                   have hnb38 := NB551_552.out
                   have hnc38 := NB552_551.out
                   obtain ⟨hcz39_0, hcz39_1, hcz39_2, hfz39_0, hfz39_1, hfz39_2⟩ := z3 BK551
                   have p558 : 0 ≤ ((rd (rd_L2 l1_0 a2) x8_2) : Int) := of_decide_eq_true (by first | (with_reducible assumption) | assumption)
                   have q558 : (rd (rd_L2 l1_0 a2) x8_2) < (l0_2.length : Int) := of_decide_eq_true (by first | (with_reducible assumption) | assumption)
                   obtain ⟨ad558, e558, hx558_0, hx558_1, hx558_2, hx558_3, hx558_4, hx558_5⟩ := at_T23 HR0_2.out (rd (rd_L2 l1_0 a2) x8_2) p558 q558
                   obtain rfl : ad557 = ad558 := (by injection e558)
                   replace hx558_0 := zx HB hx558_0
                   replace hx558_1 := zx HB hx558_1
                   replace hx558_2 := zx HB hx558_2
                   replace hx558_3 := zx HB hx558_3
                   replace hx558_4 := zx HB hx558_4
                   replace hx558_5 := zx HB hx558_5
                   replace p558 := eq_true p558
                   replace q558 := eq_true q558
                   go_wp2_with (first | ((with_reducible refine gate_builtin (b := .append) (xs := #[.tmp 61, .tmp 65]) rfl ?_); (try (refine gate_guard (by rfl) ?_; dsimp only)); at_builtin; refine Kd.R_append k53 (w0 := w) w.heap.size rfl (.tmp 61) (.tmp 65) 50 53 (.agg #[(.int .i64 0), (.int .i64 0)]) 16 rfl Try.underlying50 info53 rfl (by decide) (by omega) u7 x7_3 (⟨(rd (rd_L2 l1_0 a2) x8_2), x10_3⟩ : S53) [.int .i64 (rd (rd_L2 l1_0 a2) x8_2), .int .i64 x10_3] (fun _ => True) (fun _ => False) rfl rfl ?aP (fun _ hk => hk.elim) ?aF ?aO ?aB ?aS ?aL ?_; (case aP => exact k53_mkM _ _ _ (⟨(rd (rd_L2 l1_0 a2) x8_2), x10_3⟩ : S53)); (case aB => exact (zm HB)); (case aF => exact (fun _ _ => trivial)); (case aO => exact (by (with_reducible repeat (first | apply Kd.R_alloc | apply Kd.R_drewN | apply Kd.R_drew)); exact HO_7.out)); (case aS => exact (below_size (zm HB))); (case aL => have := LMc37.out; omega); intro v560 w40 ho hb hg hat; rw [← Ny559.out] at ho; have HO561 := za (ho); replace BK551 := (zw BK551 hg (Kd.R_ne HO_7.out BK551.out (by decide))); replace BK552 := (zw BK552 hg (Kd.R_ne HO_7.out BK552.out (by decide))); replace HB := za (hb); clear HO_7 ho hb hg hat))
                   go_roundg k3
                   case measure => have := HJ3.out; have := HK2.out; have := HK3.out; omega
                   case rel => exact ⟨(y559), (wrap64 (x10_3 + 1)), (by first | rfl | (simp; done) | (simp [*]; done)), H', ⟨by have := HJ3.out; have := HK2.out; have := HK3.out; omega⟩, ⟨by (with_reducible repeat (first | apply Kd.R_alloc | apply Kd.R_drewN | apply Kd.R_drew)); exact HO561.out⟩, ⟨by (with_reducible repeat (first | refine blk_drewN ?_ _ | refine blk_drew ?_ | refine blk_alloc ?_ _)); exact BK551.out⟩, ⟨by (with_reducible repeat (first | refine blk_drewN ?_ _ | refine blk_drew ?_ | refine blk_alloc ?_ _)); exact BK552.out⟩, ⟨zm HB⟩⟩
                  ·rw [if_neg c37] at H
                   exact absurd H (by simp)
                 ·rw [if_neg c36] at H
                  have c36b0 : decide (x10_3 < ((rd_T23 l0_2 (rd (rd_L2 l1_0 a2) x8_2)).f4)) = false := decide_eq_false c36
                  clear c36
                  have H' := za H
                  clear H
                  have hnb41 := NB551_552.out
                  have hnc41 := NB552_551.out
                  obtain ⟨hcz42_0, hcz42_1, hcz42_2, hfz42_0, hfz42_1, hfz42_2⟩ := z3 BK551
                  have p558 : 0 ≤ ((rd (rd_L2 l1_0 a2) x8_2) : Int) := of_decide_eq_true (by first | (with_reducible assumption) | assumption)
                  have q558 : (rd (rd_L2 l1_0 a2) x8_2) < (l0_2.length : Int) := of_decide_eq_true (by first | (with_reducible assumption) | assumption)
                  obtain ⟨ad558, e558, hx558_0, hx558_1, hx558_2, hx558_3, hx558_4, hx558_5⟩ := at_T23 HR0_2.out (rd (rd_L2 l1_0 a2) x8_2) p558 q558
                  obtain rfl : ad557 = ad558 := (by injection e558)
                  replace hx558_0 := zx HB hx558_0
                  replace hx558_1 := zx HB hx558_1
                  replace hx558_2 := zx HB hx558_2
                  replace hx558_3 := zx HB hx558_3
                  replace hx558_4 := zx HB hx558_4
                  replace hx558_5 := zx HB hx558_5
                  replace p558 := eq_true p558
                  replace q558 := eq_true q558
                  go_wp2
                  go_roundg k3
                  case measure => have := HJ3.out; have := HK2.out; have := HK3.out; omega
                  case rel => exact ⟨(x7_3), (wrap64 (x8_2 + 1)), (by first | rfl | (simp; done) | (simp [*]; done)), H', ⟨by have := HJ3.out; have := HK2.out; have := HK3.out; omega⟩, ⟨by (with_reducible repeat (first | apply Kd.R_alloc | apply Kd.R_drewN | apply Kd.R_drew)); exact HO_7.out⟩, ⟨by (with_reducible repeat (first | refine blk_drewN ?_ _ | refine blk_drew ?_ | refine blk_alloc ?_ _)); exact BK551.out⟩, ⟨by (with_reducible repeat (first | refine blk_drewN ?_ _ | refine blk_drew ?_ | refine blk_alloc ?_ _)); exact BK552.out⟩, ⟨zm HB⟩⟩
                ·rw [if_neg c35] at H
                 exact absurd H (by simp)
               ·rw [if_neg c34] at H
                exact absurd H (by simp)
            ·rw [if_neg c30] at H
             have c30b0 : (((rd_T23 l0_2 (rd (rd_L2 l1_0 a2) x8_2)).f0) == 2) = false := beq_eq_false_iff_ne.mpr c30
             have c30b1 : (((rd_T23 l0_2 (rd (rd_L2 l1_0 a2) x8_2)).f0) != 2) = true := bne_iff_ne.mpr c30
             have H' := za H
             clear H
             have hnb43 := NB552_551.out
             have hnc43 := NB551_552.out
             obtain ⟨hcz44_0, hfz44_0⟩ := z1 BK552
             have p554 : 0 ≤ (a2 : Int) := of_decide_eq_true (by first | (with_reducible assumption) | assumption)
             have q554 : a2 < (l1_0.length : Int) := of_decide_eq_true (by first | (with_reducible assumption) | assumption)
             obtain ⟨ad554, A554_0, c554_0, e554, hx554_0, hl554_0, hi554_0⟩ := at_L2 HR1_0.out a2 p554 q554
             cases e554
             replace hx554_0 := zx HB hx554_0
             have HR554_0 := za hi554_0
             have HC554_0 := za hl554_0
             clear hi554_0 hl554_0
             replace p554 := eq_true p554
             replace q554 := eq_true q554
             have p555 : 0 ≤ (a2 : Int) := of_decide_eq_true (by first | (with_reducible assumption) | assumption)
             have q555 : a2 < (l1_0.length : Int) := of_decide_eq_true (by first | (with_reducible assumption) | assumption)
             obtain ⟨ad555, A555_0, c555_0, e555, hx555_0, hl555_0, hi555_0⟩ := at_L2 HR1_0.out a2 p555 q555
             obtain rfl : ad554 = ad555 := (by injection e555)
             replace hx555_0 := zx HB hx555_0
             have HR555_0 := za hi555_0
             have HC555_0 := za hl555_0
             clear hi555_0 hl555_0
             replace p555 := eq_true p555
             replace q555 := eq_true q555
             have ea_ := Option.some.inj (hx554_0.symm.trans hx555_0)
             injection ea_ with ea_ en_ ec_
             subst ea_
             subst ec_
             clear en_
             have p556 : 0 ≤ (x8_2 : Int) := of_decide_eq_true (by first | (with_reducible assumption) | assumption)
             have q556 : x8_2 < ((rd_L2 l1_0 a2).length : Int) := of_decide_eq_true (by first | (with_reducible assumption) | assumption)
             obtain ⟨ad556, e556, hx556_0⟩ := Kd.at_int HR555_0.out x8_2 p556 q556
             cases e556
             replace hx556_0 := zx HB hx556_0
             replace p556 := eq_true p556
             replace q556 := eq_true q556
             obtain ⟨hcz45_0, hcz45_1, hcz45_2, hfz45_0, hfz45_1, hfz45_2⟩ := z3 BK551
             have p557 : 0 ≤ ((rd (rd_L2 l1_0 a2) x8_2) : Int) := of_decide_eq_true (by first | (with_reducible assumption) | assumption)
             have q557 : (rd (rd_L2 l1_0 a2) x8_2) < (l0_2.length : Int) := of_decide_eq_true (by first | (with_reducible assumption) | assumption)
             obtain ⟨ad557, e557, hx557_0, hx557_1, hx557_2, hx557_3, hx557_4, hx557_5⟩ := at_T23 HR0_2.out (rd (rd_L2 l1_0 a2) x8_2) p557 q557
             cases e557
             replace hx557_0 := zx HB hx557_0
             replace hx557_1 := zx HB hx557_1
             replace hx557_2 := zx HB hx557_2
             replace hx557_3 := zx HB hx557_3
             replace hx557_4 := zx HB hx557_4
             replace hx557_5 := zx HB hx557_5
             replace p557 := eq_true p557
             replace q557 := eq_true q557
             go_wp2
             go_roundg k2
             case measure => have := HJ3.out; have := HK2.out; omega
             case rel => exact ⟨(x7_2), (wrap64 (x8_2 + 1)), (by first | rfl | (simp; done) | (simp [*]; done)), H', ⟨by have := HJ3.out; have := HK2.out; omega⟩, ⟨by (with_reducible repeat (first | apply Kd.R_alloc | apply Kd.R_drewN | apply Kd.R_drew)); exact HO_7.out⟩, ⟨by (with_reducible repeat (first | refine blk_drewN ?_ _ | refine blk_drew ?_ | refine blk_alloc ?_ _)); exact BK551.out⟩, ⟨by (with_reducible repeat (first | refine blk_drewN ?_ _ | refine blk_drew ?_ | refine blk_alloc ?_ _)); exact BK552.out⟩, ⟨zm HB⟩⟩
           ·rw [if_neg c29] at H
            exact absurd H (by simp)
          ·rw [if_neg c28] at H
           exact absurd H (by simp)
         ·rw [if_neg c27] at H
          exact absurd H (by simp)
        ·rw [if_neg c26] at H
         have c26b0 : decide (x8_2 < ((rd_L2 l1_0 a2).length : Int)) = false := decide_eq_false c26
         clear c26
         obtain rfl := Option.some.inj H
         have hnb46 := NB552_551.out
         have hnc46 := NB551_552.out
         obtain ⟨hcz47_0, hfz47_0⟩ := z1 BK552
         have p554 : 0 ≤ (a2 : Int) := of_decide_eq_true (by first | (with_reducible assumption) | assumption)
         have q554 : a2 < (l1_0.length : Int) := of_decide_eq_true (by first | (with_reducible assumption) | assumption)
         obtain ⟨ad554, A554_0, c554_0, e554, hx554_0, hl554_0, hi554_0⟩ := at_L2 HR1_0.out a2 p554 q554
         cases e554
         replace hx554_0 := zx HB hx554_0
         have HR554_0 := za hi554_0
         have HC554_0 := za hl554_0
         clear hi554_0 hl554_0
         replace p554 := eq_true p554
         replace q554 := eq_true q554
         go_wp2
         go_ret
         exact ⟨_, zf, by (with_reducible repeat (first | apply Kd.R_alloc | apply Kd.R_drewN | apply Kd.R_drew)); exact HO_7.out, zm HB⟩
       ·rw [if_neg c25] at H
        exact absurd H (by simp)
      ·rw [if_neg c24] at H
       exact absurd H (by simp)

end Go.Proofs.Ytdmlbgdefapcjaa.Print
