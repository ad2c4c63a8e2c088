-- Printed by a program of this session (wip/own_print.py) out of the translation; Lean checks it.
import Derived.Test.YthbmpjglkbhhgaaShort
import Derived.Laws.IdiomCopy
import Derived.Test.YthbmpjglkbhhgaaPrint0
import Derived.Test.YthbmpjglkbhhgaaPrint3
namespace Go.Proofs.Ythbmpjglkbhhgaa.Print
open Go.RowKit Go.Proofs.YthbmpjglkbhhgaaW.PrintWords Go.Proofs.YthbmpjglkbhhgaaW.PrintLast Go.Proofs.YthbmpjglkbhhgaaW.PrintMore
attribute [local go_sem] max2_int min2_int max_two min_two max_three min_three max_four min_four   -- for this text's walks alone
set_option linter.unusedVariables false
set_option linter.unusedSimpArgs false

/-! ### booklet_Fields: function 36 -/
mutual
def booklet_Fields.j0 : Nat → Int → Bool → Int → Int → List (S65) → List (List Int) → Option ((List (S46)))
  | 0, _, _, _, _, _, _ => none
  | k + 1, x2, x25, x231000, x231001, x231002, x232000 => if x25 = true then (some ([] : List (S46))) else (if 0 ≤ x2 then (if x2 < (x232000.length : Int) then (booklet_Fields.l0 k ([] : List (S46)) (rd_L2 x232000 x2) ((rd_L2 x232000 x2).length : Int) 0 x231000 x231001 x231002) else (none)) else (none))
def booklet_Fields.l0 : Nat → List (S46) → List Int → Int → Int → Int → Int → List (S65) → Option ((List (S46)))
  | 0, _, _, _, _, _, _, _ => none
  | k + 1, x7, x30, x31, x32, x231000, x231001, x231002 => if x32 < x31 then (if 0 ≤ x32 then (if x32 < (x30.length : Int) then (if 0 ≤ (rd x30 x32) then (if (rd x30 x32) < (x231002.length : Int) then (booklet_Fields.l1 k x7 (rd x30 x32) x30 x31 x32 ((rd_T65 x231002 (rd x30 x32)).f4) 0 x231000 x231001 x231002) else (none)) else (none)) else (none)) else (none)) else (some x7)
def booklet_Fields.l1 : Nat → List (S46) → Int → List Int → Int → Int → Int → Int → Int → Int → List (S65) → Option ((List (S46)))
  | 0, _, _, _, _, _, _, _, _, _, _ => none
  | k + 1, x7, x9, x30, x31, x32, x41, x42, x231000, x231001, x231002 => if x42 < x41 then (if x7.length < 8796093022208 then (booklet_Fields.l1 k (x7 ++ [(⟨x9, x42⟩ : S46)]) x9 x30 x31 x32 x41 (wrap64 (x42 + 1)) x231000 x231001 x231002) else (none)) else (booklet_Fields.l0 k x7 x30 x31 (wrap64 (x32 + 1)) x231000 x231001 x231002)
end
def booklet_Fields.f (k : Nat) (a0_0 : Int) (a0_1 : Int) (l0_2 : List (S65)) (l1_0 : List (List Int)) (a2 : Int) : Option ((List (S46))) := (booklet_Valid.f k a0_0 a0_1 l0_2 l1_0).bind fun t232 => (if t232 = true then (if a2 < 0 then (booklet_Fields.j0 k a2 true a0_0 a0_1 l0_2 l1_0) else (booklet_Fields.j0 k a2 (decide (a2 ≥ (l1_0.length : Int))) a0_0 a0_1 l0_2 l1_0)) else (booklet_Fields.j0 k a2 true a0_0 a0_1 l0_2 l1_0))
theorem booklet_Fields.mono_l : ∀ k, (∀ y0 y1 y2 y3 y4 y5, LeO (booklet_Fields.j0 k y0 y1 y2 y3 y4 y5) (booklet_Fields.j0 (k + 1) y0 y1 y2 y3 y4 y5)) ∧ (∀ y0 y1 y2 y3 y4 y5 y6, LeO (booklet_Fields.l0 k y0 y1 y2 y3 y4 y5 y6) (booklet_Fields.l0 (k + 1) y0 y1 y2 y3 y4 y5 y6)) ∧ (∀ y0 y1 y2 y3 y4 y5 y6 y7 y8 y9, LeO (booklet_Fields.l1 k y0 y1 y2 y3 y4 y5 y6 y7 y8 y9) (booklet_Fields.l1 (k + 1) y0 y1 y2 y3 y4 y5 y6 y7 y8 y9))
  | 0 => ⟨fun _ _ _ _ _ _ r h => by simp [booklet_Fields.j0] at h, fun _ _ _ _ _ _ _ r h => by simp [booklet_Fields.l0] at h, fun _ _ _ _ _ _ _ _ _ _ r h => by simp [booklet_Fields.l1] at h⟩
  | k + 1 => by
    obtain ⟨ih0, ih1, ih2⟩ := booklet_Fields.mono_l k
    refine ⟨?_, ?_, ?_⟩
    · intro y0 y1 y2 y3 y4 y5
      unfold booklet_Fields.j0
      repeat' first
      | (with_reducible exact ih0 _ _ _ _ _ _)
      | (with_reducible exact ih1 _ _ _ _ _ _ _)
      | (with_reducible exact ih2 _ _ _ _ _ _ _ _ _ _)
      | (with_reducible exact booklet_Valid.mono _ _ _ _ _)
      | (with_reducible exact LeO.refl _)
      | (with_reducible exact LeO.none _)
      | (with_reducible refine LeO.ite ?_ ?_)
      | (with_reducible refine LeO.bind ?_ (fun _ => ?_))
      | exact ih0 _ _ _ _ _ _
      | exact ih1 _ _ _ _ _ _ _
      | exact ih2 _ _ _ _ _ _ _ _ _ _
      | exact booklet_Valid.mono _ _ _ _ _
      | exact LeO.none _
      | refine LeO.ite ?_ ?_
      | refine LeO.bind ?_ (fun _ => ?_)
    · intro y0 y1 y2 y3 y4 y5 y6
      unfold booklet_Fields.l0
      repeat' first
      | (with_reducible exact ih0 _ _ _ _ _ _)
      | (with_reducible exact ih1 _ _ _ _ _ _ _)
      | (with_reducible exact ih2 _ _ _ _ _ _ _ _ _ _)
      | (with_reducible exact booklet_Valid.mono _ _ _ _ _)
      | (with_reducible exact LeO.refl _)
      | (with_reducible exact LeO.none _)
      | (with_reducible refine LeO.ite ?_ ?_)
      | (with_reducible refine LeO.bind ?_ (fun _ => ?_))
      | exact ih0 _ _ _ _ _ _
      | exact ih1 _ _ _ _ _ _ _
      | exact ih2 _ _ _ _ _ _ _ _ _ _
      | exact booklet_Valid.mono _ _ _ _ _
      | exact LeO.none _
      | refine LeO.ite ?_ ?_
      | refine LeO.bind ?_ (fun _ => ?_)
    · intro y0 y1 y2 y3 y4 y5 y6 y7 y8 y9
      unfold booklet_Fields.l1
      repeat' first
      | (with_reducible exact ih0 _ _ _ _ _ _)
      | (with_reducible exact ih1 _ _ _ _ _ _ _)
      | (with_reducible exact ih2 _ _ _ _ _ _ _ _ _ _)
      | (with_reducible exact booklet_Valid.mono _ _ _ _ _)
      | (with_reducible exact LeO.refl _)
      | (with_reducible exact LeO.none _)
      | (with_reducible refine LeO.ite ?_ ?_)
      | (with_reducible refine LeO.bind ?_ (fun _ => ?_))
      | exact ih0 _ _ _ _ _ _
      | exact ih1 _ _ _ _ _ _ _
      | exact ih2 _ _ _ _ _ _ _ _ _ _
      | exact booklet_Valid.mono _ _ _ _ _
      | exact LeO.none _
      | refine LeO.ite ?_ ?_
      | refine LeO.bind ?_ (fun _ => ?_)
theorem booklet_Fields.mono : ∀ a0 a1 a2 a3 a4 k, LeO (booklet_Fields.f k a0 a1 a2 a3 a4) (booklet_Fields.f (k + 1) a0 a1 a2 a3 a4) := by
  intro a0 a1 a2 a3 a4 k
  obtain ⟨ih0, ih1, ih2⟩ := booklet_Fields.mono_l k
  unfold booklet_Fields.f
  repeat' first
      | (with_reducible exact ih0 _ _ _ _ _ _)
      | (with_reducible exact ih1 _ _ _ _ _ _ _)
      | (with_reducible exact ih2 _ _ _ _ _ _ _ _ _ _)
      | (with_reducible exact booklet_Valid.mono _ _ _ _ _)
      | (with_reducible exact LeO.refl _)
      | (with_reducible exact LeO.none _)
      | (with_reducible refine LeO.ite ?_ ?_)
      | (with_reducible refine LeO.bind ?_ (fun _ => ?_))
      | exact ih0 _ _ _ _ _ _
      | exact ih1 _ _ _ _ _ _ _
      | exact ih2 _ _ _ _ _ _ _ _ _ _
      | exact booklet_Valid.mono _ _ _ _ _
      | exact LeO.none _
      | refine LeO.ite ?_ ?_
      | refine LeO.bind ?_ (fun _ => ?_)
set_option maxHeartbeats 8000000 in
set_option maxRecDepth 100000 in
theorem booklet_Fields.calls (k : Nat) (a0_0 : Int) (a0_1 : Int) (A0_2 : Option Addr) (c0_2 : Nat) (l0_2 : List (S65)) (A1_0 : Option Addr) (c1_0 : Nat) (l1_0 : List (List Int)) (a2 : Int) (r : List (S46)) (w : World) (hr0_2 : Kd.C k65 w A0_2 l0_2.length l0_2) (hc0_2 : l0_2.length ≤ c0_2) (hr1_0 : Kd.C (Kd.slice 3 (Kd.int .i64)) w A1_0 l1_0.length l1_0) (hc1_0 : l1_0.length ≤ c1_0) (h : booklet_Fields.f k a0_0 a0_1 l0_2 l1_0 a2 = some r) :
    Calls Try.prog 36 #[.agg #[.int .i64 a0_0, .int .i64 a0_1, .slice A0_2 l0_2.length c0_2], .agg #[.slice A1_0 l1_0.length c1_0], .int .i64 a2] w fun e w' => ∃ v0_ : Value, e = .returned (v0_) ∧ Kd.R k46 46 w' w.heap.size (fun _ => True) v0_ r ∧ Below w.heap.size w w' := by
 have hu53 := Try.underlying53
 have hu56 := Try.underlying56
 have hu46 := Try.underlying46
 have HR0_2 := za hr0_2
 have HC0_2 := za hc0_2
 clear hr0_2 hc0_2
 have HR1_0 := za hr1_0
 have HC1_0 := za hc1_0
 clear hr1_0 hc1_0
 have HB := za (Below.refl w.heap.size w)
 have H : ((booklet_Valid.f k a0_0 a0_1 l0_2 l1_0).bind fun t232 => (if t232 = true then (if a2 < 0 then (booklet_Fields.j0 k a2 true a0_0 a0_1 l0_2 l1_0) else (booklet_Fields.j0 k a2 (decide (a2 ≥ (l1_0.length : Int))) a0_0 a0_1 l0_2 l1_0)) else (booklet_Fields.j0 k a2 true a0_0 a0_1 l0_2 l1_0))) = some r := h
 clear h
 have HC4 := za H
 clear H
 go_enter Try.func36, Try.ntmps36
 go_upto_region 1 with (first | ((with_reducible refine gate_dst (N := 3) rfl ?_); (try (refine gate_guard (by rfl) ?_; dsimp only)); refine zE 3 #[.int .i64 a0_0, .int .i64 a0_1, .slice A0_2 l0_2.length c0_2] 53 ?_; intro gb230 hg w5 hbox hb; have BK230 := za (hbox); have GW230 := zg HB hg; have GE230 := zg HB hg; replace HB := zs HB hb; clear hb hbox hg) | ((with_reducible refine gate_dst (N := 4) rfl ?_); (try (refine gate_guard (by rfl) ?_; dsimp only)); refine zE 4 #[.slice A1_0 l1_0.length c1_0] 56 ?_; intro gb231 hg w6 hbox hb; have BK231 := za (hbox); have GW231 := zg HB hg; have GE231 := zg HB hg; have NB230_231 := zl BK230 hg; have NB231_230 := zr BK230 hg; replace BK230 := zb BK230 hb; replace HB := zs HB hb; clear hb hbox hg))
 (try simp only [Act.put, List.setIfInBounds_toArray, List.set_cons_zero, List.set_cons_succ])
 go_cut [25] (fun v25 wc => ∃ (kq : Nat) (x25_3 : Bool), v25 = .bool x25_3 ∧ Aside0 (booklet_Fields.j0 kq a2 x25_3 a0_0 a0_1 l0_2 l1_0 = some r) ∧ Aside0 (kq ≤ k) ∧ Aside0 (wc.heap[gb230]? = some (.cells #[.int .i64 a0_0, .int .i64 a0_1, (.slice A0_2 l0_2.length c0_2)] 53 (0, 0))) ∧ Aside0 (wc.heap[gb231]? = some (.cells #[(.slice A1_0 l1_0.length c1_0)] 56 (0, 0))) ∧ Aside0 (Below w.heap.size w wc))
 case first =>
  have H := HC4.out
  clear HC4
  replace H := Option.bind_eq_some_iff.mp H
  obtain ⟨t232, A70, H⟩ := H
  replace H : (if t232 = true then (if a2 < 0 then (booklet_Fields.j0 k a2 true a0_0 a0_1 l0_2 l1_0) else (booklet_Fields.j0 k a2 (decide (a2 ≥ (l1_0.length : Int))) a0_0 a0_1 l0_2 l1_0)) else (booklet_Fields.j0 k a2 true a0_0 a0_1 l0_2 l1_0)) = some r := H
  have A7 := za A70
  clear A70
  by_cases c8 : t232 = true
  ·subst c8
   have H1 : (if a2 < 0 then (booklet_Fields.j0 k a2 true a0_0 a0_1 l0_2 l1_0) else (booklet_Fields.j0 k a2 (decide (a2 ≥ (l1_0.length : Int))) a0_0 a0_1 l0_2 l1_0)) = some r := by rw [if_pos rfl] at H; exact H
   clear H
   have H := H1
   clear H1
   by_cases c9 : a2 < 0
   ·rw [if_pos c9] at H
    have c9b0 : decide (a2 < 0) = true := decide_eq_true c9
    clear c9
    (first | rw [c9b0] | (simp only [i64_w, i32_w]; rw [c9b0]) | skip)
    have H' := za H
    clear H
    have hnb10 := NB230_231.out
    have hnc10 := NB231_230.out
    obtain ⟨hcz11_0, hcz11_1, hcz11_2, hfz11_0, hfz11_1, hfz11_2⟩ := z3 BK230
    obtain ⟨hcz12_0, hfz12_0⟩ := z1 BK231
    go_wp2_with (first | ((with_reducible refine gate_callee (f := 53) rfl ?_); refine zL (some 13) Try.func53 #[.agg #[.int .i64 a0_0, .int .i64 a0_1, .slice A0_2 l0_2.length c0_2], .agg #[.slice A1_0 l1_0.length c1_0]] ?_; (with_reducible refine (booklet_Valid.calls k a0_0 a0_1 _ _ l0_2 _ _ l1_0 true _ ?side1 ?side2 ?side3 ?side4 A7.out).mono ?_); (case side1 => exact zC HR0_2 HB); (case side2 => exact HC0_2.out); (case side3 => exact zC HR1_0 HB); (case side4 => exact HC1_0.out); rintro e w13 ⟨rfl, hb⟩; refine ⟨_, rfl, ?_⟩; replace BK230 := zb BK230 hb; replace BK231 := zb BK231 hb; replace HB := zs HB hb; (try clear hb); (try clear hb2); (try clear hk); (try clear hi)))
    go_meet
    case rel => exact ⟨_, (true), (by first | rfl | (simp; done) | (simp [*]; done)), H', ⟨by first | omega | exact Nat.le_refl _⟩, ⟨by (with_reducible repeat (first | refine blk_drewN ?_ _ | refine blk_drew ?_ | refine blk_alloc ?_ _)); exact BK230.out⟩, ⟨by (with_reducible repeat (first | refine blk_drewN ?_ _ | refine blk_drew ?_ | refine blk_alloc ?_ _)); exact BK231.out⟩, ⟨zm HB⟩⟩
   ·rw [if_neg c9] at H
    have c9b0 : decide (a2 < 0) = false := decide_eq_false c9
    clear c9
    (first | rw [c9b0] | (simp only [i64_w, i32_w]; rw [c9b0]) | skip)
    have H' := za H
    clear H
    have hnb14 := NB230_231.out
    have hnc14 := NB231_230.out
    obtain ⟨hcz15_0, hcz15_1, hcz15_2, hfz15_0, hfz15_1, hfz15_2⟩ := z3 BK230
    obtain ⟨hcz16_0, hfz16_0⟩ := z1 BK231
    go_wp2_with (first | ((with_reducible refine gate_callee (f := 53) rfl ?_); refine zL (some 13) Try.func53 #[.agg #[.int .i64 a0_0, .int .i64 a0_1, .slice A0_2 l0_2.length c0_2], .agg #[.slice A1_0 l1_0.length c1_0]] ?_; (with_reducible refine (booklet_Valid.calls k a0_0 a0_1 _ _ l0_2 _ _ l1_0 true _ ?side1 ?side2 ?side3 ?side4 A7.out).mono ?_); (case side1 => exact zC HR0_2 HB); (case side2 => exact HC0_2.out); (case side3 => exact zC HR1_0 HB); (case side4 => exact HC1_0.out); rintro e w17 ⟨rfl, hb⟩; refine ⟨_, rfl, ?_⟩; replace BK230 := zb BK230 hb; replace BK231 := zb BK231 hb; replace HB := zs HB hb; (try clear hb); (try clear hb2); (try clear hk); (try clear hi); obtain ⟨hcz18_0, hfz18_0⟩ := z1 BK231))
    go_meet
    case rel => exact ⟨_, (decide (a2 ≥ (l1_0.length : Int))), (by first | rfl | (simp; done) | (simp [*]; done)), H', ⟨by first | omega | exact Nat.le_refl _⟩, ⟨by (with_reducible repeat (first | refine blk_drewN ?_ _ | refine blk_drew ?_ | refine blk_alloc ?_ _)); exact BK230.out⟩, ⟨by (with_reducible repeat (first | refine blk_drewN ?_ _ | refine blk_drew ?_ | refine blk_alloc ?_ _)); exact BK231.out⟩, ⟨zm HB⟩⟩
  ·replace c8 := Bool.eq_false_iff.mpr c8
   subst c8
   have H1 : (booklet_Fields.j0 k a2 true a0_0 a0_1 l0_2 l1_0) = some r := by rw [if_neg (show ¬ (false = true) by decide)] at H; exact H
   clear H
   have H := H1
   clear H1
   have H' := za H
   clear H
   have hnb19 := NB230_231.out
   have hnc19 := NB231_230.out
   obtain ⟨hcz20_0, hcz20_1, hcz20_2, hfz20_0, hfz20_1, hfz20_2⟩ := z3 BK230
   obtain ⟨hcz21_0, hfz21_0⟩ := z1 BK231
   go_wp2_with (first | ((with_reducible refine gate_callee (f := 53) rfl ?_); refine zL (some 13) Try.func53 #[.agg #[.int .i64 a0_0, .int .i64 a0_1, .slice A0_2 l0_2.length c0_2], .agg #[.slice A1_0 l1_0.length c1_0]] ?_; (with_reducible refine (booklet_Valid.calls k a0_0 a0_1 _ _ l0_2 _ _ l1_0 false _ ?side1 ?side2 ?side3 ?side4 A7.out).mono ?_); (case side1 => exact zC HR0_2 HB); (case side2 => exact HC0_2.out); (case side3 => exact zC HR1_0 HB); (case side4 => exact HC1_0.out); rintro e w22 ⟨rfl, hb⟩; refine ⟨_, rfl, ?_⟩; replace BK230 := zb BK230 hb; replace BK231 := zb BK231 hb; replace HB := zs HB hb; (try clear hb); (try clear hb2); (try clear hk); (try clear hi)))
   go_meet
   case rel => exact ⟨_, (true), (by first | rfl | (simp; done) | (simp [*]; done)), H', ⟨by first | omega | exact Nat.le_refl _⟩, ⟨by (with_reducible repeat (first | refine blk_drewN ?_ _ | refine blk_drew ?_ | refine blk_alloc ?_ _)); exact BK230.out⟩, ⟨by (with_reducible repeat (first | refine blk_drewN ?_ _ | refine blk_drew ?_ | refine blk_alloc ?_ _)); exact BK231.out⟩, ⟨zm HB⟩⟩
 case rest =>
  clear HC4
  try clear c1
  try clear p2
  try clear c3
  try clear c5
  try clear c8
  try clear c9
  try clear c9b0
  try clear c10
  try clear c14
  try clear c19
  try clear hcz11_0
  try clear hcz11_1
  try clear hcz11_2
  try clear hcz12_0
  try clear hcz15_0
  try clear hcz15_1
  try clear hcz15_2
  try clear hcz16_0
  try clear hcz18_0
  try clear hcz20_0
  try clear hcz20_1
  try clear hcz20_2
  try clear hcz21_0
  try clear hfz11_0
  try clear hfz11_1
  try clear hfz11_2
  try clear hfz12_0
  try clear hfz15_0
  try clear hfz15_1
  try clear hfz15_2
  try clear hfz16_0
  try clear hfz18_0
  try clear hfz20_0
  try clear hfz20_1
  try clear hfz20_2
  try clear hfz21_0
  obtain ⟨kq, x25_3, rfl, HA, HJ3, BK230, BK231, HB⟩ := hcut
  cases kq with
  | zero => exact absurd HA.out (by simp [booklet_Fields.j0])
  | succ kj3 =>
   have H := HA.out
   clear HA
   simp only [booklet_Fields.j0] at H
   by_cases c23 : x25_3 = true
   ·subst c23
    have H1 : (some ([] : List (S46))) = some r := by rw [if_pos rfl] at H; exact H
    clear H
    have H := H1
    clear H1
    obtain rfl := Option.some.inj H
    go_wp2
    go_ret
    exact ⟨_, zf, by first | exact Kd.R_nil _ _ _ _ _ | exact Kd.N_nil _ _ _ _ _ | exact Kd.V_nil _ _ _ _ _ | exact Kd.Q_nil _ _ _ _ _ | exact Kd.S_nil _ _ _ _ _, zm HB⟩
   ·replace c23 := Bool.eq_false_iff.mpr c23
    subst c23
    have H1 : (if 0 ≤ a2 then (if a2 < (l1_0.length : Int) then (booklet_Fields.l0 kj3 ([] : List (S46)) (rd_L2 l1_0 a2) ((rd_L2 l1_0 a2).length : Int) 0 a0_0 a0_1 l0_2) else (none)) else (none)) = some r := by rw [if_neg (show ¬ (false = true) by decide)] at H; exact H
    clear H
    have H := H1
    clear H1
    by_cases c24 : 0 ≤ a2
    ·rw [if_pos c24] at H
     have c24b0 : decide (0 ≤ a2) = true := decide_eq_true c24
     clear c24
     by_cases c25 : a2 < (l1_0.length : Int)
     ·rw [if_pos c25] at H
      have c25b0 : decide (a2 < (l1_0.length : Int)) = true := decide_eq_true c25
      clear c25
      have H' := za H
      clear H
      have hnb26 := NB231_230.out
      have hnc26 := NB230_231.out
      obtain ⟨hcz27_0, hfz27_0⟩ := z1 BK231
      have p233 : 0 ≤ (a2 : Int) := of_decide_eq_true (by first | (with_reducible assumption) | assumption)
      have q233 : a2 < (l1_0.length : Int) := of_decide_eq_true (by first | (with_reducible assumption) | assumption)
      obtain ⟨ad233, A233_0, c233_0, e233, hx233_0, hl233_0, hi233_0⟩ := at_L2 HR1_0.out a2 p233 q233
      cases e233
      replace hx233_0 := zx HB hx233_0
      have HR233_0 := za hi233_0
      have HC233_0 := za hl233_0
      clear hi233_0 hl233_0
      replace p233 := eq_true p233
      replace q233 := eq_true q233
      go_wp2
      go_loopg [7, 32] kj3 (fun kq v7 v32 w' => ∃ (x7_2 : List (S46)) (x32_2 : Int), v32 = .int .i64 x32_2 ∧ Aside0 (booklet_Fields.l0 kq x7_2 (rd_L2 l1_0 a2) ((rd_L2 l1_0 a2).length : Int) x32_2 a0_0 a0_1 l0_2 = some r) ∧ Aside0 (kq ≤ kj3) ∧ Aside0 (Kd.R k46 46 w' w.heap.size (fun _ => True) v7 x7_2) ∧ Aside0 (w'.heap[gb230]? = some (.cells #[.int .i64 a0_0, .int .i64 a0_1, (.slice A0_2 l0_2.length c0_2)] 53 (0, 0))) ∧ Aside0 (w'.heap[gb231]? = some (.cells #[(.slice (some ad233) l1_0.length c1_0)] 56 (0, 0))) ∧ Aside0 (Below w.heap.size w w'))
      case atStart => exact ⟨(([] : List (S46))), (0), (by first | rfl | (simp; done) | (simp [*]; done)), H', ⟨Nat.le_refl _⟩, ⟨by first | exact Kd.R_nil _ _ _ _ _ | exact Kd.N_nil _ _ _ _ _ | exact Kd.V_nil _ _ _ _ _ | exact Kd.Q_nil _ _ _ _ _ | exact Kd.S_nil _ _ _ _ _⟩, ⟨by (with_reducible repeat (first | refine blk_drewN ?_ _ | refine blk_drew ?_ | refine blk_alloc ?_ _)); exact BK230.out⟩, ⟨by (with_reducible repeat (first | refine blk_drewN ?_ _ | refine blk_drew ?_ | refine blk_alloc ?_ _)); exact BK231.out⟩, ⟨zm HB⟩⟩
      case round =>
       clear H'
       try clear c1
       try clear c2
       try clear p2
       try clear q2
       try clear hx2
       try clear c3
       try clear c5
       try clear c8
       try clear c9
       try clear c9b0
       try clear c10
       try clear c14
       try clear c19
       try clear c23
       try clear p23
       try clear q23
       try clear hx23
       try clear c24
       try clear c24b0
       try clear c25
       try clear c25b0
       try clear c26
       try clear hcz11_0
       try clear hcz11_1
       try clear hcz11_2
       try clear hcz12_0
       try clear hcz15_0
       try clear hcz15_1
       try clear hcz15_2
       try clear hcz16_0
       try clear hcz18_0
       try clear hcz20_0
       try clear hcz20_1
       try clear hcz20_2
       try clear hcz21_0
       try clear hcz27_0
       try clear hfz11_0
       try clear hfz11_1
       try clear hfz11_2
       try clear hfz12_0
       try clear hfz15_0
       try clear hfz15_1
       try clear hfz15_2
       try clear hfz16_0
       try clear hfz18_0
       try clear hfz20_0
       try clear hfz20_1
       try clear hfz20_2
       try clear hfz21_0
       try clear hfz27_0
       try clear hx233_0
       try clear p2
       try clear p233
       try clear q233
       obtain ⟨x7_2, x32_2, rfl, HA, HK2, HO_7, BK230, BK231, HB⟩ := hrel
       cases gk with
       | zero => exact absurd HA.out (by simp [booklet_Fields.l0])
       | succ k2 =>
        have H := HA.out
        clear HA
        simp only [booklet_Fields.l0] at H
        by_cases c28 : x32_2 < ((rd_L2 l1_0 a2).length : Int)
        ·rw [if_pos c28] at H
         have c28b0 : decide (x32_2 < ((rd_L2 l1_0 a2).length : Int)) = true := decide_eq_true c28
         clear c28
         by_cases c29 : 0 ≤ x32_2
         ·rw [if_pos c29] at H
          have c29b0 : decide (0 ≤ x32_2) = true := decide_eq_true c29
          clear c29
          by_cases c30 : x32_2 < ((rd_L2 l1_0 a2).length : Int)
          ·rw [if_pos c30] at H
           have c30b0 : decide (x32_2 < ((rd_L2 l1_0 a2).length : Int)) = true := decide_eq_true c30
           clear c30
           by_cases c31 : 0 ≤ (rd (rd_L2 l1_0 a2) x32_2)
           ·rw [if_pos c31] at H
            have c31b0 : decide (0 ≤ (rd (rd_L2 l1_0 a2) x32_2)) = true := decide_eq_true c31
            clear c31
            by_cases c32 : (rd (rd_L2 l1_0 a2) x32_2) < (l0_2.length : Int)
            ·rw [if_pos c32] at H
             have c32b0 : decide ((rd (rd_L2 l1_0 a2) x32_2) < (l0_2.length : Int)) = true := decide_eq_true c32
             clear c32
             have H' := za H
             clear H
             have p234 : 0 ≤ (x32_2 : Int) := of_decide_eq_true (by first | (with_reducible assumption) | assumption)
             have q234 : x32_2 < ((rd_L2 l1_0 a2).length : Int) := of_decide_eq_true (by first | (with_reducible assumption) | assumption)
             obtain ⟨ad234, e234, hx234_0⟩ := Kd.at_int HR233_0.out x32_2 p234 q234
             cases e234
             replace hx234_0 := zx HB hx234_0
             replace p234 := eq_true p234
             replace q234 := eq_true q234
             have hnb33 := NB230_231.out
             have hnc33 := NB231_230.out
             obtain ⟨hcz34_0, hcz34_1, hcz34_2, hfz34_0, hfz34_1, hfz34_2⟩ := z3 BK230
             have p235 : 0 ≤ ((rd (rd_L2 l1_0 a2) x32_2) : Int) := of_decide_eq_true (by first | (with_reducible assumption) | assumption)
             have q235 : (rd (rd_L2 l1_0 a2) x32_2) < (l0_2.length : Int) := of_decide_eq_true (by first | (with_reducible assumption) | assumption)
             obtain ⟨ad235, e235, hx235_0, hx235_1, hx235_2, hx235_3, hx235_4, hx235_5⟩ := at_T65 HR0_2.out (rd (rd_L2 l1_0 a2) x32_2) p235 q235
             cases e235
             replace hx235_0 := zx HB hx235_0
             replace hx235_1 := zx HB hx235_1
             replace hx235_2 := zx HB hx235_2
             replace hx235_3 := zx HB hx235_3
             replace hx235_4 := zx HB hx235_4
             replace hx235_5 := zx HB hx235_5
             replace p235 := eq_true p235
             replace q235 := eq_true q235
             go_wp2
             go_loopg [7, 42] k2 (fun kq v7 v42 w' => ∃ (x7_3 : List (S46)) (x42_3 : Int), v42 = .int .i64 x42_3 ∧ Aside0 (booklet_Fields.l1 kq x7_3 (rd (rd_L2 l1_0 a2) x32_2) (rd_L2 l1_0 a2) ((rd_L2 l1_0 a2).length : Int) x32_2 ((rd_T65 l0_2 (rd (rd_L2 l1_0 a2) x32_2)).f4) x42_3 a0_0 a0_1 l0_2 = some r) ∧ Aside0 (kq ≤ k2) ∧ Aside0 (Kd.R k46 46 w' w.heap.size (fun _ => True) v7 x7_3) ∧ Aside0 (w'.heap[gb230]? = some (.cells #[.int .i64 a0_0, .int .i64 a0_1, (.slice (some ad235) l0_2.length c0_2)] 53 (0, 0))) ∧ Aside0 (w'.heap[gb231]? = some (.cells #[(.slice (some ad233) l1_0.length c1_0)] 56 (0, 0))) ∧ Aside0 (Below w.heap.size w w'))
             case atStart => exact ⟨(x7_2), (0), (by first | rfl | (simp; done) | (simp [*]; done)), H', ⟨Nat.le_refl _⟩, ⟨by (with_reducible repeat (first | apply Kd.R_alloc | apply Kd.R_drewN | apply Kd.R_drew)); exact HO_7.out⟩, ⟨by (with_reducible repeat (first | refine blk_drewN ?_ _ | refine blk_drew ?_ | refine blk_alloc ?_ _)); exact BK230.out⟩, ⟨by (with_reducible repeat (first | refine blk_drewN ?_ _ | refine blk_drew ?_ | refine blk_alloc ?_ _)); exact BK231.out⟩, ⟨zm HB⟩⟩
             case round =>
              clear H'
              try clear c1
              try clear c2
              try clear p2
              try clear q2
              try clear hx2
              try clear c3
              try clear c5
              try clear c8
              try clear c9
              try clear c9b0
              try clear c10
              try clear c14
              try clear c19
              try clear c23
              try clear p23
              try clear q23
              try clear hx23
              try clear c24
              try clear c24b0
              try clear c25
              try clear c25b0
              try clear c26
              try clear c28
              try clear c28b0
              try clear c29
              try clear c29b0
              try clear c30
              try clear c30b0
              try clear c31
              try clear c31b0
              try clear c32
              try clear c32b0
              try clear c33
              try clear hcz11_0
              try clear hcz11_1
              try clear hcz11_2
              try clear hcz12_0
              try clear hcz15_0
              try clear hcz15_1
              try clear hcz15_2
              try clear hcz16_0
              try clear hcz18_0
              try clear hcz20_0
              try clear hcz20_1
              try clear hcz20_2
              try clear hcz21_0
              try clear hcz27_0
              try clear hcz34_0
              try clear hcz34_1
              try clear hcz34_2
              try clear hfz11_0
              try clear hfz11_1
              try clear hfz11_2
              try clear hfz12_0
              try clear hfz15_0
              try clear hfz15_1
              try clear hfz15_2
              try clear hfz16_0
              try clear hfz18_0
              try clear hfz20_0
              try clear hfz20_1
              try clear hfz20_2
              try clear hfz21_0
              try clear hfz27_0
              try clear hfz34_0
              try clear hfz34_1
              try clear hfz34_2
              try clear hx233_0
              try clear hx234_0
              try clear hx235_0
              try clear hx235_1
              try clear hx235_2
              try clear hx235_3
              try clear hx235_4
              try clear hx235_5
              try clear p2
              try clear p23
              try clear p233
              try clear p234
              try clear p235
              try clear q2
              try clear q23
              try clear q233
              try clear q234
              try clear q235
              obtain ⟨x7_3, x42_3, rfl, HA, HK3, HO_7, BK230, BK231, HB⟩ := hrel
              cases gk with
              | zero => exact absurd HA.out (by simp [booklet_Fields.l1])
              | succ k3 =>
               have H := HA.out
               clear HA
               simp only [booklet_Fields.l1] at H
               by_cases c35 : x42_3 < ((rd_T65 l0_2 (rd (rd_L2 l1_0 a2) x32_2)).f4)
               ·rw [if_pos c35] at H
                have c35b0 : decide (x42_3 < ((rd_T65 l0_2 (rd (rd_L2 l1_0 a2) x32_2)).f4)) = true := decide_eq_true c35
                clear c35
                by_cases c36 : x7_3.length < 8796093022208
                ·rw [if_pos c36] at H
                 have LMc36 := za c36
                 clear c36
                 obtain ⟨y236, hy236⟩ : ∃ y_ : List (S46), y_ = (x7_3 ++ [(⟨(rd (rd_L2 l1_0 a2) x32_2), x42_3⟩ : S46)]) := ⟨_, rfl⟩
                 replace H : (booklet_Fields.l1 k3 y236 (rd (rd_L2 l1_0 a2) x32_2) (rd_L2 l1_0 a2) ((rd_L2 l1_0 a2).length : Int) x32_2 ((rd_T65 l0_2 (rd (rd_L2 l1_0 a2) x32_2)).f4) (wrap64 (x42_3 + 1)) a0_0 a0_1 l0_2) = some r := by first | (rw [hy236]; with_reducible exact H) | (have H2_ := (Option.bind_some _ _).symm.trans H; rw [hy236]; with_reducible exact H2_) | (have H2_ := (Option.bind_some _ _).symm.trans H; with_reducible exact H2_) | with_reducible exact H | (rw [hy236]; exact H) | exact H
                 have Ny236 := za hy236
                 clear hy236
                 have H' := za H
                 clear H
                 go_wp2_with (first | ((with_reducible refine gate_builtin (b := .append) (xs := #[.tmp 45, .tmp 49]) rfl ?_); (try (refine gate_guard (by rfl) ?_; dsimp only)); at_builtin; refine Kd.R_append k46 (w0 := w) w.heap.size rfl (.tmp 45) (.tmp 49) 44 46 (.agg #[(.int .i64 0), (.int .i64 0)]) 16 rfl Try.underlying44 info46 rfl (by decide) (by omega) u7 x7_3 (⟨(rd (rd_L2 l1_0 a2) x32_2), x42_3⟩ : S46) [.int .i64 (rd (rd_L2 l1_0 a2) x32_2), .int .i64 x42_3] (fun _ => True) (fun _ => False) rfl rfl ?aP (fun _ hk => hk.elim) ?aF ?aO ?aB ?aS ?aL ?_; (case aP => exact k46_mkM _ _ _ (⟨(rd (rd_L2 l1_0 a2) x32_2), x42_3⟩ : S46)); (case aB => exact (zm HB)); (case aF => exact (fun _ _ => trivial)); (case aO => exact (by (with_reducible repeat (first | apply Kd.R_alloc | apply Kd.R_drewN | apply Kd.R_drew)); exact HO_7.out)); (case aS => exact (below_size (zm HB))); (case aL => have := LMc36.out; omega); intro v237 w37 ho hb hg hat; rw [← Ny236.out] at ho; have HO238 := za (ho); replace BK230 := (zw BK230 hg (Kd.R_ne HO_7.out BK230.out (by decide))); replace BK231 := (zw BK231 hg (Kd.R_ne HO_7.out BK231.out (by decide))); replace HB := za (hb); clear HO_7 ho hb hg hat))
                 go_roundg k3
                 case measure => have := HJ3.out; have := HK2.out; have := HK3.out; omega
                 case rel => exact ⟨(y236), (wrap64 (x42_3 + 1)), (by first | rfl | (simp; done) | (simp [*]; done)), H', ⟨by have := HJ3.out; have := HK2.out; have := HK3.out; omega⟩, ⟨by (with_reducible repeat (first | apply Kd.R_alloc | apply Kd.R_drewN | apply Kd.R_drew)); exact HO238.out⟩, ⟨by (with_reducible repeat (first | refine blk_drewN ?_ _ | refine blk_drew ?_ | refine blk_alloc ?_ _)); exact BK230.out⟩, ⟨by (with_reducible repeat (first | refine blk_drewN ?_ _ | refine blk_drew ?_ | refine blk_alloc ?_ _)); exact BK231.out⟩, ⟨zm HB⟩⟩
                ·rw [if_neg c36] at H
                 exact absurd H (by simp)
               ·rw [if_neg c35] at H
                have c35b0 : decide (x42_3 < ((rd_T65 l0_2 (rd (rd_L2 l1_0 a2) x32_2)).f4)) = false := decide_eq_false c35
                clear c35
                have H' := za H
                clear H
                go_wp2
                go_roundg k3
                case measure => have := HJ3.out; have := HK2.out; have := HK3.out; omega
                case rel => exact ⟨(x7_3), (wrap64 (x32_2 + 1)), (by first | rfl | (simp; done) | (simp [*]; done)), H', ⟨by have := HJ3.out; have := HK2.out; have := HK3.out; omega⟩, ⟨by (with_reducible repeat (first | apply Kd.R_alloc | apply Kd.R_drewN | apply Kd.R_drew)); exact HO_7.out⟩, ⟨by (with_reducible repeat (first | refine blk_drewN ?_ _ | refine blk_drew ?_ | refine blk_alloc ?_ _)); exact BK230.out⟩, ⟨by (with_reducible repeat (first | refine blk_drewN ?_ _ | refine blk_drew ?_ | refine blk_alloc ?_ _)); exact BK231.out⟩, ⟨zm HB⟩⟩
            ·rw [if_neg c32] at H
             exact absurd H (by simp)
           ·rw [if_neg c31] at H
            exact absurd H (by simp)
          ·rw [if_neg c30] at H
           exact absurd H (by simp)
         ·rw [if_neg c29] at H
          exact absurd H (by simp)
        ·rw [if_neg c28] at H
         have c28b0 : decide (x32_2 < ((rd_L2 l1_0 a2).length : Int)) = false := decide_eq_false c28
         clear c28
         obtain rfl := Option.some.inj H
         go_wp2
         go_ret
         exact ⟨_, zf, by (with_reducible repeat (first | apply Kd.R_alloc | apply Kd.R_drewN | apply Kd.R_drew)); exact HO_7.out, zm HB⟩
     ·rw [if_neg c25] at H
      exact absurd H (by simp)
    ·rw [if_neg c24] at H
     exact absurd H (by simp)

/-! ### bits_Mul32: function 68 -/
def bits_Mul32.f (a0 : Int) (a1 : Int) : Option (Int × Int) := some (((IntKind.u64.wrap ((IntKind.u64.wrap (a0)) * (IntKind.u64.wrap (a1)))) / 4294967296) % 4294967296, (IntKind.u64.wrap ((IntKind.u64.wrap (a0)) * (IntKind.u64.wrap (a1)))) % 4294967296)
set_option maxHeartbeats 8000000 in
set_option maxRecDepth 100000 in
theorem bits_Mul32.calls (a0 : Int) (a1 : Int) (r1 : Int) (r2 : Int) (w : World) (h : bits_Mul32.f a0 a1 = some (r1, r2)) :
    Calls Try.prog 68 #[.int .u32 a0, .int .u32 a1] w fun e w' => e = .returned (.tuple #[.int .u32 r1, .int .u32 r2]) ∧ Drawn0 w w' := by
 have H : (some (((IntKind.u64.wrap ((IntKind.u64.wrap (a0)) * (IntKind.u64.wrap (a1)))) / 4294967296) % 4294967296, (IntKind.u64.wrap ((IntKind.u64.wrap (a0)) * (IntKind.u64.wrap (a1)))) % 4294967296)) = some (r1, r2) := h
 clear h
 simp only [Option.some.injEq, Prod.mk.injEq] at H
 obtain ⟨rfl, rfl⟩ := H
 go_enter Try.func68, Try.ntmps68
 go_wp2
 go_ret2
 exact ⟨by first | rfl | (simp; done) | (simp [*]; done), by repeat (first | exact Drawn0.refl _ | apply Drawn0.step)⟩

/-! ### bits_Mul64: function 69 -/
def bits_Mul64.f (a0 : Int) (a1 : Int) : Option (Int × Int) := some (IntKind.u64.wrap ((IntKind.u64.wrap ((IntKind.u64.wrap ((a0 / 4294967296) * (a1 / 4294967296))) + ((IntKind.u64.wrap ((IntKind.u64.wrap ((a0 / 4294967296) * (Go.bits .and .u64 a1 4294967295))) + ((IntKind.u64.wrap ((Go.bits .and .u64 a0 4294967295) * (Go.bits .and .u64 a1 4294967295))) / 4294967296))) / 4294967296))) + ((IntKind.u64.wrap ((Go.bits .and .u64 (IntKind.u64.wrap ((IntKind.u64.wrap ((a0 / 4294967296) * (Go.bits .and .u64 a1 4294967295))) + ((IntKind.u64.wrap ((Go.bits .and .u64 a0 4294967295) * (Go.bits .and .u64 a1 4294967295))) / 4294967296))) 4294967295) + (IntKind.u64.wrap ((Go.bits .and .u64 a0 4294967295) * (a1 / 4294967296))))) / 4294967296)), IntKind.u64.wrap (a0 * a1))
set_option maxHeartbeats 8000000 in
set_option maxRecDepth 100000 in
theorem bits_Mul64.calls (a0 : Int) (a1 : Int) (r1 : Int) (r2 : Int) (w : World) (h : bits_Mul64.f a0 a1 = some (r1, r2)) :
    Calls Try.prog 69 #[.int .u64 a0, .int .u64 a1] w fun e w' => e = .returned (.tuple #[.int .u64 r1, .int .u64 r2]) ∧ Drawn0 w w' := by
 have H : (some (IntKind.u64.wrap ((IntKind.u64.wrap ((IntKind.u64.wrap ((a0 / 4294967296) * (a1 / 4294967296))) + ((IntKind.u64.wrap ((IntKind.u64.wrap ((a0 / 4294967296) * (Go.bits .and .u64 a1 4294967295))) + ((IntKind.u64.wrap ((Go.bits .and .u64 a0 4294967295) * (Go.bits .and .u64 a1 4294967295))) / 4294967296))) / 4294967296))) + ((IntKind.u64.wrap ((Go.bits .and .u64 (IntKind.u64.wrap ((IntKind.u64.wrap ((a0 / 4294967296) * (Go.bits .and .u64 a1 4294967295))) + ((IntKind.u64.wrap ((Go.bits .and .u64 a0 4294967295) * (Go.bits .and .u64 a1 4294967295))) / 4294967296))) 4294967295) + (IntKind.u64.wrap ((Go.bits .and .u64 a0 4294967295) * (a1 / 4294967296))))) / 4294967296)), IntKind.u64.wrap (a0 * a1))) = some (r1, r2) := h
 clear h
 simp only [Option.some.injEq, Prod.mk.injEq] at H
 obtain ⟨rfl, rfl⟩ := H
 go_enter Try.func69, Try.ntmps69
 go_wp2
 go_ret2
 exact ⟨by first | rfl | (simp; done) | (simp [*]; done), by repeat (first | exact Drawn0.refl _ | apply Drawn0.step)⟩

/-! ### bits_Mul: function 65 -/
def bits_Mul.f (a0 : Int) (a1 : Int) : Option (Int × Int) := (bits_Mul64.f a0 a1).bind fun bt239 => (some (bt239.1, bt239.2))
set_option maxHeartbeats 8000000 in
set_option maxRecDepth 100000 in
theorem bits_Mul.calls (a0 : Int) (a1 : Int) (r1 : Int) (r2 : Int) (w : World) (h : bits_Mul.f a0 a1 = some (r1, r2)) :
    Calls Try.prog 65 #[.int .u64 a0, .int .u64 a1] w fun e w' => e = .returned (.tuple #[.int .u64 r1, .int .u64 r2]) ∧ Drawn0 w w' := by
 have H : ((bits_Mul64.f a0 a1).bind fun bt239 => (some (bt239.1, bt239.2))) = some (r1, r2) := h
 clear h
 replace H := Option.bind_eq_some_iff.mp H
 obtain ⟨⟨t239, t240⟩, A30, H⟩ := H
 replace H : (some (t239, t240)) = some (r1, r2) := H
 have A3 := za A30
 clear A30
 simp only [Option.some.injEq, Prod.mk.injEq] at H
 obtain ⟨rfl, rfl⟩ := H
 go_enter Try.func65, Try.ntmps65
 go_wp2_with (first | ((with_reducible refine gate_callee (f := 69) rfl ?_); refine zL (some 25) Try.func69 #[.int .u64 a0, .int .u64 a1] ?_; (with_reducible refine (bits_Mul64.calls a0 a1 t239 t240 _ A3.out).mono ?_); rintro e w' ⟨rfl, ⟨nd, rfl⟩⟩; refine ⟨_, rfl, ?_⟩))
 go_ret2
 exact ⟨by first | rfl | (simp; done) | (simp [*]; done), by repeat (first | exact Drawn0.refl _ | apply Drawn0.step)⟩

/-! ### slices_Repeat_int_int: function 54 (given by hand: one number, repeated) -/
def slices_Repeat_int_int.f (l0 : List Int) (a1 : Int) : Option (List Int) := if l0.length = 1 ∧ 0 ≤ a1 ∧ a1 ≤ 1000000 then some (List.replicate a1.toNat (rd l0 0)) else none
/-- The first j of n places hold v, the others nothing yet. -/
def fillN (v : Int) (j n : Nat) : List Int := List.replicate j v ++ List.replicate (n - j) 0
theorem fillN_len (v : Int) (j n : Nat) (h : j ≤ n) : (fillN v j n).length = n := by unfold fillN; simp; omega
theorem rep_wrap {x : Int} (h0 : 0 ≤ x) (h1 : x ≤ 18446744073709551615) : IntKind.u64.wrap x = x := by
  simp [IntKind.wrap, IntKind.signed, IntKind.bits]; omega
theorem rep_mask (n : Nat) (h : n ≤ 1000000) : Go.bits .and .u64 (n : Int) 4294967295 = n := by
  have e : ((BitVec.ofInt 64 (n : Int)) &&& (BitVec.ofInt 64 4294967295)).toNat = n := by
    rw [BitVec.toNat_and, show (BitVec.ofInt 64 4294967295).toNat = 2 ^ 32 - 1 from by decide, Nat.and_two_pow_sub_one_eq_mod]
    have : (BitVec.ofInt 64 (n : Int)).toNat = n := by simp; omega
    rw [this]; omega
  show IntKind.u64.wrap ((((BitVec.ofInt 64 (n : Int)) &&& (BitVec.ofInt 64 4294967295)).toNat : Nat) : Int) = n
  rw [e, rep_wrap (by omega) (by omega)]
theorem rep_mul (n : Nat) (h : n ≤ 1000000) : bits_Mul.f 1 (n : Int) = some (0, (n : Int)) := by
  have h1 : Go.bits .and .u64 1 4294967295 = 1 := by decide
  have h0 : Go.bits .and .u64 0 4294967295 = 0 := by decide
  unfold bits_Mul.f bits_Mul64.f
  rw [rep_mask n h, h1, show (n : Int) / 4294967296 = 0 by omega, show (1 : Int) / 4294967296 = 0 by decide]
  simp only [Option.bind_some, Int.zero_mul, Int.mul_zero, Int.one_mul, Int.add_zero, Int.zero_add]
  rw [rep_wrap (x := (n : Int)) (by omega) (by omega), show (n : Int) / 4294967296 = 0 by omega, rep_wrap (x := 0) (by omega) (by omega)]
  simp only [Int.add_zero]
  rw [rep_wrap (x := 0) (by omega) (by omega), h0]
  simp only [Int.add_zero, Int.zero_add]
  rw [rep_wrap (x := 0) (by omega) (by omega)]
  rfl
section
variable {P : Program}
/-- A copy of what the row begins with into what follows. -/
theorem rep_copy {W : World} (t e ty : TypeId) (ht : P.underlying t = some (.slice e)) (hinfo : (P.info? e).map (·.size) = some 1) {base : Nat} {ok : Nat → Prop} (v : Int) (n j cap g : Nat) (h0 : 0 < j) (hj : j < n)
    (HO : (Kd.int .i64).R e W base ok (.slice (some ⟨g, 0, none⟩) n cap) (fillN v j n)) :
    ∃ W1, (Builtin.copy_ #[t, t] ty #[.slice (some ⟨g, j, none⟩) (n - j) (cap - j), .slice (some ⟨g, 0, none⟩) j cap]).run P W = .ok (goInt ((min j (n - j) : Nat) : Int)) W1 ∧
      (Kd.int .i64).R e W1 base ok (.slice (some ⟨g, 0, none⟩) n cap) (fillN v (j + min j (n - j)) n) ∧ W.grownBy W1 (some g) := by
  have hm : min j (n - j) ≤ n - j := Nat.min_le_right _ _
  generalize hmm : min j (n - j) = m at hm ⊢
  have hmj : m ≤ j := by rw [← hmm]; exact Nat.min_le_left _ _
  have hown := Kd.own_of_R HO
  rw [fillN_len v j n (by omega)] at hown
  rcases hown.2 with ⟨hv, _⟩ | ⟨g', cap', cur, hv, hb, hh, hnc, hcm, hcs, htake⟩
  · cases hv
  injection hv with ha _ hc
  injection ha with ha
  injection ha with hg'
  subst hg'; subst hc
  have hcs1 : cur.size = cap := by omega
  have hcs0 : (encs (Value.int .i64) (List.replicate m v)).length = m := by rw [encs_length, List.length_replicate]
  have hcur : ∀ q, q < n → cur.toList[q]? = (encs (Value.int .i64) (fillN v j n))[q]? := by
    intro q hq
    rw [← htake, Nat.mul_one, List.getElem?_take_of_lt hq]
  have hsrc : ∀ q u, (encs (Value.int .i64) (List.replicate m v))[q]? = some u → W.cell? ((⟨g, 0, none⟩ : Addr).add q) = some u := by
    intro q u hu
    have hq : q < m := by rw [← hcs0]; exact (List.getElem?_eq_some_iff.1 hu).1
    rw [add_plain, cell_of_row W g _ cur e (0, 0) hh, ← Array.getElem?_toList, hcur q (by omega), ← hu]
    simp [encs, fillN, List.getElem?_append, hq, List.getElem?_replicate, show q < j by omega]
  have hr := run_copy_cells (P := P) W t t ty e g j (n - j) (cap - j) ⟨g, 0, none⟩ j cap (encs (Value.int .i64) (List.replicate m v)) ht hinfo (by rw [hcs0, ← hmm]) hsrc
    (fun q hq => by rw [cell_of_row W g _ cur e (0, 0) hh]; rw [hcs0] at hq; first | (simp; done) | (simp; omega)) (fun q _ => blk_frozen hh _) (by intro u hu; simp only [encs, List.mem_map] at hu; obtain ⟨q, _, rfl⟩ := hu; rfl)
  rw [hcs0] at hr
  obtain ⟨cur', h3, h4, h5⟩ := setCells_row (encs (Value.int .i64) (List.replicate m v)) j W cur hh (by rw [hcs0]; omega)
  obtain ⟨s1, s2, s3, s4⟩ := setCells_same g (encs (Value.int .i64) (List.replicate m v)) j W
  refine ⟨_, hr, Kd.R_of_own ?_ HO.1, ⟨s1, s2, s3, by rw [s4]; exact Nat.le_refl _, fun k _ hk => setCells_far _ _ k (fun he => hk (by rw [he]))⟩⟩
  rw [fillN_len v (j + m) n (by omega)]
  refine ⟨by rw [encs_length, fillN_len v (j + m) n (by omega), Nat.mul_one], .inr ⟨g, cap, cur', rfl, hb, h3, hnc, hcm, by rw [h4, hcs], ?_⟩⟩
  rw [Nat.mul_one]
  apply List.ext_getElem?
  intro q
  by_cases hq : q < n
  · rw [List.getElem?_take_of_lt hq, h5, hcs0]
    by_cases q1 : q < j
    · rw [List.append_assoc, List.getElem?_append_left (by rw [List.length_take, Array.length_toList]; omega), List.getElem?_take_of_lt q1, hcur q hq]
      simp [encs, fillN, List.getElem?_append, List.getElem?_replicate, q1, show q < j + m by omega]
    · by_cases q2 : q < j + m
      · rw [List.append_assoc, List.getElem?_append_right (by rw [List.length_take, Array.length_toList]; omega), List.getElem?_append_left (by rw [hcs0, List.length_take, Array.length_toList]; omega)]
        simp [encs, fillN, List.getElem?_append, List.getElem?_replicate, q2]
        omega
      · rw [List.getElem?_append_right (by rw [List.length_append, hcs0, List.length_take, Array.length_toList]; omega), List.getElem?_drop, List.length_append, hcs0, List.length_take, Array.length_toList, show j + m + (q - (min j cur.size + m)) = q by omega, hcur q hq]
        simp [encs, fillN, List.getElem?_append, List.getElem?_replicate, q1, q2]
        rw [if_pos (by omega), if_pos (by omega)]
  · rw [List.getElem?_eq_none (by rw [List.length_take]; omega), List.getElem?_eq_none (by rw [encs_length, fillN_len v (j + m) n (by omega)]; omega)]
/-- copy, as an event. -/
theorem copy_event {ops : Array Oper} {rest : List Oper} {o : Oper} {a : Act} {Q : Exit → Act → World → Prop} {W W1 : World} (hgd : o.guard = none) (s x : Operand) (t t' : TypeId) (ho : o.op = .call { callee := .builtin .copy, args := #[s, x], argTypes := #[t, t'] }) (v1 v2 : Value) (m : Int)
    (hs : a.eval s = v1) (hx : a.eval x = v2) (hr : (Builtin.copy_ #[t, t'] o.type #[v1, v2]).run P W = .ok (goInt m) W1) (h : wpList P ops Q rest (a.put o.dst (.int .i64 m)) W1) : wpList P ops Q (o :: rest) a W := by
  refine wpList_plain hgd fun K hK => ?_
  unfold Oper.wp execOp
  simp only [ho, resolve, invoke, builtin, Sem.run_bind, Sem.run_pure, Result.andThen_ok, List.map_toArray, List.map_cons, List.map_nil, hs, hx, hr]
  exact hK _ _ h
end
theorem rep_step (j n : Nat) (h0 : 0 < j) (h : j < n) (hn : (n : Int) ≤ 1000000) : 0 < min j (n - j) ∧ wrap64 ((j : Int) + ((min j (n - j) : Nat) : Int)) = ((j + min j (n - j) : Nat) : Int) ∧ j + min j (n - j) ≤ n ∧ n - (j + min j (n - j)) < n - j := by
  refine ⟨by omega, ?_, by omega, by omega⟩
  unfold wrap64; omega
theorem copy_exec {P : Program} {a : Act} {o : Oper} {W W1 : World} (s x : Operand) (t t' : TypeId) (ho : o.op = .call { callee := .builtin .copy, args := #[s, x], argTypes := #[t, t'] }) (v1 v2 : Value) (m : Int)
    (hs : a.eval s = v1) (hx : a.eval x = v2) (hr : (Builtin.copy_ #[t, t'] o.type #[v1, v2]).run P W = .ok (goInt m) W1) : (execOp a.eval o).run P W = .ok (.value (.int .i64 m)) W1 := by
  unfold execOp
  simp only [ho, resolve, invoke, builtin, Sem.run_bind, Sem.run_pure, Result.andThen_ok, List.map_toArray, List.map_cons, List.map_nil, hs, hx, hr]
  rfl
theorem rep_first (x : Int) (n : Nat) : [x].take (min 1 n) ++ (List.replicate n (0 : Int)).drop (min 1 n) = fillN x (min 1 n) n := by
  cases n with
  | zero => simp [fillN]
  | succ k => rw [show min 1 (k + 1) = 1 by omega]; simp [fillN]
theorem rep_block {W : World} {base n : Nat} {e : TypeId} {ok : Nat → Prop} {v : Value} {xs : List Int} {p : Nat → Prop} (h : (Kd.int .i64).R e W base ok v xs) (hl : xs.length = n) (hat : ∃ b, v.ownBlock = some b ∧ p b) : ∃ g cap, v = .slice (some ⟨g, 0, none⟩) n cap ∧ n ≤ cap := by
  obtain ⟨_, inner, ho, _⟩ := h
  rcases ho.2 with ⟨rfl, _⟩ | ⟨g, cap, cur, rfl, _, _, hc, _⟩
  · obtain ⟨b, hb, _⟩ := hat
    simp [Value.ownBlock] at hb
  · exact ⟨g, cap, by rw [hl], by omega⟩
def slices_Repeat_int_int.T9 : Bool × List (List Nat × List Nat) := (true, [([], []), ([], []), ([], []), ([1, 2], [1, 2]), ([], []), ([], []), ([4, 5], [4, 5]), ([3, 6], [3, 6]), ([0, 7], [0, 7]), ([8, 7, 0, 1, 2, 3, 4, 5, 6, 7, 8], [0, 2, 5, 8])])
def slices_Repeat_int_int.B9 : List Nat := [0, 0, 0, 6, 0, 0, 48, 126, 255, 511]
theorem slices_Repeat_int_int.tab9 : rtab .any (opsOf Try.f54 9) = slices_Repeat_int_int.T9 := by kernel_rfl
theorem slices_Repeat_int_int.bits9 : waitsOk slices_Repeat_int_int.T9.2 slices_Repeat_int_int.B9 = true := by kernel_rfl
set_option maxHeartbeats 8000000 in
set_option maxRecDepth 100000 in
theorem slices_Repeat_int_int.calls (A0 : Option Addr) (c0 : Nat) (l0 : List Int) (a1 : Int) (r : List Int) (w : World) (hr0 : Kd.C (Kd.int .i64) w A0 l0.length l0) (hc0 : l0.length ≤ c0) (h : slices_Repeat_int_int.f l0 a1 = some r) :
    Calls Try.prog 54 #[.slice A0 l0.length c0, .int .i64 a1] w fun e w' => ∃ v0_ : Value, e = .returned (v0_) ∧ Kd.R (Kd.int .i64) 3 w' w.heap.size (fun _ => True) v0_ r ∧ Below w.heap.size w w' := by
 have hif : l0.length = 1 ∧ 0 ≤ a1 ∧ a1 ≤ 1000000 := by
  by_cases hq : l0.length = 1 ∧ 0 ≤ a1 ∧ a1 ≤ 1000000
  · exact hq
  · rw [slices_Repeat_int_int.f, if_neg hq] at h; cases h
 rw [slices_Repeat_int_int.f, if_pos hif] at h
 obtain rfl := Option.some.inj h
 clear h
 obtain ⟨hl, h0, h1⟩ := hif
 obtain ⟨x, rfl⟩ := List.length_eq_one_iff.1 hl
 obtain ⟨n, rfl⟩ := Int.eq_ofNat_of_zero_le h0
 have HR0 := za hr0
 clear hr0 h0
 have hmul := za (rep_mul n (by omega))
 have hw1 : IntKind.u64.wrap (1 : Int) = 1 := rep_wrap (by omega) (by omega)
 have hwn : IntKind.u64.wrap (n : Int) = n := rep_wrap (by omega) (by omega)
 have hwi : wrap64 (n : Int) = n := by unfold wrap64; omega
 have hneg : decide ((n : Int) < 0) = false := decide_eq_false (by omega)
 have hgt : decide ((n : Int) > 9223372036854775807) = false := decide_eq_false (by omega)
 have HB := za (Below.refl w.heap.size w)
 have hi3 : (Try.prog.info? 3).map (·.size) = some 1 := by kernel_rfl
 obtain ⟨i0, hi0, _, hsz, _⟩ := info_parts info3
 go_enter Try.func54, Try.ntmps54
 go_wp2_with (first | (go_at_call 65; (with_reducible refine (bits_Mul.calls 1 n 0 n _ hmul.out).mono ?_); rintro e w1 ⟨rfl, ⟨nd, rfl⟩⟩) | ((with_reducible refine gate_dst (N := 30) rfl ?_); refine Kd.R_make (Kd.int .i64) (w0 := w) w.heap.size 3 rfl rfl 28 (.tmp 29) (.tmp 29) rfl (n : Int) rfl rfl Try.underlying28 (.int .i64 0) 8 info3 rfl (by decide) (by decide) 0 (ok := fun _ => True) (okp := fun _ => True) rfl (fun _ h => h) trivial (by omega) (by simp; omega) (by repeat (first | exact HB.out | apply pw_below_drewN | apply below_drew1)) (below_size (by repeat (first | exact HB.out | apply pw_below_drewN | apply below_drew1))) ?_; intro v1 w1 hR hb hg hat; rw [Int.toNat_natCast] at hR; replace HR0 := za (Kd.C_below HR0.out hb); replace HB := za hb; have HO := za hR; clear hR hb hg) | ((with_reducible refine gate_builtin (b := .copy) (xs := #[.tmp 31, .tmp 32]) rfl ?_); refine Kd.R_copy (enc := Value.int .i64) 0 (w0 := w) w.heap.size rfl (.tmp 31) (.tmp 32) 28 28 3 rfl Try.underlying28 hi3 v1 _ [x] A0 1 c0 (fun _ => True) rfl rfl HO.out HR0.out HB.out (below_size HB.out) ?_; intro w2 hR hb hg; rw [List.length_replicate] at hR ⊢; rw [rep_first x n] at hR; obtain ⟨g, cap, rfl, hcap⟩ := rep_block hR (fillN_len x (min 1 n) n (Nat.min_le_right _ _)) hat; have hj1 : min 1 n ≤ n := Nat.min_le_right _ _; have hj2 : 0 < n → 0 < min 1 n := (fun _ => by omega); clear HO; generalize min 1 n = j at hR hj1 hj2 ⊢; replace HB := za hb; have HO := za hR; clear hR hb hg hat HR0))
 go_loopg [8] n (fun kq v8 w' => ∃ j : Nat, v8 = .int .i64 (j : Int) ∧ Aside0 (j ≤ n ∧ (0 < n → 0 < j) ∧ n - j ≤ kq) ∧ Aside0 ((Kd.int .i64).R 3 w' w.heap.size (fun _ => True) (.slice (some ⟨g, 0, none⟩) n cap) (fillN x j n)) ∧ Aside0 (Below w.heap.size w w'))
 case atStart => exact ⟨j, rfl, ⟨hj1, hj2, by omega⟩, HO, HB⟩
 case round =>
  clear HO HB hj1 hj2 hneg hgt hw1 hwn hwi
  obtain ⟨j, rfl, ⟨hj1, hj2, hk⟩, HO, HB⟩ := hrel
  cases gk with
  | zero =>
   have hjn : j = n := by omega
   subst hjn
   have hz0 : decide ((j : Int) < (j : Int)) = false := decide_eq_false (by omega)
   go_wp2
   go_ret
   exact ⟨_, rfl, by rw [Int.toNat_natCast]; simpa [fillN, rd] using HO.out, HB.out⟩
  | succ k1 =>
   by_cases c : j < n
   ·have hc0 : decide ((j : Int) < (n : Int)) = true := decide_eq_true (by omega)
    have hcutA := cut_from (P := Try.prog) 28 3 .i64 Try.underlying28 hi0 1 hsz (some ⟨g, 0, none⟩) n cap (j : Int) (by omega) (by omega)
    have hcutB := cut_to (P := Try.prog) 28 3 .i64 Try.underlying28 hi0 (some ⟨g, 0, none⟩) n cap (j : Int) (by omega) (by omega) hcap
    rw [Int.toNat_natCast, if_neg (by omega), Option.map_some, add_plain, Nat.mul_one] at hcutA
    rw [Int.toNat_natCast] at hcutB
    have hj0 : 0 < j := hj2 (Nat.lt_of_le_of_lt (Nat.zero_le j) c)
    obtain ⟨hm, hm2, hm3, hm4⟩ := rep_step j n hj0 c h1
    go_wp2
    replace HO := za (Kd.R_drew HO.out)
    replace HB := za (below_drew1 HB.out)
    refine start_ (n := 10) (S := fun w' => True) (ds := []) #[false, false, false, false, false, false, false, false, false, false] (by kernel_rfl) rfl rfl trivial (fun hHeld => ?_); refine with_tabW slices_Repeat_int_int.tab9 slices_Repeat_int_int.bits9 (fun HT_ HW_ => ?_)
    generalize wr.drew = w14 at HO HB hHeld ⊢
    refine pure_ (i := 0) (N := some 38) (v := ?_) (a' := ?_) #[true, false, false, false, false, false, false, false, false, false] rfl rfl (any_of HT_.out (by kernel_rfl)) (fun _ _ _ h => h) (Or.inl ⟨by rfl, ?_⟩) ?_ ?_
    rotate_left
    ·intro w'
     go_simp
     with_reducible rfl
    rotate_left
    ·simp only [Act.put, List.setIfInBounds_toArray, List.set_cons_zero, List.set_cons_succ, i64_w, i32_w]
     rfl
    refine pure_ (i := 1) (N := some 39) (v := ?_) (a' := ?_) #[true, true, false, false, false, false, false, false, false, false] rfl rfl (any_of HT_.out (by kernel_rfl)) (fun _ _ _ h => h) (Or.inl ⟨by rfl, ?_⟩) ?_ ?_
    rotate_left
    ·intro w'
     go_simp
     with_reducible rfl
    rotate_left
    ·simp only [Act.put, List.setIfInBounds_toArray, List.set_cons_zero, List.set_cons_succ, i64_w, i32_w]
     rfl
    refine pure_ (i := 2) (N := some 40) (v := ?_) (a' := ?_) #[true, true, true, false, false, false, false, false, false, false] rfl rfl (any_of HT_.out (by kernel_rfl)) (fun _ _ _ h => h) (Or.inl ⟨by rfl, ?_⟩) ?_ ?_
    rotate_left
    ·intro w'
     go_simp
     with_reducible rfl
    rotate_left
    ·simp only [Act.put, List.setIfInBounds_toArray, List.set_cons_zero, List.set_cons_succ, i64_w, i32_w]
     rfl
    refine pure_ (i := 3) (N := some 41) (v := ?_) (a' := ?_) #[true, true, true, true, false, false, false, false, false, false] rfl rfl (any_of HT_.out (by kernel_rfl)) (fun _ _ _ h => h) (Or.inl ⟨by rfl, ?_⟩) ?_ ?_
    rotate_left
    ·intro w'
     go_simp
     with_reducible rfl
    rotate_left
    ·simp only [Act.put, List.setIfInBounds_toArray, List.set_cons_zero, List.set_cons_succ, i64_w, i32_w]
     rfl
    refine pure_ (i := 4) (N := some 42) (v := ?_) (a' := ?_) #[true, true, true, true, true, false, false, false, false, false] rfl rfl (any_of HT_.out (by kernel_rfl)) (fun _ _ _ h => h) (Or.inl ⟨by rfl, ?_⟩) ?_ ?_
    rotate_left
    ·intro w'
     go_simp
     with_reducible rfl
    rotate_left
    ·simp only [Act.put, List.setIfInBounds_toArray, List.set_cons_zero, List.set_cons_succ, i64_w, i32_w]
     rfl
    refine pure_ (i := 5) (N := some 43) (v := ?_) (a' := ?_) #[true, true, true, true, true, true, false, false, false, false] rfl rfl (any_of HT_.out (by kernel_rfl)) (fun _ _ _ h => h) (Or.inl ⟨by rfl, ?_⟩) ?_ ?_
    rotate_left
    ·intro w'
     go_simp
     with_reducible rfl
    rotate_left
    ·simp only [Act.put, List.setIfInBounds_toArray, List.set_cons_zero, List.set_cons_succ, i64_w, i32_w]
     rfl
    refine pure_ (i := 6) (N := some 44) (v := ?_) (a' := ?_) #[true, true, true, true, true, true, true, false, false, false] rfl rfl (any_of HT_.out (by kernel_rfl)) (fun _ _ _ h => h) (Or.inl ⟨by rfl, ?_⟩) ?_ ?_
    rotate_left
    ·intro w'
     go_simp
     with_reducible rfl
    rotate_left
    ·simp only [Act.put, List.setIfInBounds_toArray, List.set_cons_zero, List.set_cons_succ, i64_w, i32_w]
     rfl
    refine one_ (i := 7) (N := some 45) #[true, true, true, true, true, true, true, true, false, false] rfl rfl (one_of HT_.out (by kernel_rfl)) (by decide) (fun K hK => ?_)
    obtain ⟨W1, hrun, hR, hg⟩ := rep_copy (P := Try.prog) 28 3 3 Try.underlying28 hi3 x n j cap g hj0 c HO.out
    refine value_ (w1 := W1) (v := .int .i64 ((min j (n - j) : Nat) : Int)) (by rfl) rfl (copy_exec (.tmp 41) (.tmp 44) 28 28 rfl _ _ _ rfl rfl hrun) ?_
    replace HB := za (HB.out.grown hg (below_size HB.out) (fun k_ hk_ => by cases hk_; exact (Kd.R_base HO.out g (by simp [Value.ownBlock]))))
    replace HO := za hR
    clear hR hg hrun
    refine hK.out _ _ trivial (fun hHeld => ?_)
    clear hK K
    refine norm_ (a' := ?_) ?_ ?_
    rotate_left
    ·show Act.put _ (some 45) _ = _
     simp only [Act.put, List.setIfInBounds_toArray, List.set_cons_zero, List.set_cons_succ, i64_w, i32_w]
     rfl
    refine pure_ (i := 8) (N := some 46) (v := ?_) (a' := ?_) #[true, true, true, true, true, true, true, true, true, false] rfl rfl (any_of HT_.out (by kernel_rfl)) (fun _ _ _ h => h) (Or.inl ⟨by rfl, ?_⟩) ?_ ?_
    rotate_left
    ·intro w'
     go_simp
     with_reducible rfl
    rotate_left
    ·simp only [Act.put, List.setIfInBounds_toArray, List.set_cons_zero, List.set_cons_succ, i64_w, i32_w]
     rfl
    refine pure_ (i := 9) (N := some 8) (v := ?_) (a' := ?_) #[true, true, true, true, true, true, true, true, true, true] rfl rfl (any_of HT_.out (by kernel_rfl)) (fun _ _ _ h => h) (Or.inl ⟨by rfl, ?_⟩) ?_ ?_
    rotate_left
    ·intro w'
     go_simp
     with_reducible rfl
    rotate_left
    ·simp only [Act.put, List.setIfInBounds_toArray, List.set_cons_zero, List.set_cons_succ, i64_w, i32_w]
     rfl
    refine done_ (done_of HT_.out (by kernel_rfl)) ?_
    try go_wp2
    go_roundg k1
    case measure => omega
    case rel => exact ⟨j + min j (n - j), (by first | rw [hm2] | rw [Int.natCast_add]), ⟨hm3, (fun _ => Nat.lt_of_lt_of_le hj0 (Nat.le_add_right _ _)), Nat.le_of_lt_succ (Nat.lt_of_lt_of_le hm4 hk)⟩, HO, HB⟩
   ·have hjn : j = n := by omega
    subst hjn
    have hz0 : decide ((j : Int) < (j : Int)) = false := decide_eq_false (by omega)
    go_wp2
    go_ret
    exact ⟨_, rfl, by rw [Int.toNat_natCast]; simpa [fillN, rd] using HO.out, HB.out⟩

end Go.Proofs.Ythbmpjglkbhhgaa.Print
