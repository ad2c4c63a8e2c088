-- Printed by a program of this session (wip/own_print.py) out of the translation; Lean checks it.
import Derived.Test.YtdmlbgdefapcjaaShort
import Derived.Test.YtdmlbgdefapcjaaPrint0
import Derived.Test.YtdmlbgdefapcjaaPrint6
namespace Go.Proofs.Ytdmlbgdefapcjaa.Print
open Go.RowKit Go.Proofs.YtdmlbgdefapcjaaW.PrintWords Go.Proofs.YtdmlbgdefapcjaaW.PrintLast Go.Proofs.YtdmlbgdefapcjaaW.PrintMore
attribute [local go_sem] max2_int min2_int max_two min_two max_three min_three max_four min_four   -- for this text's walks alone
set_option linter.unusedVariables false
set_option linter.unusedSimpArgs false

/-! ### booklet_Fields: function 27 -/
mutual
def booklet_Fields.j0 : Nat → Int → Bool → Int → Int → List (S23) → List (List Int) → Option ((List (S53)))
  | 0, _, _, _, _, _, _ => none
  | k + 1, x2, x25, x543000, x543001, x543002, x544000 => if x25 = true then (some ([] : List (S53))) else (if 0 ≤ x2 then (if x2 < (x544000.length : Int) then (booklet_Fields.l0 k ([] : List (S53)) (rd_L2 x544000 x2) ((rd_L2 x544000 x2).length : Int) 0 x543000 x543001 x543002) else (none)) else (none))
def booklet_Fields.l0 : Nat → List (S53) → List Int → Int → Int → Int → Int → List (S23) → Option ((List (S53)))
  | 0, _, _, _, _, _, _, _ => none
  | k + 1, x7, x30, x31, x32, x543000, x543001, x543002 => if x32 < x31 then (if 0 ≤ x32 then (if x32 < (x30.length : Int) then (if 0 ≤ (rd x30 x32) then (if (rd x30 x32) < (x543002.length : Int) then (booklet_Fields.l1 k x7 (rd x30 x32) x30 x31 x32 ((rd_T23 x543002 (rd x30 x32)).f4) 0 x543000 x543001 x543002) else (none)) else (none)) else (none)) else (none)) else (some x7)
def booklet_Fields.l1 : Nat → List (S53) → Int → List Int → Int → Int → Int → Int → Int → Int → List (S23) → Option ((List (S53)))
  | 0, _, _, _, _, _, _, _, _, _, _ => none
  | k + 1, x7, x9, x30, x31, x32, x41, x42, x543000, x543001, x543002 => if x42 < x41 then (if x7.length < 8796093022208 then (booklet_Fields.l1 k (x7 ++ [(⟨x9, x42⟩ : S53)]) x9 x30 x31 x32 x41 (wrap64 (x42 + 1)) x543000 x543001 x543002) else (none)) else (booklet_Fields.l0 k x7 x30 x31 (wrap64 (x32 + 1)) x543000 x543001 x543002)
end
def booklet_Fields.f (k : Nat) (a0_0 : Int) (a0_1 : Int) (l0_2 : List (S23)) (l1_0 : List (List Int)) (a2 : Int) : Option ((List (S53))) := (booklet_Valid.f k a0_0 a0_1 l0_2 l1_0).bind fun t544 => (if t544 = true then (if a2 < 0 then (booklet_Fields.j0 k a2 true a0_0 a0_1 l0_2 l1_0) else (booklet_Fields.j0 k a2 (decide (a2 ≥ (l1_0.length : Int))) a0_0 a0_1 l0_2 l1_0)) else (booklet_Fields.j0 k a2 true a0_0 a0_1 l0_2 l1_0))
theorem booklet_Fields.mono_l : ∀ k, (∀ y0 y1 y2 y3 y4 y5, LeO (booklet_Fields.j0 k y0 y1 y2 y3 y4 y5) (booklet_Fields.j0 (k + 1) y0 y1 y2 y3 y4 y5)) ∧ (∀ y0 y1 y2 y3 y4 y5 y6, LeO (booklet_Fields.l0 k y0 y1 y2 y3 y4 y5 y6) (booklet_Fields.l0 (k + 1) y0 y1 y2 y3 y4 y5 y6)) ∧ (∀ y0 y1 y2 y3 y4 y5 y6 y7 y8 y9, LeO (booklet_Fields.l1 k y0 y1 y2 y3 y4 y5 y6 y7 y8 y9) (booklet_Fields.l1 (k + 1) y0 y1 y2 y3 y4 y5 y6 y7 y8 y9))
  | 0 => ⟨fun _ _ _ _ _ _ r h => by simp [booklet_Fields.j0] at h, fun _ _ _ _ _ _ _ r h => by simp [booklet_Fields.l0] at h, fun _ _ _ _ _ _ _ _ _ _ r h => by simp [booklet_Fields.l1] at h⟩
  | k + 1 => by
    obtain ⟨ih0, ih1, ih2⟩ := booklet_Fields.mono_l k
    refine ⟨?_, ?_, ?_⟩
    · intro y0 y1 y2 y3 y4 y5
      unfold booklet_Fields.j0
      repeat' first
      | (with_reducible exact ih0 _ _ _ _ _ _)
      | (with_reducible exact ih1 _ _ _ _ _ _ _)
      | (with_reducible exact ih2 _ _ _ _ _ _ _ _ _ _)
      | (with_reducible exact booklet_Valid.mono _ _ _ _ _)
      | (with_reducible exact LeO.refl _)
      | (with_reducible exact LeO.none _)
      | (with_reducible refine LeO.ite ?_ ?_)
      | (with_reducible refine LeO.bind ?_ (fun _ => ?_))
      | exact ih0 _ _ _ _ _ _
      | exact ih1 _ _ _ _ _ _ _
      | exact ih2 _ _ _ _ _ _ _ _ _ _
      | exact booklet_Valid.mono _ _ _ _ _
      | exact LeO.none _
      | refine LeO.ite ?_ ?_
      | refine LeO.bind ?_ (fun _ => ?_)
    · intro y0 y1 y2 y3 y4 y5 y6
      unfold booklet_Fields.l0
      repeat' first
      | (with_reducible exact ih0 _ _ _ _ _ _)
      | (with_reducible exact ih1 _ _ _ _ _ _ _)
      | (with_reducible exact ih2 _ _ _ _ _ _ _ _ _ _)
      | (with_reducible exact booklet_Valid.mono _ _ _ _ _)
      | (with_reducible exact LeO.refl _)
      | (with_reducible exact LeO.none _)
      | (with_reducible refine LeO.ite ?_ ?_)
      | (with_reducible refine LeO.bind ?_ (fun _ => ?_))
      | exact ih0 _ _ _ _ _ _
      | exact ih1 _ _ _ _ _ _ _
      | exact ih2 _ _ _ _ _ _ _ _ _ _
      | exact booklet_Valid.mono _ _ _ _ _
      | exact LeO.none _
      | refine LeO.ite ?_ ?_
      | refine LeO.bind ?_ (fun _ => ?_)
    · intro y0 y1 y2 y3 y4 y5 y6 y7 y8 y9
      unfold booklet_Fields.l1
      repeat' first
      | (with_reducible exact ih0 _ _ _ _ _ _)
      | (with_reducible exact ih1 _ _ _ _ _ _ _)
      | (with_reducible exact ih2 _ _ _ _ _ _ _ _ _ _)
      | (with_reducible exact booklet_Valid.mono _ _ _ _ _)
      | (with_reducible exact LeO.refl _)
      | (with_reducible exact LeO.none _)
      | (with_reducible refine LeO.ite ?_ ?_)
      | (with_reducible refine LeO.bind ?_ (fun _ => ?_))
      | exact ih0 _ _ _ _ _ _
      | exact ih1 _ _ _ _ _ _ _
      | exact ih2 _ _ _ _ _ _ _ _ _ _
      | exact booklet_Valid.mono _ _ _ _ _
      | exact LeO.none _
      | refine LeO.ite ?_ ?_
      | refine LeO.bind ?_ (fun _ => ?_)
theorem booklet_Fields.mono : ∀ a0 a1 a2 a3 a4 k, LeO (booklet_Fields.f k a0 a1 a2 a3 a4) (booklet_Fields.f (k + 1) a0 a1 a2 a3 a4) := by
  intro a0 a1 a2 a3 a4 k
  obtain ⟨ih0, ih1, ih2⟩ := booklet_Fields.mono_l k
  unfold booklet_Fields.f
  repeat' first
      | (with_reducible exact ih0 _ _ _ _ _ _)
      | (with_reducible exact ih1 _ _ _ _ _ _ _)
      | (with_reducible exact ih2 _ _ _ _ _ _ _ _ _ _)
      | (with_reducible exact booklet_Valid.mono _ _ _ _ _)
      | (with_reducible exact LeO.refl _)
      | (with_reducible exact LeO.none _)
      | (with_reducible refine LeO.ite ?_ ?_)
      | (with_reducible refine LeO.bind ?_ (fun _ => ?_))
      | exact ih0 _ _ _ _ _ _
      | exact ih1 _ _ _ _ _ _ _
      | exact ih2 _ _ _ _ _ _ _ _ _ _
      | exact booklet_Valid.mono _ _ _ _ _
      | exact LeO.none _
      | refine LeO.ite ?_ ?_
      | refine LeO.bind ?_ (fun _ => ?_)
set_option maxHeartbeats 8000000 in
set_option maxRecDepth 100000 in
theorem booklet_Fields.calls (k : Nat) (a0_0 : Int) (a0_1 : Int) (A0_2 : Option Addr) (c0_2 : Nat) (l0_2 : List (S23)) (A1_0 : Option Addr) (c1_0 : Nat) (l1_0 : List (List Int)) (a2 : Int) (r : List (S53)) (w : World) (hr0_2 : Kd.C k23 w A0_2 l0_2.length l0_2) (hc0_2 : l0_2.length ≤ c0_2) (hr1_0 : Kd.C (Kd.slice 3 (Kd.int .i64)) w A1_0 l1_0.length l1_0) (hc1_0 : l1_0.length ≤ c1_0) (h : booklet_Fields.f k a0_0 a0_1 l0_2 l1_0 a2 = some r) :
    Calls Try.prog 27 #[.agg #[.int .i64 a0_0, .int .i64 a0_1, .slice A0_2 l0_2.length c0_2], .agg #[.slice A1_0 l1_0.length c1_0], .int .i64 a2] w fun e w' => ∃ v0_ : Value, e = .returned (v0_) ∧ Kd.R k53 53 w' w.heap.size (fun _ => True) v0_ r ∧ Below w.heap.size w w' := by
 have hu33 := Try.underlying33
 have hu38 := Try.underlying38
 have hu53 := Try.underlying53
 have HR0_2 := za hr0_2
 have HC0_2 := za hc0_2
 clear hr0_2 hc0_2
 have HR1_0 := za hr1_0
 have HC1_0 := za hc1_0
 clear hr1_0 hc1_0
 have HB := za (Below.refl w.heap.size w)
 have H : ((booklet_Valid.f k a0_0 a0_1 l0_2 l1_0).bind fun t544 => (if t544 = true then (if a2 < 0 then (booklet_Fields.j0 k a2 true a0_0 a0_1 l0_2 l1_0) else (booklet_Fields.j0 k a2 (decide (a2 ≥ (l1_0.length : Int))) a0_0 a0_1 l0_2 l1_0)) else (booklet_Fields.j0 k a2 true a0_0 a0_1 l0_2 l1_0))) = some r := h
 clear h
 have HC4 := za H
 clear H
 go_enter Try.func27, Try.ntmps27
 go_upto_region 1 with (first | ((with_reducible refine gate_dst (N := 3) rfl ?_); (try (refine gate_guard (by rfl) ?_; dsimp only)); refine zE 3 #[.int .i64 a0_0, .int .i64 a0_1, .slice A0_2 l0_2.length c0_2] 33 ?_; intro gb542 hg w5 hbox hb; have BK542 := za (hbox); have GW542 := zg HB hg; have GE542 := zg HB hg; replace HB := zs HB hb; clear hb hbox hg) | ((with_reducible refine gate_dst (N := 4) rfl ?_); (try (refine gate_guard (by rfl) ?_; dsimp only)); refine zE 4 #[.slice A1_0 l1_0.length c1_0] 38 ?_; intro gb543 hg w6 hbox hb; have BK543 := za (hbox); have GW543 := zg HB hg; have GE543 := zg HB hg; have NB542_543 := zl BK542 hg; have NB543_542 := zr BK542 hg; replace BK542 := zb BK542 hb; replace HB := zs HB hb; clear hb hbox hg))
 (try simp only [Act.put, List.setIfInBounds_toArray, List.set_cons_zero, List.set_cons_succ])
 go_cut [25] (fun v25 wc => ∃ (kq : Nat) (x25_3 : Bool), v25 = .bool x25_3 ∧ Aside0 (booklet_Fields.j0 kq a2 x25_3 a0_0 a0_1 l0_2 l1_0 = some r) ∧ Aside0 (kq ≤ k) ∧ Aside0 (wc.heap[gb542]? = some (.cells #[.int .i64 a0_0, .int .i64 a0_1, (.slice A0_2 l0_2.length c0_2)] 33 (0, 0))) ∧ Aside0 (wc.heap[gb543]? = some (.cells #[(.slice A1_0 l1_0.length c1_0)] 38 (0, 0))) ∧ Aside0 (Below w.heap.size w wc))
 case first =>
  have H := HC4.out
  clear HC4
  replace H := Option.bind_eq_some_iff.mp H
  obtain ⟨t544, A70, H⟩ := H
  replace H : (if t544 = true then (if a2 < 0 then (booklet_Fields.j0 k a2 true a0_0 a0_1 l0_2 l1_0) else (booklet_Fields.j0 k a2 (decide (a2 ≥ (l1_0.length : Int))) a0_0 a0_1 l0_2 l1_0)) else (booklet_Fields.j0 k a2 true a0_0 a0_1 l0_2 l1_0)) = some r := H
  have A7 := za A70
  clear A70
  by_cases c8 : t544 = true
  ·subst c8
   have H1 : (if a2 < 0 then (booklet_Fields.j0 k a2 true a0_0 a0_1 l0_2 l1_0) else (booklet_Fields.j0 k a2 (decide (a2 ≥ (l1_0.length : Int))) a0_0 a0_1 l0_2 l1_0)) = some r := by rw [if_pos rfl] at H; exact H
   clear H
   have H := H1
   clear H1
   by_cases c9 : a2 < 0
   ·rw [if_pos c9] at H
    have c9b0 : decide (a2 < 0) = true := decide_eq_true c9
    clear c9
    (first | rw [c9b0] | (simp only [i64_w, i32_w]; rw [c9b0]) | skip)
    have H' := za H
    clear H
    have hnb10 := NB542_543.out
    have hnc10 := NB543_542.out
    obtain ⟨hcz11_0, hcz11_1, hcz11_2, hfz11_0, hfz11_1, hfz11_2⟩ := z3 BK542
    obtain ⟨hcz12_0, hfz12_0⟩ := z1 BK543
    go_wp2_with (first | ((with_reducible refine gate_callee (f := 23) rfl ?_); refine zL (some 13) Try.func23 #[.agg #[.int .i64 a0_0, .int .i64 a0_1, .slice A0_2 l0_2.length c0_2], .agg #[.slice A1_0 l1_0.length c1_0]] ?_; (with_reducible refine (booklet_Valid.calls k a0_0 a0_1 _ _ l0_2 _ _ l1_0 true _ ?side1 ?side2 ?side3 ?side4 A7.out).mono ?_); (case side1 => exact zC HR0_2 HB); (case side2 => exact HC0_2.out); (case side3 => exact zC HR1_0 HB); (case side4 => exact HC1_0.out); rintro e w13 ⟨rfl, hb⟩; refine ⟨_, rfl, ?_⟩; replace BK542 := zb BK542 hb; replace BK543 := zb BK543 hb; replace HB := zs HB hb; (try clear hb); (try clear hb2); (try clear hk); (try clear hi)))
    go_meet
    case rel => exact ⟨_, (true), (by first | rfl | (simp; done) | (simp [*]; done)), H', ⟨by first | omega | exact Nat.le_refl _⟩, ⟨by (with_reducible repeat (first | refine blk_drewN ?_ _ | refine blk_drew ?_ | refine blk_alloc ?_ _)); exact BK542.out⟩, ⟨by (with_reducible repeat (first | refine blk_drewN ?_ _ | refine blk_drew ?_ | refine blk_alloc ?_ _)); exact BK543.out⟩, ⟨zm HB⟩⟩
   ·rw [if_neg c9] at H
    have c9b0 : decide (a2 < 0) = false := decide_eq_false c9
    clear c9
    (first | rw [c9b0] | (simp only [i64_w, i32_w]; rw [c9b0]) | skip)
    have H' := za H
    clear H
    have hnb14 := NB542_543.out
    have hnc14 := NB543_542.out
    obtain ⟨hcz15_0, hcz15_1, hcz15_2, hfz15_0, hfz15_1, hfz15_2⟩ := z3 BK542
    obtain ⟨hcz16_0, hfz16_0⟩ := z1 BK543
    go_wp2_with (first | ((with_reducible refine gate_callee (f := 23) rfl ?_); refine zL (some 13) Try.func23 #[.agg #[.int .i64 a0_0, .int .i64 a0_1, .slice A0_2 l0_2.length c0_2], .agg #[.slice A1_0 l1_0.length c1_0]] ?_; (with_reducible refine (booklet_Valid.calls k a0_0 a0_1 _ _ l0_2 _ _ l1_0 true _ ?side1 ?side2 ?side3 ?side4 A7.out).mono ?_); (case side1 => exact zC HR0_2 HB); (case side2 => exact HC0_2.out); (case side3 => exact zC HR1_0 HB); (case side4 => exact HC1_0.out); rintro e w17 ⟨rfl, hb⟩; refine ⟨_, rfl, ?_⟩; replace BK542 := zb BK542 hb; replace BK543 := zb BK543 hb; replace HB := zs HB hb; (try clear hb); (try clear hb2); (try clear hk); (try clear hi); obtain ⟨hcz18_0, hfz18_0⟩ := z1 BK543))
    go_meet
    case rel => exact ⟨_, (decide (a2 ≥ (l1_0.length : Int))), (by first | rfl | (simp; done) | (simp [*]; done)), H', ⟨by first | omega | exact Nat.le_refl _⟩, ⟨by (with_reducible repeat (first | refine blk_drewN ?_ _ | refine blk_drew ?_ | refine blk_alloc ?_ _)); exact BK542.out⟩, ⟨by (with_reducible repeat (first | refine blk_drewN ?_ _ | refine blk_drew ?_ | refine blk_alloc ?_ _)); exact BK543.out⟩, ⟨zm HB⟩⟩
  ·replace c8 := Bool.eq_false_iff.mpr c8
   subst c8
   have H1 : (booklet_Fields.j0 k a2 true a0_0 a0_1 l0_2 l1_0) = some r := by rw [if_neg (show ¬ (false = true) by decide)] at H; exact H
   clear H
   have H := H1
   clear H1
   have H' := za H
   clear H
   have hnb19 := NB542_543.out
   have hnc19 := NB543_542.out
   obtain ⟨hcz20_0, hcz20_1, hcz20_2, hfz20_0, hfz20_1, hfz20_2⟩ := z3 BK542
   obtain ⟨hcz21_0, hfz21_0⟩ := z1 BK543
   go_wp2_with (first | ((with_reducible refine gate_callee (f := 23) rfl ?_); refine zL (some 13) Try.func23 #[.agg #[.int .i64 a0_0, .int .i64 a0_1, .slice A0_2 l0_2.length c0_2], .agg #[.slice A1_0 l1_0.length c1_0]] ?_; (with_reducible refine (booklet_Valid.calls k a0_0 a0_1 _ _ l0_2 _ _ l1_0 false _ ?side1 ?side2 ?side3 ?side4 A7.out).mono ?_); (case side1 => exact zC HR0_2 HB); (case side2 => exact HC0_2.out); (case side3 => exact zC HR1_0 HB); (case side4 => exact HC1_0.out); rintro e w22 ⟨rfl, hb⟩; refine ⟨_, rfl, ?_⟩; replace BK542 := zb BK542 hb; replace BK543 := zb BK543 hb; replace HB := zs HB hb; (try clear hb); (try clear hb2); (try clear hk); (try clear hi)))
   go_meet
   case rel => exact ⟨_, (true), (by first | rfl | (simp; done) | (simp [*]; done)), H', ⟨by first | omega | exact Nat.le_refl _⟩, ⟨by (with_reducible repeat (first | refine blk_drewN ?_ _ | refine blk_drew ?_ | refine blk_alloc ?_ _)); exact BK542.out⟩, ⟨by (with_reducible repeat (first | refine blk_drewN ?_ _ | refine blk_drew ?_ | refine blk_alloc ?_ _)); exact BK543.out⟩, ⟨zm HB⟩⟩
 case rest =>
  clear HC4
  try clear c1
  try clear c2
  try clear p2
  try clear c8
  try clear c9
  try clear c9b0
  try clear c10
  try clear c14
  try clear c19
  try clear hcz11_0
  try clear hcz11_1
  try clear hcz11_2
  try clear hcz12_0
  try clear hcz15_0
  try clear hcz15_1
  try clear hcz15_2
  try clear hcz16_0
  try clear hcz18_0
  try clear hcz20_0
  try clear hcz20_1
  try clear hcz20_2
  try clear hcz21_0
  try clear hfz11_0
  try clear hfz11_1
  try clear hfz11_2
  try clear hfz12_0
  try clear hfz15_0
  try clear hfz15_1
  try clear hfz15_2
  try clear hfz16_0
  try clear hfz18_0
  try clear hfz20_0
  try clear hfz20_1
  try clear hfz20_2
  try clear hfz21_0
  obtain ⟨kq, x25_3, rfl, HA, HJ3, BK542, BK543, HB⟩ := hcut
  cases kq with
  | zero => exact absurd HA.out (by simp [booklet_Fields.j0])
  | succ kj3 =>
   have H := HA.out
   clear HA
   simp only [booklet_Fields.j0] at H
   by_cases c23 : x25_3 = true
   ·subst c23
    have H1 : (some ([] : List (S53))) = some r := by rw [if_pos rfl] at H; exact H
    clear H
    have H := H1
    clear H1
    obtain rfl := Option.some.inj H
    go_wp2
    go_ret
    exact ⟨_, zf, by first | exact Kd.R_nil _ _ _ _ _ | exact Kd.N_nil _ _ _ _ _ | exact Kd.V_nil _ _ _ _ _ | exact Kd.Q_nil _ _ _ _ _ | exact Kd.S_nil _ _ _ _ _, zm HB⟩
   ·replace c23 := Bool.eq_false_iff.mpr c23
    subst c23
    have H1 : (if 0 ≤ a2 then (if a2 < (l1_0.length : Int) then (booklet_Fields.l0 kj3 ([] : List (S53)) (rd_L2 l1_0 a2) ((rd_L2 l1_0 a2).length : Int) 0 a0_0 a0_1 l0_2) else (none)) else (none)) = some r := by rw [if_neg (show ¬ (false = true) by decide)] at H; exact H
    clear H
    have H := H1
    clear H1
    by_cases c24 : 0 ≤ a2
    ·rw [if_pos c24] at H
     have c24b0 : decide (0 ≤ a2) = true := decide_eq_true c24
     clear c24
     by_cases c25 : a2 < (l1_0.length : Int)
     ·rw [if_pos c25] at H
      have c25b0 : decide (a2 < (l1_0.length : Int)) = true := decide_eq_true c25
      clear c25
      have H' := za H
      clear H
      have hnb26 := NB543_542.out
      have hnc26 := NB542_543.out
      obtain ⟨hcz27_0, hfz27_0⟩ := z1 BK543
      have p545 : 0 ≤ (a2 : Int) := of_decide_eq_true (by first | (with_reducible assumption) | assumption)
      have q545 : a2 < (l1_0.length : Int) := of_decide_eq_true (by first | (with_reducible assumption) | assumption)
      obtain ⟨ad545, A545_0, c545_0, e545, hx545_0, hl545_0, hi545_0⟩ := at_L2 HR1_0.out a2 p545 q545
      cases e545
      replace hx545_0 := zx HB hx545_0
      have HR545_0 := za hi545_0
      have HC545_0 := za hl545_0
      clear hi545_0 hl545_0
      replace p545 := eq_true p545
      replace q545 := eq_true q545
      go_wp2
      go_loopg [7, 32] kj3 (fun kq v7 v32 w' => ∃ (x7_2 : List (S53)) (x32_2 : Int), v32 = .int .i64 x32_2 ∧ Aside0 (booklet_Fields.l0 kq x7_2 (rd_L2 l1_0 a2) ((rd_L2 l1_0 a2).length : Int) x32_2 a0_0 a0_1 l0_2 = some r) ∧ Aside0 (kq ≤ kj3) ∧ Aside0 (Kd.R k53 53 w' w.heap.size (fun _ => True) v7 x7_2) ∧ Aside0 (w'.heap[gb542]? = some (.cells #[.int .i64 a0_0, .int .i64 a0_1, (.slice A0_2 l0_2.length c0_2)] 33 (0, 0))) ∧ Aside0 (w'.heap[gb543]? = some (.cells #[(.slice (some ad545) l1_0.length c1_0)] 38 (0, 0))) ∧ Aside0 (Below w.heap.size w w'))
      case atStart => exact ⟨(([] : List (S53))), (0), (by first | rfl | (simp; done) | (simp [*]; done)), H', ⟨Nat.le_refl _⟩, ⟨by first | exact Kd.R_nil _ _ _ _ _ | exact Kd.N_nil _ _ _ _ _ | exact Kd.V_nil _ _ _ _ _ | exact Kd.Q_nil _ _ _ _ _ | exact Kd.S_nil _ _ _ _ _⟩, ⟨by (with_reducible repeat (first | refine blk_drewN ?_ _ | refine blk_drew ?_ | refine blk_alloc ?_ _)); exact BK542.out⟩, ⟨by (with_reducible repeat (first | refine blk_drewN ?_ _ | refine blk_drew ?_ | refine blk_alloc ?_ _)); exact BK543.out⟩, ⟨zm HB⟩⟩
      case round =>
       clear H'
       try clear c1
       try clear c2
       try clear p2
       try clear c5
       try clear p5
       try clear q5
       try clear hx5
       try clear c8
       try clear c9
       try clear c9b0
       try clear c10
       try clear c14
       try clear c19
       try clear c23
       try clear c24
       try clear c24b0
       try clear c25
       try clear c25b0
       try clear c26
       try clear c27
       try clear hcz11_0
       try clear hcz11_1
       try clear hcz11_2
       try clear hcz12_0
       try clear hcz15_0
       try clear hcz15_1
       try clear hcz15_2
       try clear hcz16_0
       try clear hcz18_0
       try clear hcz20_0
       try clear hcz20_1
       try clear hcz20_2
       try clear hcz21_0
       try clear hcz27_0
       try clear hfz11_0
       try clear hfz11_1
       try clear hfz11_2
       try clear hfz12_0
       try clear hfz15_0
       try clear hfz15_1
       try clear hfz15_2
       try clear hfz16_0
       try clear hfz18_0
       try clear hfz20_0
       try clear hfz20_1
       try clear hfz20_2
       try clear hfz21_0
       try clear hfz27_0
       try clear hx545_0
       try clear p2
       try clear p545
       try clear q545
       obtain ⟨x7_2, x32_2, rfl, HA, HK2, HO_7, BK542, BK543, HB⟩ := hrel
       cases gk with
       | zero => exact absurd HA.out (by simp [booklet_Fields.l0])
       | succ k2 =>
        have H := HA.out
        clear HA
        simp only [booklet_Fields.l0] at H
        by_cases c28 : x32_2 < ((rd_L2 l1_0 a2).length : Int)
        ·rw [if_pos c28] at H
         have c28b0 : decide (x32_2 < ((rd_L2 l1_0 a2).length : Int)) = true := decide_eq_true c28
         clear c28
         by_cases c29 : 0 ≤ x32_2
         ·rw [if_pos c29] at H
          have c29b0 : decide (0 ≤ x32_2) = true := decide_eq_true c29
          clear c29
          by_cases c30 : x32_2 < ((rd_L2 l1_0 a2).length : Int)
          ·rw [if_pos c30] at H
           have c30b0 : decide (x32_2 < ((rd_L2 l1_0 a2).length : Int)) = true := decide_eq_true c30
           clear c30
           by_cases c31 : 0 ≤ (rd (rd_L2 l1_0 a2) x32_2)
           ·rw [if_pos c31] at H
            have c31b0 : decide (0 ≤ (rd (rd_L2 l1_0 a2) x32_2)) = true := decide_eq_true c31
            clear c31
            by_cases c32 : (rd (rd_L2 l1_0 a2) x32_2) < (l0_2.length : Int)
            ·rw [if_pos c32] at H
             have c32b0 : decide ((rd (rd_L2 l1_0 a2) x32_2) < (l0_2.length : Int)) = true := decide_eq_true c32
             clear c32
             have H' := za H
             clear H
             have p546 : 0 ≤ (x32_2 : Int) := of_decide_eq_true (by first | (with_reducible assumption) | assumption)
             have q546 : x32_2 < ((rd_L2 l1_0 a2).length : Int) := of_decide_eq_true (by first | (with_reducible assumption) | assumption)
             obtain ⟨ad546, e546, hx546_0⟩ := Kd.at_int HR545_0.out x32_2 p546 q546
             cases e546
             replace hx546_0 := zx HB hx546_0
             replace p546 := eq_true p546
             replace q546 := eq_true q546
             have hnb33 := NB542_543.out
             have hnc33 := NB543_542.out
             obtain ⟨hcz34_0, hcz34_1, hcz34_2, hfz34_0, hfz34_1, hfz34_2⟩ := z3 BK542
             have p547 : 0 ≤ ((rd (rd_L2 l1_0 a2) x32_2) : Int) := of_decide_eq_true (by first | (with_reducible assumption) | assumption)
             have q547 : (rd (rd_L2 l1_0 a2) x32_2) < (l0_2.length : Int) := of_decide_eq_true (by first | (with_reducible assumption) | assumption)
             obtain ⟨ad547, e547, hx547_0, hx547_1, hx547_2, hx547_3, hx547_4, hx547_5⟩ := at_T23 HR0_2.out (rd (rd_L2 l1_0 a2) x32_2) p547 q547
             cases e547
             replace hx547_0 := zx HB hx547_0
             replace hx547_1 := zx HB hx547_1
             replace hx547_2 := zx HB hx547_2
             replace hx547_3 := zx HB hx547_3
             replace hx547_4 := zx HB hx547_4
             replace hx547_5 := zx HB hx547_5
             replace p547 := eq_true p547
             replace q547 := eq_true q547
             go_wp2
             go_loopg [7, 42] k2 (fun kq v7 v42 w' => ∃ (x7_3 : List (S53)) (x42_3 : Int), v42 = .int .i64 x42_3 ∧ Aside0 (booklet_Fields.l1 kq x7_3 (rd (rd_L2 l1_0 a2) x32_2) (rd_L2 l1_0 a2) ((rd_L2 l1_0 a2).length : Int) x32_2 ((rd_T23 l0_2 (rd (rd_L2 l1_0 a2) x32_2)).f4) x42_3 a0_0 a0_1 l0_2 = some r) ∧ Aside0 (kq ≤ k2) ∧ Aside0 (Kd.R k53 53 w' w.heap.size (fun _ => True) v7 x7_3) ∧ Aside0 (w'.heap[gb542]? = some (.cells #[.int .i64 a0_0, .int .i64 a0_1, (.slice (some ad547) l0_2.length c0_2)] 33 (0, 0))) ∧ Aside0 (w'.heap[gb543]? = some (.cells #[(.slice (some ad545) l1_0.length c1_0)] 38 (0, 0))) ∧ Aside0 (Below w.heap.size w w'))
             case atStart => exact ⟨(x7_2), (0), (by first | rfl | (simp; done) | (simp [*]; done)), H', ⟨Nat.le_refl _⟩, ⟨by (with_reducible repeat (first | apply Kd.R_alloc | apply Kd.R_drewN | apply Kd.R_drew)); exact HO_7.out⟩, ⟨by (with_reducible repeat (first | refine blk_drewN ?_ _ | refine blk_drew ?_ | refine blk_alloc ?_ _)); exact BK542.out⟩, ⟨by (with_reducible repeat (first | refine blk_drewN ?_ _ | refine blk_drew ?_ | refine blk_alloc ?_ _)); exact BK543.out⟩, ⟨zm HB⟩⟩
             case round =>
              clear H'
              try clear c1
              try clear c2
              try clear p2
              try clear c3
              try clear c5
              try clear p5
              try clear q5
              try clear hx5
              try clear c8
              try clear c9
              try clear c9b0
              try clear c10
              try clear c14
              try clear c19
              try clear c23
              try clear c24
              try clear c24b0
              try clear c25
              try clear c25b0
              try clear c26
              try clear c27
              try clear c28
              try clear c28b0
              try clear c29
              try clear c29b0
              try clear c30
              try clear c30b0
              try clear c31
              try clear c31b0
              try clear c32
              try clear c32b0
              try clear c33
              try clear hcz11_0
              try clear hcz11_1
              try clear hcz11_2
              try clear hcz12_0
              try clear hcz15_0
              try clear hcz15_1
              try clear hcz15_2
              try clear hcz16_0
              try clear hcz18_0
              try clear hcz20_0
              try clear hcz20_1
              try clear hcz20_2
              try clear hcz21_0
              try clear hcz27_0
              try clear hcz34_0
              try clear hcz34_1
              try clear hcz34_2
              try clear hfz11_0
              try clear hfz11_1
              try clear hfz11_2
              try clear hfz12_0
              try clear hfz15_0
              try clear hfz15_1
              try clear hfz15_2
              try clear hfz16_0
              try clear hfz18_0
              try clear hfz20_0
              try clear hfz20_1
              try clear hfz20_2
              try clear hfz21_0
              try clear hfz27_0
              try clear hfz34_0
              try clear hfz34_1
              try clear hfz34_2
              try clear hx545_0
              try clear hx546_0
              try clear hx547_0
              try clear hx547_1
              try clear hx547_2
              try clear hx547_3
              try clear hx547_4
              try clear hx547_5
              try clear p2
              try clear p5
              try clear p545
              try clear p546
              try clear p547
              try clear q5
              try clear q545
              try clear q546
              try clear q547
              obtain ⟨x7_3, x42_3, rfl, HA, HK3, HO_7, BK542, BK543, HB⟩ := hrel
              cases gk with
              | zero => exact absurd HA.out (by simp [booklet_Fields.l1])
              | succ k3 =>
               have H := HA.out
               clear HA
               simp only [booklet_Fields.l1] at H
               by_cases c35 : x42_3 < ((rd_T23 l0_2 (rd (rd_L2 l1_0 a2) x32_2)).f4)
               ·rw [if_pos c35] at H
                have c35b0 : decide (x42_3 < ((rd_T23 l0_2 (rd (rd_L2 l1_0 a2) x32_2)).f4)) = true := decide_eq_true c35
                clear c35
                by_cases c36 : x7_3.length < 8796093022208
                ·rw [if_pos c36] at H
                 have LMc36 := za c36
                 clear c36
                 obtain ⟨y548, hy548⟩ : ∃ y_ : List (S53), y_ = (x7_3 ++ [(⟨(rd (rd_L2 l1_0 a2) x32_2), x42_3⟩ : S53)]) := ⟨_, rfl⟩
                 replace H : (booklet_Fields.l1 k3 y548 (rd (rd_L2 l1_0 a2) x32_2) (rd_L2 l1_0 a2) ((rd_L2 l1_0 a2).length : Int) x32_2 ((rd_T23 l0_2 (rd (rd_L2 l1_0 a2) x32_2)).f4) (wrap64 (x42_3 + 1)) a0_0 a0_1 l0_2) = some r := by first | (rw [hy548]; with_reducible exact H) | (have H2_ := (Option.bind_some _ _).symm.trans H; rw [hy548]; with_reducible exact H2_) | (have H2_ := (Option.bind_some _ _).symm.trans H; with_reducible exact H2_) | with_reducible exact H | (rw [hy548]; exact H) | exact H
                 have Ny548 := za hy548
                 clear hy548
                 have H' := za H
                 clear H
                 go_wp2_with (first | ((with_reducible refine gate_builtin (b := .append) (xs := #[.tmp 45, .tmp 49]) rfl ?_); (try (refine gate_guard (by rfl) ?_; dsimp only)); at_builtin; refine Kd.R_append k53 (w0 := w) w.heap.size rfl (.tmp 45) (.tmp 49) 50 53 (.agg #[(.int .i64 0), (.int .i64 0)]) 16 rfl Try.underlying50 info53 rfl (by decide) (by omega) u7 x7_3 (⟨(rd (rd_L2 l1_0 a2) x32_2), x42_3⟩ : S53) [.int .i64 (rd (rd_L2 l1_0 a2) x32_2), .int .i64 x42_3] (fun _ => True) (fun _ => False) rfl rfl ?aP (fun _ hk => hk.elim) ?aF ?aO ?aB ?aS ?aL ?_; (case aP => exact k53_mkM _ _ _ (⟨(rd (rd_L2 l1_0 a2) x32_2), x42_3⟩ : S53)); (case aB => exact (zm HB)); (case aF => exact (fun _ _ => trivial)); (case aO => exact (by (with_reducible repeat (first | apply Kd.R_alloc | apply Kd.R_drewN | apply Kd.R_drew)); exact HO_7.out)); (case aS => exact (below_size (zm HB))); (case aL => have := LMc36.out; omega); intro v549 w37 ho hb hg hat; rw [← Ny548.out] at ho; have HO550 := za (ho); replace BK542 := (zw BK542 hg (Kd.R_ne HO_7.out BK542.out (by decide))); replace BK543 := (zw BK543 hg (Kd.R_ne HO_7.out BK543.out (by decide))); replace HB := za (hb); clear HO_7 ho hb hg hat))
                 go_roundg k3
                 case measure => have := HJ3.out; have := HK2.out; have := HK3.out; omega
                 case rel => exact ⟨(y548), (wrap64 (x42_3 + 1)), (by first | rfl | (simp; done) | (simp [*]; done)), H', ⟨by have := HJ3.out; have := HK2.out; have := HK3.out; omega⟩, ⟨by (with_reducible repeat (first | apply Kd.R_alloc | apply Kd.R_drewN | apply Kd.R_drew)); exact HO550.out⟩, ⟨by (with_reducible repeat (first | refine blk_drewN ?_ _ | refine blk_drew ?_ | refine blk_alloc ?_ _)); exact BK542.out⟩, ⟨by (with_reducible repeat (first | refine blk_drewN ?_ _ | refine blk_drew ?_ | refine blk_alloc ?_ _)); exact BK543.out⟩, ⟨zm HB⟩⟩
                ·rw [if_neg c36] at H
                 exact absurd H (by simp)
               ·rw [if_neg c35] at H
                have c35b0 : decide (x42_3 < ((rd_T23 l0_2 (rd (rd_L2 l1_0 a2) x32_2)).f4)) = false := decide_eq_false c35
                clear c35
                have H' := za H
                clear H
                go_wp2
                go_roundg k3
                case measure => have := HJ3.out; have := HK2.out; have := HK3.out; omega
                case rel => exact ⟨(x7_3), (wrap64 (x32_2 + 1)), (by first | rfl | (simp; done) | (simp [*]; done)), H', ⟨by have := HJ3.out; have := HK2.out; have := HK3.out; omega⟩, ⟨by (with_reducible repeat (first | apply Kd.R_alloc | apply Kd.R_drewN | apply Kd.R_drew)); exact HO_7.out⟩, ⟨by (with_reducible repeat (first | refine blk_drewN ?_ _ | refine blk_drew ?_ | refine blk_alloc ?_ _)); exact BK542.out⟩, ⟨by (with_reducible repeat (first | refine blk_drewN ?_ _ | refine blk_drew ?_ | refine blk_alloc ?_ _)); exact BK543.out⟩, ⟨zm HB⟩⟩
            ·rw [if_neg c32] at H
             exact absurd H (by simp)
           ·rw [if_neg c31] at H
            exact absurd H (by simp)
          ·rw [if_neg c30] at H
           exact absurd H (by simp)
         ·rw [if_neg c29] at H
          exact absurd H (by simp)
        ·rw [if_neg c28] at H
         have c28b0 : decide (x32_2 < ((rd_L2 l1_0 a2).length : Int)) = false := decide_eq_false c28
         clear c28
         obtain rfl := Option.some.inj H
         go_wp2
         go_ret
         exact ⟨_, zf, by (with_reducible repeat (first | apply Kd.R_alloc | apply Kd.R_drewN | apply Kd.R_drew)); exact HO_7.out, zm HB⟩
     ·rw [if_neg c25] at H
      exact absurd H (by simp)
    ·rw [if_neg c24] at H
     exact absurd H (by simp)

end Go.Proofs.Ytdmlbgdefapcjaa.Print
