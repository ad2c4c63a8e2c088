-- Printed by a program of this session (wip/own_print.py) out of the translation; Lean checks it.
import Derived.Test.YtdmlbgdefapcjaaShort
import Derived.Test.YtdmlbgdefapcjaaPrint0
import Derived.Test.YtdmlbgdefapcjaaPrint1
namespace Go.Proofs.Ytdmlbgdefapcjaa.Print
open Go.RowKit Go.Proofs.YtdmlbgdefapcjaaW.PrintWords Go.Proofs.YtdmlbgdefapcjaaW.PrintLast Go.Proofs.YtdmlbgdefapcjaaW.PrintMore
attribute [local go_sem] max2_int min2_int max_two min_two max_three min_three max_four min_four   -- for this text's walks alone
set_option linter.unusedVariables false
set_option linter.unusedSimpArgs false

/-! ### booklet_Fields: function 27 -/
mutual
def booklet_Fields.j0 : Nat → Int → Bool → Int → Int → List (S23) → List (List Int) → Option ((List (S53)))
  | 0, _, _, _, _, _, _ => none
  | k + 1, x2, x25, x270000, x270001, x270002, x271000 => if x25 = true then (some ([] : List (S53))) else (if 0 ≤ x2 then (if x2 < (x271000.length : Int) then (booklet_Fields.l0 k ([] : List (S53)) (rd_L2 x271000 x2) ((rd_L2 x271000 x2).length : Int) 0 x270000 x270001 x270002) else (none)) else (none))
def booklet_Fields.l0 : Nat → List (S53) → List Int → Int → Int → Int → Int → List (S23) → Option ((List (S53)))
  | 0, _, _, _, _, _, _, _ => none
  | k + 1, x7, x30, x31, x32, x270000, x270001, x270002 => if x32 < x31 then (if 0 ≤ x32 then (if x32 < (x30.length : Int) then (if 0 ≤ (rd x30 x32) then (if (rd x30 x32) < (x270002.length : Int) then (booklet_Fields.l1 k x7 (rd x30 x32) x30 x31 x32 ((rd_T23 x270002 (rd x30 x32)).f4) 0 x270000 x270001 x270002) else (none)) else (none)) else (none)) else (none)) else (some x7)
def booklet_Fields.l1 : Nat → List (S53) → Int → List Int → Int → Int → Int → Int → Int → Int → List (S23) → Option ((List (S53)))
  | 0, _, _, _, _, _, _, _, _, _, _ => none
  | k + 1, x7, x9, x30, x31, x32, x41, x42, x270000, x270001, x270002 => if x42 < x41 then (if x7.length < 8796093022208 then (booklet_Fields.l1 k (x7 ++ [(⟨x9, x42⟩ : S53)]) x9 x30 x31 x32 x41 (wrap64 (x42 + 1)) x270000 x270001 x270002) else (none)) else (booklet_Fields.l0 k x7 x30 x31 (wrap64 (x32 + 1)) x270000 x270001 x270002)
end
def booklet_Fields.f (k : Nat) (a0_0 : Int) (a0_1 : Int) (l0_2 : List (S23)) (l1_0 : List (List Int)) (a2 : Int) : Option ((List (S53))) := (booklet_Valid.f k a0_0 a0_1 l0_2 l1_0).bind fun t271 => (if t271 = true then (if a2 < 0 then (booklet_Fields.j0 k a2 true a0_0 a0_1 l0_2 l1_0) else (booklet_Fields.j0 k a2 (decide (a2 ≥ (l1_0.length : Int))) a0_0 a0_1 l0_2 l1_0)) else (booklet_Fields.j0 k a2 true a0_0 a0_1 l0_2 l1_0))
theorem booklet_Fields.mono_l : ∀ k, (∀ y0 y1 y2 y3 y4 y5, LeO (booklet_Fields.j0 k y0 y1 y2 y3 y4 y5) (booklet_Fields.j0 (k + 1) y0 y1 y2 y3 y4 y5)) ∧ (∀ y0 y1 y2 y3 y4 y5 y6, LeO (booklet_Fields.l0 k y0 y1 y2 y3 y4 y5 y6) (booklet_Fields.l0 (k + 1) y0 y1 y2 y3 y4 y5 y6)) ∧ (∀ y0 y1 y2 y3 y4 y5 y6 y7 y8 y9, LeO (booklet_Fields.l1 k y0 y1 y2 y3 y4 y5 y6 y7 y8 y9) (booklet_Fields.l1 (k + 1) y0 y1 y2 y3 y4 y5 y6 y7 y8 y9))
  | 0 => ⟨fun _ _ _ _ _ _ r h => by simp [booklet_Fields.j0] at h, fun _ _ _ _ _ _ _ r h => by simp [booklet_Fields.l0] at h, fun _ _ _ _ _ _ _ _ _ _ r h => by simp [booklet_Fields.l1] at h⟩
  | k + 1 => by
    obtain ⟨ih0, ih1, ih2⟩ := booklet_Fields.mono_l k
    refine ⟨?_, ?_, ?_⟩
    · intro y0 y1 y2 y3 y4 y5
      unfold booklet_Fields.j0
      repeat' first
      | (with_reducible exact ih0 _ _ _ _ _ _)
      | (with_reducible exact ih1 _ _ _ _ _ _ _)
      | (with_reducible exact ih2 _ _ _ _ _ _ _ _ _ _)
      | (with_reducible exact booklet_Valid.mono _ _ _ _ _)
      | (with_reducible exact LeO.refl _)
      | (with_reducible exact LeO.none _)
      | (with_reducible refine LeO.ite ?_ ?_)
      | (with_reducible refine LeO.bind ?_ (fun _ => ?_))
      | exact ih0 _ _ _ _ _ _
      | exact ih1 _ _ _ _ _ _ _
      | exact ih2 _ _ _ _ _ _ _ _ _ _
      | exact booklet_Valid.mono _ _ _ _ _
      | exact LeO.none _
      | refine LeO.ite ?_ ?_
      | refine LeO.bind ?_ (fun _ => ?_)
    · intro y0 y1 y2 y3 y4 y5 y6
      unfold booklet_Fields.l0
      repeat' first
      | (with_reducible exact ih0 _ _ _ _ _ _)
      | (with_reducible exact ih1 _ _ _ _ _ _ _)
      | (with_reducible exact ih2 _ _ _ _ _ _ _ _ _ _)
      | (with_reducible exact booklet_Valid.mono _ _ _ _ _)
      | (with_reducible exact LeO.refl _)
      | (with_reducible exact LeO.none _)
      | (with_reducible refine LeO.ite ?_ ?_)
      | (with_reducible refine LeO.bind ?_ (fun _ => ?_))
      | exact ih0 _ _ _ _ _ _
      | exact ih1 _ _ _ _ _ _ _
      | exact ih2 _ _ _ _ _ _ _ _ _ _
      | exact booklet_Valid.mono _ _ _ _ _
      | exact LeO.none _
      | refine LeO.ite ?_ ?_
      | refine LeO.bind ?_ (fun _ => ?_)
    · intro y0 y1 y2 y3 y4 y5 y6 y7 y8 y9
      unfold booklet_Fields.l1
      repeat' first
      | (with_reducible exact ih0 _ _ _ _ _ _)
      | (with_reducible exact ih1 _ _ _ _ _ _ _)
      | (with_reducible exact ih2 _ _ _ _ _ _ _ _ _ _)
      | (with_reducible exact booklet_Valid.mono _ _ _ _ _)
      | (with_reducible exact LeO.refl _)
      | (with_reducible exact LeO.none _)
      | (with_reducible refine LeO.ite ?_ ?_)
      | (with_reducible refine LeO.bind ?_ (fun _ => ?_))
      | exact ih0 _ _ _ _ _ _
      | exact ih1 _ _ _ _ _ _ _
      | exact ih2 _ _ _ _ _ _ _ _ _ _
      | exact booklet_Valid.mono _ _ _ _ _
      | exact LeO.none _
      | refine LeO.ite ?_ ?_
      | refine LeO.bind ?_ (fun _ => ?_)
theorem booklet_Fields.mono : ∀ a0 a1 a2 a3 a4 k, LeO (booklet_Fields.f k a0 a1 a2 a3 a4) (booklet_Fields.f (k + 1) a0 a1 a2 a3 a4) := by
  intro a0 a1 a2 a3 a4 k
  obtain ⟨ih0, ih1, ih2⟩ := booklet_Fields.mono_l k
  unfold booklet_Fields.f
  repeat' first
      | (with_reducible exact ih0 _ _ _ _ _ _)
      | (with_reducible exact ih1 _ _ _ _ _ _ _)
      | (with_reducible exact ih2 _ _ _ _ _ _ _ _ _ _)
      | (with_reducible exact booklet_Valid.mono _ _ _ _ _)
      | (with_reducible exact LeO.refl _)
      | (with_reducible exact LeO.none _)
      | (with_reducible refine LeO.ite ?_ ?_)
      | (with_reducible refine LeO.bind ?_ (fun _ => ?_))
      | exact ih0 _ _ _ _ _ _
      | exact ih1 _ _ _ _ _ _ _
      | exact ih2 _ _ _ _ _ _ _ _ _ _
      | exact booklet_Valid.mono _ _ _ _ _
      | exact LeO.none _
      | refine LeO.ite ?_ ?_
      | refine LeO.bind ?_ (fun _ => ?_)
set_option maxHeartbeats 8000000 in
set_option maxRecDepth 100000 in
theorem booklet_Fields.calls (k : Nat) (a0_0 : Int) (a0_1 : Int) (A0_2 : Option Addr) (c0_2 : Nat) (l0_2 : List (S23)) (A1_0 : Option Addr) (c1_0 : Nat) (l1_0 : List (List Int)) (a2 : Int) (r : List (S53)) (w : World) (hr0_2 : Kd.C k23 w A0_2 l0_2.length l0_2) (hc0_2 : l0_2.length ≤ c0_2) (hr1_0 : Kd.C (Kd.slice 3 (Kd.int .i64)) w A1_0 l1_0.length l1_0) (hc1_0 : l1_0.length ≤ c1_0) (h : booklet_Fields.f k a0_0 a0_1 l0_2 l1_0 a2 = some r) :
    Calls Try.prog 27 #[.agg #[.int .i64 a0_0, .int .i64 a0_1, .slice A0_2 l0_2.length c0_2], .agg #[.slice A1_0 l1_0.length c1_0], .int .i64 a2] w fun e w' => ∃ v0_ : Value, e = .returned (v0_) ∧ Kd.R k53 53 w' w.heap.size (fun _ => True) v0_ r ∧ Below w.heap.size w w' := by
 have hu33 := Try.underlying33
 have hu38 := Try.underlying38
 have hu53 := Try.underlying53
 have HR0_2 := za hr0_2
 have HC0_2 := za hc0_2
 clear hr0_2 hc0_2
 have HR1_0 := za hr1_0
 have HC1_0 := za hc1_0
 clear hr1_0 hc1_0
 have HB := za (Below.refl w.heap.size w)
 have H : ((booklet_Valid.f k a0_0 a0_1 l0_2 l1_0).bind fun t271 => (if t271 = true then (if a2 < 0 then (booklet_Fields.j0 k a2 true a0_0 a0_1 l0_2 l1_0) else (booklet_Fields.j0 k a2 (decide (a2 ≥ (l1_0.length : Int))) a0_0 a0_1 l0_2 l1_0)) else (booklet_Fields.j0 k a2 true a0_0 a0_1 l0_2 l1_0))) = some r := h
 clear h
 have HC4 := za H
 clear H
 go_enter Try.func27, Try.ntmps27
 go_upto_region 1 with (first | ((with_reducible refine gate_dst (N := 3) rfl ?_); (try (refine gate_guard (by rfl) ?_; dsimp only)); refine zE 3 #[.int .i64 a0_0, .int .i64 a0_1, .slice A0_2 l0_2.length c0_2] 33 ?_; intro gb269 hg w5 hbox hb; have BK269 := za (hbox); have GW269 := zg HB hg; have GE269 := zg HB hg; replace HB := zs HB hb; clear hb hbox hg) | ((with_reducible refine gate_dst (N := 4) rfl ?_); (try (refine gate_guard (by rfl) ?_; dsimp only)); refine zE 4 #[.slice A1_0 l1_0.length c1_0] 38 ?_; intro gb270 hg w6 hbox hb; have BK270 := za (hbox); have GW270 := zg HB hg; have GE270 := zg HB hg; have NB269_270 := zl BK269 hg; have NB270_269 := zr BK269 hg; replace BK269 := zb BK269 hb; replace HB := zs HB hb; clear hb hbox hg))
 (try simp only [Act.put, List.setIfInBounds_toArray, List.set_cons_zero, List.set_cons_succ])
 go_cut [25] (fun v25 wc => ∃ (kq : Nat) (x25_3 : Bool), v25 = .bool x25_3 ∧ Aside0 (booklet_Fields.j0 kq a2 x25_3 a0_0 a0_1 l0_2 l1_0 = some r) ∧ Aside0 (kq ≤ k) ∧ Aside0 (wc.heap[gb269]? = some (.cells #[.int .i64 a0_0, .int .i64 a0_1, (.slice A0_2 l0_2.length c0_2)] 33 (0, 0))) ∧ Aside0 (wc.heap[gb270]? = some (.cells #[(.slice A1_0 l1_0.length c1_0)] 38 (0, 0))) ∧ Aside0 (Below w.heap.size w wc))
 case first =>
  have H := HC4.out
  clear HC4
  replace H := Option.bind_eq_some_iff.mp H
  obtain ⟨t271, A70, H⟩ := H
  replace H : (if t271 = true then (if a2 < 0 then (booklet_Fields.j0 k a2 true a0_0 a0_1 l0_2 l1_0) else (booklet_Fields.j0 k a2 (decide (a2 ≥ (l1_0.length : Int))) a0_0 a0_1 l0_2 l1_0)) else (booklet_Fields.j0 k a2 true a0_0 a0_1 l0_2 l1_0)) = some r := H
  have A7 := za A70
  clear A70
  by_cases c8 : t271 = true
  ·subst c8
   have H1 : (if a2 < 0 then (booklet_Fields.j0 k a2 true a0_0 a0_1 l0_2 l1_0) else (booklet_Fields.j0 k a2 (decide (a2 ≥ (l1_0.length : Int))) a0_0 a0_1 l0_2 l1_0)) = some r := by rw [if_pos rfl] at H; exact H
   clear H
   have H := H1
   clear H1
   by_cases c9 : a2 < 0
   ·rw [if_pos c9] at H
    have c9b0 : decide (a2 < 0) = true := decide_eq_true c9
    clear c9
    (first | rw [c9b0] | (simp only [i64_w, i32_w]; rw [c9b0]) | skip)
    have H' := za H
    clear H
    have hnb10 := NB269_270.out
    have hnc10 := NB270_269.out
    obtain ⟨hcz11_0, hcz11_1, hcz11_2, hfz11_0, hfz11_1, hfz11_2⟩ := z3 BK269
    obtain ⟨hcz12_0, hfz12_0⟩ := z1 BK270
    go_wp2_with (first | ((with_reducible refine gate_callee (f := 23) rfl ?_); refine zL (some 13) Try.func23 #[.agg #[.int .i64 a0_0, .int .i64 a0_1, .slice A0_2 l0_2.length c0_2], .agg #[.slice A1_0 l1_0.length c1_0]] ?_; (with_reducible refine (booklet_Valid.calls k a0_0 a0_1 _ _ l0_2 _ _ l1_0 true _ ?side1 ?side2 ?side3 ?side4 A7.out).mono ?_); (case side1 => exact zC HR0_2 HB); (case side2 => exact HC0_2.out); (case side3 => exact zC HR1_0 HB); (case side4 => exact HC1_0.out); rintro e w13 ⟨rfl, hb⟩; refine ⟨_, rfl, ?_⟩; replace BK269 := zb BK269 hb; replace BK270 := zb BK270 hb; replace HB := zs HB hb; (try clear hb); (try clear hb2); (try clear hk); (try clear hi)))
    go_meet
    case rel => exact ⟨_, (true), (by first | rfl | (simp; done) | (simp [*]; done)), H', ⟨by first | omega | exact Nat.le_refl _⟩, ⟨by (with_reducible repeat (first | refine blk_drewN ?_ _ | refine blk_drew ?_ | refine blk_alloc ?_ _)); exact BK269.out⟩, ⟨by (with_reducible repeat (first | refine blk_drewN ?_ _ | refine blk_drew ?_ | refine blk_alloc ?_ _)); exact BK270.out⟩, ⟨zm HB⟩⟩
   ·rw [if_neg c9] at H
    have c9b0 : decide (a2 < 0) = false := decide_eq_false c9
    clear c9
    (first | rw [c9b0] | (simp only [i64_w, i32_w]; rw [c9b0]) | skip)
    have H' := za H
    clear H
    have hnb14 := NB269_270.out
    have hnc14 := NB270_269.out
    obtain ⟨hcz15_0, hcz15_1, hcz15_2, hfz15_0, hfz15_1, hfz15_2⟩ := z3 BK269
    obtain ⟨hcz16_0, hfz16_0⟩ := z1 BK270
    go_wp2_with (first | ((with_reducible refine gate_callee (f := 23) rfl ?_); refine zL (some 13) Try.func23 #[.agg #[.int .i64 a0_0, .int .i64 a0_1, .slice A0_2 l0_2.length c0_2], .agg #[.slice A1_0 l1_0.length c1_0]] ?_; (with_reducible refine (booklet_Valid.calls k a0_0 a0_1 _ _ l0_2 _ _ l1_0 true _ ?side1 ?side2 ?side3 ?side4 A7.out).mono ?_); (case side1 => exact zC HR0_2 HB); (case side2 => exact HC0_2.out); (case side3 => exact zC HR1_0 HB); (case side4 => exact HC1_0.out); rintro e w17 ⟨rfl, hb⟩; refine ⟨_, rfl, ?_⟩; replace BK269 := zb BK269 hb; replace BK270 := zb BK270 hb; replace HB := zs HB hb; (try clear hb); (try clear hb2); (try clear hk); (try clear hi); obtain ⟨hcz18_0, hfz18_0⟩ := z1 BK270))
    go_meet
    case rel => exact ⟨_, (decide (a2 ≥ (l1_0.length : Int))), (by first | rfl | (simp; done) | (simp [*]; done)), H', ⟨by first | omega | exact Nat.le_refl _⟩, ⟨by (with_reducible repeat (first | refine blk_drewN ?_ _ | refine blk_drew ?_ | refine blk_alloc ?_ _)); exact BK269.out⟩, ⟨by (with_reducible repeat (first | refine blk_drewN ?_ _ | refine blk_drew ?_ | refine blk_alloc ?_ _)); exact BK270.out⟩, ⟨zm HB⟩⟩
  ·replace c8 := Bool.eq_false_iff.mpr c8
   subst c8
   have H1 : (booklet_Fields.j0 k a2 true a0_0 a0_1 l0_2 l1_0) = some r := by rw [if_neg (show ¬ (false = true) by decide)] at H; exact H
   clear H
   have H := H1
   clear H1
   have H' := za H
   clear H
   have hnb19 := NB269_270.out
   have hnc19 := NB270_269.out
   obtain ⟨hcz20_0, hcz20_1, hcz20_2, hfz20_0, hfz20_1, hfz20_2⟩ := z3 BK269
   obtain ⟨hcz21_0, hfz21_0⟩ := z1 BK270
   go_wp2_with (first | ((with_reducible refine gate_callee (f := 23) rfl ?_); refine zL (some 13) Try.func23 #[.agg #[.int .i64 a0_0, .int .i64 a0_1, .slice A0_2 l0_2.length c0_2], .agg #[.slice A1_0 l1_0.length c1_0]] ?_; (with_reducible refine (booklet_Valid.calls k a0_0 a0_1 _ _ l0_2 _ _ l1_0 false _ ?side1 ?side2 ?side3 ?side4 A7.out).mono ?_); (case side1 => exact zC HR0_2 HB); (case side2 => exact HC0_2.out); (case side3 => exact zC HR1_0 HB); (case side4 => exact HC1_0.out); rintro e w22 ⟨rfl, hb⟩; refine ⟨_, rfl, ?_⟩; replace BK269 := zb BK269 hb; replace BK270 := zb BK270 hb; replace HB := zs HB hb; (try clear hb); (try clear hb2); (try clear hk); (try clear hi)))
   go_meet
   case rel => exact ⟨_, (true), (by first | rfl | (simp; done) | (simp [*]; done)), H', ⟨by first | omega | exact Nat.le_refl _⟩, ⟨by (with_reducible repeat (first | refine blk_drewN ?_ _ | refine blk_drew ?_ | refine blk_alloc ?_ _)); exact BK269.out⟩, ⟨by (with_reducible repeat (first | refine blk_drewN ?_ _ | refine blk_drew ?_ | refine blk_alloc ?_ _)); exact BK270.out⟩, ⟨zm HB⟩⟩
 case rest =>
  clear HC4
  try clear c1
  try clear c2
  try clear p2
  try clear c8
  try clear c9
  try clear c9b0
  try clear c10
  try clear c14
  try clear c19
  try clear hcz11_0
  try clear hcz11_1
  try clear hcz11_2
  try clear hcz12_0
  try clear hcz15_0
  try clear hcz15_1
  try clear hcz15_2
  try clear hcz16_0
  try clear hcz18_0
  try clear hcz20_0
  try clear hcz20_1
  try clear hcz20_2
  try clear hcz21_0
  try clear hfz11_0
  try clear hfz11_1
  try clear hfz11_2
  try clear hfz12_0
  try clear hfz15_0
  try clear hfz15_1
  try clear hfz15_2
  try clear hfz16_0
  try clear hfz18_0
  try clear hfz20_0
  try clear hfz20_1
  try clear hfz20_2
  try clear hfz21_0
  obtain ⟨kq, x25_3, rfl, HA, HJ3, BK269, BK270, HB⟩ := hcut
  cases kq with
  | zero => exact absurd HA.out (by simp [booklet_Fields.j0])
  | succ kj3 =>
   have H := HA.out
   clear HA
   simp only [booklet_Fields.j0] at H
   by_cases c23 : x25_3 = true
   ·subst c23
    have H1 : (some ([] : List (S53))) = some r := by rw [if_pos rfl] at H; exact H
    clear H
    have H := H1
    clear H1
    obtain rfl := Option.some.inj H
    go_wp2
    go_ret
    exact ⟨_, zf, by first | exact Kd.R_nil _ _ _ _ _ | exact Kd.N_nil _ _ _ _ _ | exact Kd.V_nil _ _ _ _ _ | exact Kd.Q_nil _ _ _ _ _ | exact Kd.S_nil _ _ _ _ _, zm HB⟩
   ·replace c23 := Bool.eq_false_iff.mpr c23
    subst c23
    have H1 : (if 0 ≤ a2 then (if a2 < (l1_0.length : Int) then (booklet_Fields.l0 kj3 ([] : List (S53)) (rd_L2 l1_0 a2) ((rd_L2 l1_0 a2).length : Int) 0 a0_0 a0_1 l0_2) else (none)) else (none)) = some r := by rw [if_neg (show ¬ (false = true) by decide)] at H; exact H
    clear H
    have H := H1
    clear H1
    by_cases c24 : 0 ≤ a2
    ·rw [if_pos c24] at H
     have c24b0 : decide (0 ≤ a2) = true := decide_eq_true c24
     clear c24
     by_cases c25 : a2 < (l1_0.length : Int)
     ·rw [if_pos c25] at H
      have c25b0 : decide (a2 < (l1_0.length : Int)) = true := decide_eq_true c25
      clear c25
      have H' := za H
      clear H
      have hnb26 := NB270_269.out
      have hnc26 := NB269_270.out
      obtain ⟨hcz27_0, hfz27_0⟩ := z1 BK270
      have p272 : 0 ≤ (a2 : Int) := of_decide_eq_true (by first | (with_reducible assumption) | assumption)
      have q272 : a2 < (l1_0.length : Int) := of_decide_eq_true (by first | (with_reducible assumption) | assumption)
      obtain ⟨ad272, A272_0, c272_0, e272, hx272_0, hl272_0, hi272_0⟩ := at_L2 HR1_0.out a2 p272 q272
      cases e272
      replace hx272_0 := zx HB hx272_0
      have HR272_0 := za hi272_0
      have HC272_0 := za hl272_0
      clear hi272_0 hl272_0
      replace p272 := eq_true p272
      replace q272 := eq_true q272
      go_wp2
      go_loopg [7, 32] kj3 (fun kq v7 v32 w' => ∃ (x7_2 : List (S53)) (x32_2 : Int), v32 = .int .i64 x32_2 ∧ Aside0 (booklet_Fields.l0 kq x7_2 (rd_L2 l1_0 a2) ((rd_L2 l1_0 a2).length : Int) x32_2 a0_0 a0_1 l0_2 = some r) ∧ Aside0 (kq ≤ kj3) ∧ Aside0 (Kd.R k53 53 w' w.heap.size (fun _ => True) v7 x7_2) ∧ Aside0 (w'.heap[gb269]? = some (.cells #[.int .i64 a0_0, .int .i64 a0_1, (.slice A0_2 l0_2.length c0_2)] 33 (0, 0))) ∧ Aside0 (w'.heap[gb270]? = some (.cells #[(.slice (some ad272) l1_0.length c1_0)] 38 (0, 0))) ∧ Aside0 (Below w.heap.size w w'))
      case atStart => exact ⟨(([] : List (S53))), (0), (by first | rfl | (simp; done) | (simp [*]; done)), H', ⟨Nat.le_refl _⟩, ⟨by first | exact Kd.R_nil _ _ _ _ _ | exact Kd.N_nil _ _ _ _ _ | exact Kd.V_nil _ _ _ _ _ | exact Kd.Q_nil _ _ _ _ _ | exact Kd.S_nil _ _ _ _ _⟩, ⟨by (with_reducible repeat (first | refine blk_drewN ?_ _ | refine blk_drew ?_ | refine blk_alloc ?_ _)); exact BK269.out⟩, ⟨by (with_reducible repeat (first | refine blk_drewN ?_ _ | refine blk_drew ?_ | refine blk_alloc ?_ _)); exact BK270.out⟩, ⟨zm HB⟩⟩
      case round =>
       clear H'
       try clear c1
       try clear c2
       try clear p2
       try clear q2
       try clear hx2
       try clear c8
       try clear c9
       try clear c9b0
       try clear c10
       try clear c14
       try clear c19
       try clear c23
       try clear c24
       try clear c24b0
       try clear c25
       try clear c25b0
       try clear c26
       try clear c27
       try clear p27
       try clear q27
       try clear hx27
       try clear hcz11_0
       try clear hcz11_1
       try clear hcz11_2
       try clear hcz12_0
       try clear hcz15_0
       try clear hcz15_1
       try clear hcz15_2
       try clear hcz16_0
       try clear hcz18_0
       try clear hcz20_0
       try clear hcz20_1
       try clear hcz20_2
       try clear hcz21_0
       try clear hcz27_0
       try clear hfz11_0
       try clear hfz11_1
       try clear hfz11_2
       try clear hfz12_0
       try clear hfz15_0
       try clear hfz15_1
       try clear hfz15_2
       try clear hfz16_0
       try clear hfz18_0
       try clear hfz20_0
       try clear hfz20_1
       try clear hfz20_2
       try clear hfz21_0
       try clear hfz27_0
       try clear hx272_0
       try clear p2
       try clear p272
       try clear q272
       obtain ⟨x7_2, x32_2, rfl, HA, HK2, HO_7, BK269, BK270, HB⟩ := hrel
       cases gk with
       | zero => exact absurd HA.out (by simp [booklet_Fields.l0])
       | succ k2 =>
        have H := HA.out
        clear HA
        simp only [booklet_Fields.l0] at H
        by_cases c28 : x32_2 < ((rd_L2 l1_0 a2).length : Int)
        ·rw [if_pos c28] at H
         have c28b0 : decide (x32_2 < ((rd_L2 l1_0 a2).length : Int)) = true := decide_eq_true c28
         clear c28
         by_cases c29 : 0 ≤ x32_2
         ·rw [if_pos c29] at H
          have c29b0 : decide (0 ≤ x32_2) = true := decide_eq_true c29
          clear c29
          by_cases c30 : x32_2 < ((rd_L2 l1_0 a2).length : Int)
          ·rw [if_pos c30] at H
           have c30b0 : decide (x32_2 < ((rd_L2 l1_0 a2).length : Int)) = true := decide_eq_true c30
           clear c30
           by_cases c31 : 0 ≤ (rd (rd_L2 l1_0 a2) x32_2)
           ·rw [if_pos c31] at H
            have c31b0 : decide (0 ≤ (rd (rd_L2 l1_0 a2) x32_2)) = true := decide_eq_true c31
            clear c31
            by_cases c32 : (rd (rd_L2 l1_0 a2) x32_2) < (l0_2.length : Int)
            ·rw [if_pos c32] at H
             have c32b0 : decide ((rd (rd_L2 l1_0 a2) x32_2) < (l0_2.length : Int)) = true := decide_eq_true c32
             clear c32
             have H' := za H
             clear H
             have p273 : 0 ≤ (x32_2 : Int) := of_decide_eq_true (by first | (with_reducible assumption) | assumption)
             have q273 : x32_2 < ((rd_L2 l1_0 a2).length : Int) := of_decide_eq_true (by first | (with_reducible assumption) | assumption)
             obtain ⟨ad273, e273, hx273_0⟩ := Kd.at_int HR272_0.out x32_2 p273 q273
             cases e273
             replace hx273_0 := zx HB hx273_0
             replace p273 := eq_true p273
             replace q273 := eq_true q273
             have hnb33 := NB269_270.out
             have hnc33 := NB270_269.out
             obtain ⟨hcz34_0, hcz34_1, hcz34_2, hfz34_0, hfz34_1, hfz34_2⟩ := z3 BK269
             have p274 : 0 ≤ ((rd (rd_L2 l1_0 a2) x32_2) : Int) := of_decide_eq_true (by first | (with_reducible assumption) | assumption)
             have q274 : (rd (rd_L2 l1_0 a2) x32_2) < (l0_2.length : Int) := of_decide_eq_true (by first | (with_reducible assumption) | assumption)
             obtain ⟨ad274, e274, hx274_0, hx274_1, hx274_2, hx274_3, hx274_4, hx274_5⟩ := at_T23 HR0_2.out (rd (rd_L2 l1_0 a2) x32_2) p274 q274
             cases e274
             replace hx274_0 := zx HB hx274_0
             replace hx274_1 := zx HB hx274_1
             replace hx274_2 := zx HB hx274_2
             replace hx274_3 := zx HB hx274_3
             replace hx274_4 := zx HB hx274_4
             replace hx274_5 := zx HB hx274_5
             replace p274 := eq_true p274
             replace q274 := eq_true q274
             go_wp2
             go_loopg [7, 42] k2 (fun kq v7 v42 w' => ∃ (x7_3 : List (S53)) (x42_3 : Int), v42 = .int .i64 x42_3 ∧ Aside0 (booklet_Fields.l1 kq x7_3 (rd (rd_L2 l1_0 a2) x32_2) (rd_L2 l1_0 a2) ((rd_L2 l1_0 a2).length : Int) x32_2 ((rd_T23 l0_2 (rd (rd_L2 l1_0 a2) x32_2)).f4) x42_3 a0_0 a0_1 l0_2 = some r) ∧ Aside0 (kq ≤ k2) ∧ Aside0 (Kd.R k53 53 w' w.heap.size (fun _ => True) v7 x7_3) ∧ Aside0 (w'.heap[gb269]? = some (.cells #[.int .i64 a0_0, .int .i64 a0_1, (.slice (some ad274) l0_2.length c0_2)] 33 (0, 0))) ∧ Aside0 (w'.heap[gb270]? = some (.cells #[(.slice (some ad272) l1_0.length c1_0)] 38 (0, 0))) ∧ Aside0 (Below w.heap.size w w'))
             case atStart => exact ⟨(x7_2), (0), (by first | rfl | (simp; done) | (simp [*]; done)), H', ⟨Nat.le_refl _⟩, ⟨by (with_reducible repeat (first | apply Kd.R_alloc | apply Kd.R_drewN | apply Kd.R_drew)); exact HO_7.out⟩, ⟨by (with_reducible repeat (first | refine blk_drewN ?_ _ | refine blk_drew ?_ | refine blk_alloc ?_ _)); exact BK269.out⟩, ⟨by (with_reducible repeat (first | refine blk_drewN ?_ _ | refine blk_drew ?_ | refine blk_alloc ?_ _)); exact BK270.out⟩, ⟨zm HB⟩⟩
             case round =>
              clear H'
              try clear c1
              try clear c2
              try clear p2
              try clear q2
              try clear hx2
              try clear c3
              try clear c8
              try clear c9
              try clear c9b0
              try clear c10
              try clear c14
              try clear c19
              try clear c23
              try clear c24
              try clear c24b0
              try clear c25
              try clear c25b0
              try clear c26
              try clear c27
              try clear p27
              try clear q27
              try clear hx27
              try clear c28
              try clear c28b0
              try clear c29
              try clear c29b0
              try clear c30
              try clear c30b0
              try clear c31
              try clear c31b0
              try clear c32
              try clear c32b0
              try clear c33
              try clear hcz11_0
              try clear hcz11_1
              try clear hcz11_2
              try clear hcz12_0
              try clear hcz15_0
              try clear hcz15_1
              try clear hcz15_2
              try clear hcz16_0
              try clear hcz18_0
              try clear hcz20_0
              try clear hcz20_1
              try clear hcz20_2
              try clear hcz21_0
              try clear hcz27_0
              try clear hcz34_0
              try clear hcz34_1
              try clear hcz34_2
              try clear hfz11_0
              try clear hfz11_1
              try clear hfz11_2
              try clear hfz12_0
              try clear hfz15_0
              try clear hfz15_1
              try clear hfz15_2
              try clear hfz16_0
              try clear hfz18_0
              try clear hfz20_0
              try clear hfz20_1
              try clear hfz20_2
              try clear hfz21_0
              try clear hfz27_0
              try clear hfz34_0
              try clear hfz34_1
              try clear hfz34_2
              try clear hx272_0
              try clear hx273_0
              try clear hx274_0
              try clear hx274_1
              try clear hx274_2
              try clear hx274_3
              try clear hx274_4
              try clear hx274_5
              try clear p2
              try clear p27
              try clear p272
              try clear p273
              try clear p274
              try clear q2
              try clear q27
              try clear q272
              try clear q273
              try clear q274
              obtain ⟨x7_3, x42_3, rfl, HA, HK3, HO_7, BK269, BK270, HB⟩ := hrel
              cases gk with
              | zero => exact absurd HA.out (by simp [booklet_Fields.l1])
              | succ k3 =>
               have H := HA.out
               clear HA
               simp only [booklet_Fields.l1] at H
               by_cases c35 : x42_3 < ((rd_T23 l0_2 (rd (rd_L2 l1_0 a2) x32_2)).f4)
               ·rw [if_pos c35] at H
                have c35b0 : decide (x42_3 < ((rd_T23 l0_2 (rd (rd_L2 l1_0 a2) x32_2)).f4)) = true := decide_eq_true c35
                clear c35
                by_cases c36 : x7_3.length < 8796093022208
                ·rw [if_pos c36] at H
                 have LMc36 := za c36
                 clear c36
                 obtain ⟨y275, hy275⟩ : ∃ y_ : List (S53), y_ = (x7_3 ++ [(⟨(rd (rd_L2 l1_0 a2) x32_2), x42_3⟩ : S53)]) := ⟨_, rfl⟩
                 replace H : (booklet_Fields.l1 k3 y275 (rd (rd_L2 l1_0 a2) x32_2) (rd_L2 l1_0 a2) ((rd_L2 l1_0 a2).length : Int) x32_2 ((rd_T23 l0_2 (rd (rd_L2 l1_0 a2) x32_2)).f4) (wrap64 (x42_3 + 1)) a0_0 a0_1 l0_2) = some r := by first | (rw [hy275]; with_reducible exact H) | (have H2_ := (Option.bind_some _ _).symm.trans H; rw [hy275]; with_reducible exact H2_) | (have H2_ := (Option.bind_some _ _).symm.trans H; with_reducible exact H2_) | with_reducible exact H | (rw [hy275]; exact H) | exact H
                 have Ny275 := za hy275
                 clear hy275
                 have H' := za H
                 clear H
                 go_wp2_with (first | ((with_reducible refine gate_builtin (b := .append) (xs := #[.tmp 45, .tmp 49]) rfl ?_); (try (refine gate_guard (by rfl) ?_; dsimp only)); at_builtin; refine Kd.R_append k53 (w0 := w) w.heap.size rfl (.tmp 45) (.tmp 49) 50 53 (.agg #[(.int .i64 0), (.int .i64 0)]) 16 rfl Try.underlying50 info53 rfl (by decide) (by omega) u7 x7_3 (⟨(rd (rd_L2 l1_0 a2) x32_2), x42_3⟩ : S53) [.int .i64 (rd (rd_L2 l1_0 a2) x32_2), .int .i64 x42_3] (fun _ => True) (fun _ => False) rfl rfl ?aP (fun _ hk => hk.elim) ?aF ?aO ?aB ?aS ?aL ?_; (case aP => exact k53_mkM _ _ _ (⟨(rd (rd_L2 l1_0 a2) x32_2), x42_3⟩ : S53)); (case aB => exact (zm HB)); (case aF => exact (fun _ _ => trivial)); (case aO => exact (by (with_reducible repeat (first | apply Kd.R_alloc | apply Kd.R_drewN | apply Kd.R_drew)); exact HO_7.out)); (case aS => exact (below_size (zm HB))); (case aL => have := LMc36.out; omega); intro v276 w37 ho hb hg hat; rw [← Ny275.out] at ho; have HO277 := za (ho); replace BK269 := (zw BK269 hg (Kd.R_ne HO_7.out BK269.out (by decide))); replace BK270 := (zw BK270 hg (Kd.R_ne HO_7.out BK270.out (by decide))); replace HB := za (hb); clear HO_7 ho hb hg hat))
                 go_roundg k3
                 case measure => have := HJ3.out; have := HK2.out; have := HK3.out; omega
                 case rel => exact ⟨(y275), (wrap64 (x42_3 + 1)), (by first | rfl | (simp; done) | (simp [*]; done)), H', ⟨by have := HJ3.out; have := HK2.out; have := HK3.out; omega⟩, ⟨by (with_reducible repeat (first | apply Kd.R_alloc | apply Kd.R_drewN | apply Kd.R_drew)); exact HO277.out⟩, ⟨by (with_reducible repeat (first | refine blk_drewN ?_ _ | refine blk_drew ?_ | refine blk_alloc ?_ _)); exact BK269.out⟩, ⟨by (with_reducible repeat (first | refine blk_drewN ?_ _ | refine blk_drew ?_ | refine blk_alloc ?_ _)); exact BK270.out⟩, ⟨zm HB⟩⟩
                ·rw [if_neg c36] at H
                 exact absurd H (by simp)
               ·rw [if_neg c35] at H
                have c35b0 : decide (x42_3 < ((rd_T23 l0_2 (rd (rd_L2 l1_0 a2) x32_2)).f4)) = false := decide_eq_false c35
                clear c35
                have H' := za H
                clear H
                go_wp2
                go_roundg k3
                case measure => have := HJ3.out; have := HK2.out; have := HK3.out; omega
                case rel => exact ⟨(x7_3), (wrap64 (x32_2 + 1)), (by first | rfl | (simp; done) | (simp [*]; done)), H', ⟨by have := HJ3.out; have := HK2.out; have := HK3.out; omega⟩, ⟨by (with_reducible repeat (first | apply Kd.R_alloc | apply Kd.R_drewN | apply Kd.R_drew)); exact HO_7.out⟩, ⟨by (with_reducible repeat (first | refine blk_drewN ?_ _ | refine blk_drew ?_ | refine blk_alloc ?_ _)); exact BK269.out⟩, ⟨by (with_reducible repeat (first | refine blk_drewN ?_ _ | refine blk_drew ?_ | refine blk_alloc ?_ _)); exact BK270.out⟩, ⟨zm HB⟩⟩
            ·rw [if_neg c32] at H
             exact absurd H (by simp)
           ·rw [if_neg c31] at H
            exact absurd H (by simp)
          ·rw [if_neg c30] at H
           exact absurd H (by simp)
         ·rw [if_neg c29] at H
          exact absurd H (by simp)
        ·rw [if_neg c28] at H
         have c28b0 : decide (x32_2 < ((rd_L2 l1_0 a2).length : Int)) = false := decide_eq_false c28
         clear c28
         obtain rfl := Option.some.inj H
         go_wp2
         go_ret
         exact ⟨_, zf, by (with_reducible repeat (first | apply Kd.R_alloc | apply Kd.R_drewN | apply Kd.R_drew)); exact HO_7.out, zm HB⟩
     ·rw [if_neg c25] at H
      exact absurd H (by simp)
    ·rw [if_neg c24] at H
     exact absurd H (by simp)

/-! ### item_Choices: function 29 -/
def item_Choices.l0 : Nat → List Int → List (S23) → Int → Int → Option (List Int)
  | 0, _, _, _, _ => none
  | k + 1, x3, x10, x11, x12 => if x12 < x11 then (if 0 ≤ x12 then (if x12 < (x10.length : Int) then (if ((rd_T23 x10 x12).f0) = 2 then (if x3.length < 17592186044416 then (item_Choices.l0 k (x3 ++ [x12]) x10 x11 (wrap64 (x12 + 1))) else (none)) else (item_Choices.l0 k x3 x10 x11 (wrap64 (x12 + 1)))) else (none)) else (none)) else (some x3)
def item_Choices.f (k : Nat) (a0_0 : Int) (a0_1 : Int) (l0_2 : List (S23)) : Option (List Int) := (item_ValidPaper.f k a0_0 a0_1 l0_2).bind fun t279 => (if t279 = true then (item_Choices.l0 k ([] : List Int) l0_2 (l0_2.length : Int) 0) else (some ([] : List Int)))
theorem item_Choices.mono_l : ∀ k, (∀ y0 y1 y2 y3, LeO (item_Choices.l0 k y0 y1 y2 y3) (item_Choices.l0 (k + 1) y0 y1 y2 y3))
  | 0 => fun _ _ _ _ r h => by simp [item_Choices.l0] at h
  | k + 1 => by
    have ih0 := item_Choices.mono_l k
    · intro y0 y1 y2 y3
      unfold item_Choices.l0
      repeat' first
      | (with_reducible exact ih0 _ _ _ _)
      | (with_reducible exact item_ValidPaper.mono _ _ _ _)
      | (with_reducible exact LeO.refl _)
      | (with_reducible exact LeO.none _)
      | (with_reducible refine LeO.ite ?_ ?_)
      | (with_reducible refine LeO.bind ?_ (fun _ => ?_))
      | exact ih0 _ _ _ _
      | exact item_ValidPaper.mono _ _ _ _
      | exact LeO.none _
      | refine LeO.ite ?_ ?_
      | refine LeO.bind ?_ (fun _ => ?_)
theorem item_Choices.mono : ∀ a0 a1 a2 k, LeO (item_Choices.f k a0 a1 a2) (item_Choices.f (k + 1) a0 a1 a2) := by
  intro a0 a1 a2 k
  have ih0 := item_Choices.mono_l k
  unfold item_Choices.f
  repeat' first
      | (with_reducible exact ih0 _ _ _ _)
      | (with_reducible exact item_ValidPaper.mono _ _ _ _)
      | (with_reducible exact LeO.refl _)
      | (with_reducible exact LeO.none _)
      | (with_reducible refine LeO.ite ?_ ?_)
      | (with_reducible refine LeO.bind ?_ (fun _ => ?_))
      | exact ih0 _ _ _ _
      | exact item_ValidPaper.mono _ _ _ _
      | exact LeO.none _
      | refine LeO.ite ?_ ?_
      | refine LeO.bind ?_ (fun _ => ?_)
set_option maxHeartbeats 8000000 in
set_option maxRecDepth 100000 in
theorem item_Choices.calls (k : Nat) (a0_0 : Int) (a0_1 : Int) (A0_2 : Option Addr) (c0_2 : Nat) (l0_2 : List (S23)) (r : List Int) (w : World) (hr0_2 : Kd.C k23 w A0_2 l0_2.length l0_2) (hc0_2 : l0_2.length ≤ c0_2) (h : item_Choices.f k a0_0 a0_1 l0_2 = some r) :
    Calls Try.prog 29 #[.agg #[.int .i64 a0_0, .int .i64 a0_1, .slice A0_2 l0_2.length c0_2]] w fun e w' => ∃ v0_ : Value, e = .returned (v0_) ∧ Kd.R (Kd.int .i64) 3 w' w.heap.size (fun _ => True) v0_ r ∧ Below w.heap.size w w' := by
 have hu33 := Try.underlying33
 have hu23 := Try.underlying23
 have HR0_2 := za hr0_2
 have HC0_2 := za hc0_2
 clear hr0_2 hc0_2
 have HB := za (Below.refl w.heap.size w)
 have H : ((item_ValidPaper.f k a0_0 a0_1 l0_2).bind fun t279 => (if t279 = true then (item_Choices.l0 k ([] : List Int) l0_2 (l0_2.length : Int) 0) else (some ([] : List Int)))) = some r := h
 clear h
 replace H := Option.bind_eq_some_iff.mp H
 obtain ⟨t279, A20, H⟩ := H
 replace H : (if t279 = true then (item_Choices.l0 k ([] : List Int) l0_2 (l0_2.length : Int) 0) else (some ([] : List Int))) = some r := H
 have A2 := za A20
 clear A20
 by_cases c3 : t279 = true
 ·subst c3
  have H1 : (item_Choices.l0 k ([] : List Int) l0_2 (l0_2.length : Int) 0) = some r := by rw [if_pos rfl] at H; exact H
  clear H
  have H := H1
  clear H1
  have H' := za H
  clear H
  go_enter Try.func29, Try.ntmps29
  go_wp2_with (first | ((with_reducible refine gate_dst (N := 1) rfl ?_); refine zE 1 #[.int .i64 a0_0, .int .i64 a0_1, .slice A0_2 l0_2.length c0_2] 33 ?_; intro gb278 hg w4 hbox hb; have BK278 := za (hbox); have GW278 := zg HB hg; have GE278 := zg HB hg; replace HB := zs HB hb; clear hb hbox hg; obtain ⟨hcz5_0, hcz5_1, hcz5_2, hfz5_0, hfz5_1, hfz5_2⟩ := z3 BK278) | ((with_reducible refine gate_callee (f := 39) rfl ?_); refine zL (some 7) Try.func39 #[.agg #[.int .i64 a0_0, .int .i64 a0_1, .slice A0_2 l0_2.length c0_2]] ?_; (with_reducible refine (item_ValidPaper.calls k a0_0 a0_1 _ _ l0_2 true _ ?side1 ?side2 A2.out).mono ?_); (case side1 => exact zC HR0_2 HB); (case side2 => exact HC0_2.out); rintro e w6 ⟨rfl, hb⟩; refine ⟨_, rfl, ?_⟩; replace BK278 := zb BK278 hb; replace HB := zs HB hb; (try clear hb); (try clear hb2); (try clear hk); (try clear hi); obtain ⟨hcz7_0, hcz7_1, hcz7_2, hfz7_0, hfz7_1, hfz7_2⟩ := z3 BK278))
  go_loopg [3, 12] k (fun kq v3 v12 w' => ∃ (x3_1 : List Int) (x12_1 : Int), v12 = .int .i64 x12_1 ∧ Aside0 (item_Choices.l0 kq x3_1 l0_2 (l0_2.length : Int) x12_1 = some r) ∧ Aside0 (kq ≤ k) ∧ Aside0 (Kd.R (Kd.int .i64) 3 w' w.heap.size (fun _ => True) v3 x3_1) ∧ Aside0 (w'.heap[gb278]? = some (.cells #[.int .i64 a0_0, .int .i64 a0_1, (.slice A0_2 l0_2.length c0_2)] 33 (0, 0))) ∧ Aside0 (Below w.heap.size w w'))
  case atStart => exact ⟨(([] : List Int)), (0), (by first | rfl | (simp; done) | (simp [*]; done)), H', ⟨Nat.le_refl _⟩, ⟨by first | exact Kd.R_nil _ _ _ _ _ | exact Kd.N_nil _ _ _ _ _ | exact Kd.V_nil _ _ _ _ _ | exact Kd.Q_nil _ _ _ _ _ | exact Kd.S_nil _ _ _ _ _⟩, ⟨by (with_reducible repeat (first | refine blk_drewN ?_ _ | refine blk_drew ?_ | refine blk_alloc ?_ _)); exact BK278.out⟩, ⟨zm HB⟩⟩
  case round =>
   clear H'
   try clear c2
   try clear p2
   try clear c3
   try clear hcz5_0
   try clear hcz5_1
   try clear hcz5_2
   try clear hcz7_0
   try clear hcz7_1
   try clear hcz7_2
   try clear hfz5_0
   try clear hfz5_1
   try clear hfz5_2
   try clear hfz7_0
   try clear hfz7_1
   try clear hfz7_2
   obtain ⟨x3_1, x12_1, rfl, HA, HK1, HO_3, BK278, HB⟩ := hrel
   cases gk with
   | zero => exact absurd HA.out (by simp [item_Choices.l0])
   | succ k1 =>
    have H := HA.out
    clear HA
    simp only [item_Choices.l0] at H
    by_cases c8 : x12_1 < (l0_2.length : Int)
    ·rw [if_pos c8] at H
     have c8b0 : decide (x12_1 < (l0_2.length : Int)) = true := decide_eq_true c8
     clear c8
     by_cases c9 : 0 ≤ x12_1
     ·rw [if_pos c9] at H
      have c9b0 : decide (0 ≤ x12_1) = true := decide_eq_true c9
      clear c9
      by_cases c10 : x12_1 < (l0_2.length : Int)
      ·rw [if_pos c10] at H
       have c10b0 : decide (x12_1 < (l0_2.length : Int)) = true := decide_eq_true c10
       clear c10
       by_cases c11 : ((rd_T23 l0_2 x12_1).f0) = 2
       ·rw [if_pos c11] at H
        have c11b0 : (((rd_T23 l0_2 x12_1).f0) == 2) = true := beq_iff_eq.mpr c11
        have c11b1 : (((rd_T23 l0_2 x12_1).f0) != 2) = false := bne_eq_false_iff_eq.mpr c11
        clear c11
        by_cases c12 : x3_1.length < 17592186044416
        ·rw [if_pos c12] at H
         have LMc12 := za c12
         clear c12
         obtain ⟨y282, hy282⟩ : ∃ y_ : List Int, y_ = (x3_1 ++ [x12_1]) := ⟨_, rfl⟩
         replace H : (item_Choices.l0 k1 y282 l0_2 (l0_2.length : Int) (wrap64 (x12_1 + 1))) = some r := by first | (rw [hy282]; with_reducible exact H) | (have H2_ := (Option.bind_some _ _).symm.trans H; rw [hy282]; with_reducible exact H2_) | (have H2_ := (Option.bind_some _ _).symm.trans H; with_reducible exact H2_) | with_reducible exact H | (rw [hy282]; exact H) | exact H
         have Ny282 := za hy282
         clear hy282
         have H' := za H
         clear H
         have p280 : 0 ≤ (x12_1 : Int) := of_decide_eq_true (by first | (with_reducible assumption) | assumption)
         have q280 : x12_1 < (l0_2.length : Int) := of_decide_eq_true (by first | (with_reducible assumption) | assumption)
         obtain ⟨ad280, e280, hx280_0, hx280_1, hx280_2, hx280_3, hx280_4, hx280_5⟩ := at_T23 HR0_2.out x12_1 p280 q280
         cases e280
         replace hx280_0 := zx HB hx280_0
         replace hx280_1 := zx HB hx280_1
         replace hx280_2 := zx HB hx280_2
         replace hx280_3 := zx HB hx280_3
         replace hx280_4 := zx HB hx280_4
         replace hx280_5 := zx HB hx280_5
         replace p280 := eq_true p280
         replace q280 := eq_true q280
         go_wp2_with (first | ((with_reducible refine gate_dst (N := 5) rfl ?_); refine zE 5 #[.int .i64 0, .int .i64 0, .int .i64 0, .int .i64 0, .int .i64 0, .int .i64 0] 23 ?_; intro gb281 hg w13 hbox hb; have BK281 := za (hbox); have GW281 := zg HB hg; have GE281 := zg HB hg; have NB278_281 := zl BK278 hg; have NB281_278 := zr BK278 hg; replace HO_3 := zR HO_3 hb; replace BK278 := zb BK278 hb; replace HB := zs HB hb; clear hb hbox hg; have hnb14 := NB281_278.out; have hnc14 := NB278_281.out; obtain ⟨hcz15_0, hcz15_1, hcz15_2, hcz15_3, hcz15_4, hcz15_5, hfz15_0, hfz15_1, hfz15_2, hfz15_3, hfz15_4, hfz15_5⟩ := z6 BK281) | ((with_reducible refine gate_builtin (b := .append) (xs := #[.tmp 20, .tmp 22]) rfl ?_); at_builtin; refine Kd.R_append (Kd.int .i64) (w0 := w) w.heap.size rfl (.tmp 20) (.tmp 22) 28 3 (.int .i64 0) 8 rfl Try.underlying28 info3 rfl (by decide) (by omega) u3 x3_1 x12_1 [.int .i64 x12_1] (fun _ => True) (fun _ => False) rfl (by first | (go_simp; done) | (go_simp; rfl)) ?aP (fun _ hk => hk.elim) ?aF ?aO ?aB ?aS ?aL ?_; (case aP => exact rfl); (case aB => exact (zm HB)); (case aF => exact (fun _ _ => trivial)); (case aO => exact (by (with_reducible repeat (first | apply Kd.R_alloc | apply Kd.R_drewN | apply Kd.R_drew)); exact Kd.R_mono (Kd.R_far (p := ⟨gb281, 5, none⟩) (Kd.R_far (p := ⟨gb281, 4, none⟩) (Kd.R_far (p := ⟨gb281, 3, none⟩) (Kd.R_far (p := ⟨gb281, 2, none⟩) (Kd.R_far (p := ⟨gb281, 1, none⟩) (Kd.R_far (p := ⟨gb281, 0, none⟩) (Kd.R_types HO_3.out BK281.out (by decide)) (fun _ hk => hk.2) (.int .i64 ((rd_T23 l0_2 x12_1).f0))) (fun _ hk => hk.2) (.int .i64 ((rd_T23 l0_2 x12_1).f1))) (fun _ hk => hk.2) (.int .i64 ((rd_T23 l0_2 x12_1).f2))) (fun _ hk => hk.2) (.int .i64 ((rd_T23 l0_2 x12_1).f3))) (fun _ hk => hk.2) (.int .i64 ((rd_T23 l0_2 x12_1).f4))) (fun _ hk => hk.2) (.int .i64 ((rd_T23 l0_2 x12_1).f5))) (fun _ hk => trivial))); (case aS => exact (below_size (zm HB))); (case aL => have := LMc12.out; omega); intro v283 w16 ho hb hg hat; rw [← Ny282.out] at ho; have HO284 := za (ho); replace BK278 := (zw BK278 hg (Kd.R_ne HO_3.out BK278.out (by decide))); replace BK281 := za (blk_grown (g := gb281) (o := .cells #[.int .i64 ((rd_T23 l0_2 x12_1).f0), .int .i64 ((rd_T23 l0_2 x12_1).f1), .int .i64 ((rd_T23 l0_2 x12_1).f2), .int .i64 ((rd_T23 l0_2 x12_1).f3), .int .i64 ((rd_T23 l0_2 x12_1).f4), .int .i64 ((rd_T23 l0_2 x12_1).f5)] 23 (0, 0)) (by (with_reducible repeat (first | refine blk_drewN ?_ _ | refine blk_drew ?_ | refine blk_alloc ?_ _)); refine blk_put (cs := #[.int .i64 ((rd_T23 l0_2 x12_1).f0), .int .i64 ((rd_T23 l0_2 x12_1).f1), .int .i64 ((rd_T23 l0_2 x12_1).f2), .int .i64 ((rd_T23 l0_2 x12_1).f3), .int .i64 ((rd_T23 l0_2 x12_1).f4), .int .i64 0]) ?_ 5 _ rfl; (with_reducible repeat (first | refine blk_drewN ?_ _ | refine blk_drew ?_ | refine blk_alloc ?_ _)); refine blk_put (cs := #[.int .i64 ((rd_T23 l0_2 x12_1).f0), .int .i64 ((rd_T23 l0_2 x12_1).f1), .int .i64 ((rd_T23 l0_2 x12_1).f2), .int .i64 ((rd_T23 l0_2 x12_1).f3), .int .i64 0, .int .i64 0]) ?_ 4 _ rfl; (with_reducible repeat (first | refine blk_drewN ?_ _ | refine blk_drew ?_ | refine blk_alloc ?_ _)); refine blk_put (cs := #[.int .i64 ((rd_T23 l0_2 x12_1).f0), .int .i64 ((rd_T23 l0_2 x12_1).f1), .int .i64 ((rd_T23 l0_2 x12_1).f2), .int .i64 0, .int .i64 0, .int .i64 0]) ?_ 3 _ rfl; (with_reducible repeat (first | refine blk_drewN ?_ _ | refine blk_drew ?_ | refine blk_alloc ?_ _)); refine blk_put (cs := #[.int .i64 ((rd_T23 l0_2 x12_1).f0), .int .i64 ((rd_T23 l0_2 x12_1).f1), .int .i64 0, .int .i64 0, .int .i64 0, .int .i64 0]) ?_ 2 _ rfl; (with_reducible repeat (first | refine blk_drewN ?_ _ | refine blk_drew ?_ | refine blk_alloc ?_ _)); refine blk_put (cs := #[.int .i64 ((rd_T23 l0_2 x12_1).f0), .int .i64 0, .int .i64 0, .int .i64 0, .int .i64 0, .int .i64 0]) ?_ 1 _ rfl; (with_reducible repeat (first | refine blk_drewN ?_ _ | refine blk_drew ?_ | refine blk_alloc ?_ _)); refine blk_put (cs := #[.int .i64 0, .int .i64 0, .int .i64 0, .int .i64 0, .int .i64 0, .int .i64 0]) ?_ 0 _ rfl; (with_reducible repeat (first | refine blk_drewN ?_ _ | refine blk_drew ?_ | refine blk_alloc ?_ _)); exact BK281.out) hg (Kd.R_ne HO_3.out BK281.out (by decide))); replace HB := za (hb); clear HO_3 ho hb hg hat))
         go_roundg k1
         case measure => have := HK1.out; omega
         case rel => exact ⟨(y282), (wrap64 (x12_1 + 1)), (by first | rfl | (simp; done) | (simp [*]; done)), H', ⟨by have := HK1.out; omega⟩, ⟨by (with_reducible repeat (first | apply Kd.R_alloc | apply Kd.R_drewN | apply Kd.R_drew)); exact HO284.out⟩, ⟨by (with_reducible repeat (first | refine blk_drewN ?_ _ | refine blk_drew ?_ | refine blk_alloc ?_ _)); exact BK278.out⟩, ⟨zm HB⟩⟩
        ·rw [if_neg c12] at H
         exact absurd H (by simp)
       ·rw [if_neg c11] at H
        have c11b0 : (((rd_T23 l0_2 x12_1).f0) == 2) = false := beq_eq_false_iff_ne.mpr c11
        have c11b1 : (((rd_T23 l0_2 x12_1).f0) != 2) = true := bne_iff_ne.mpr c11
        have H' := za H
        clear H
        have p280 : 0 ≤ (x12_1 : Int) := of_decide_eq_true (by first | (with_reducible assumption) | assumption)
        have q280 : x12_1 < (l0_2.length : Int) := of_decide_eq_true (by first | (with_reducible assumption) | assumption)
        obtain ⟨ad280, e280, hx280_0, hx280_1, hx280_2, hx280_3, hx280_4, hx280_5⟩ := at_T23 HR0_2.out x12_1 p280 q280
        cases e280
        replace hx280_0 := zx HB hx280_0
        replace hx280_1 := zx HB hx280_1
        replace hx280_2 := zx HB hx280_2
        replace hx280_3 := zx HB hx280_3
        replace hx280_4 := zx HB hx280_4
        replace hx280_5 := zx HB hx280_5
        replace p280 := eq_true p280
        replace q280 := eq_true q280
        go_wp2_with (first | ((with_reducible refine gate_dst (N := 5) rfl ?_); refine zE 5 #[.int .i64 0, .int .i64 0, .int .i64 0, .int .i64 0, .int .i64 0, .int .i64 0] 23 ?_; intro gb281 hg w17 hbox hb; have BK281 := za (hbox); have GW281 := zg HB hg; have GE281 := zg HB hg; have NB278_281 := zl BK278 hg; have NB281_278 := zr BK278 hg; replace HO_3 := zR HO_3 hb; replace BK278 := zb BK278 hb; replace HB := zs HB hb; clear hb hbox hg; have hnb18 := NB281_278.out; have hnc18 := NB278_281.out; obtain ⟨hcz19_0, hcz19_1, hcz19_2, hcz19_3, hcz19_4, hcz19_5, hfz19_0, hfz19_1, hfz19_2, hfz19_3, hfz19_4, hfz19_5⟩ := z6 BK281))
        go_roundg k1
        case measure => have := HK1.out; omega
        case rel => exact ⟨(x3_1), (wrap64 (x12_1 + 1)), (by first | rfl | (simp; done) | (simp [*]; done)), H', ⟨by have := HK1.out; omega⟩, ⟨by (with_reducible repeat (first | apply Kd.R_alloc | apply Kd.R_drewN | apply Kd.R_drew)); exact Kd.R_mono (Kd.R_far (p := ⟨gb281, 5, none⟩) (Kd.R_far (p := ⟨gb281, 4, none⟩) (Kd.R_far (p := ⟨gb281, 3, none⟩) (Kd.R_far (p := ⟨gb281, 2, none⟩) (Kd.R_far (p := ⟨gb281, 1, none⟩) (Kd.R_far (p := ⟨gb281, 0, none⟩) (Kd.R_types HO_3.out BK281.out (by decide)) (fun _ hk => hk.2) (.int .i64 ((rd_T23 l0_2 x12_1).f0))) (fun _ hk => hk.2) (.int .i64 ((rd_T23 l0_2 x12_1).f1))) (fun _ hk => hk.2) (.int .i64 ((rd_T23 l0_2 x12_1).f2))) (fun _ hk => hk.2) (.int .i64 ((rd_T23 l0_2 x12_1).f3))) (fun _ hk => hk.2) (.int .i64 ((rd_T23 l0_2 x12_1).f4))) (fun _ hk => hk.2) (.int .i64 ((rd_T23 l0_2 x12_1).f5))) (fun _ hk => trivial)⟩, ⟨by (with_reducible repeat (first | refine blk_drewN ?_ _ | refine blk_drew ?_ | refine blk_alloc ?_ _)); refine blk_far ?_ NB278_281.out _; (with_reducible repeat (first | refine blk_drewN ?_ _ | refine blk_drew ?_ | refine blk_alloc ?_ _)); refine blk_far ?_ NB278_281.out _; (with_reducible repeat (first | refine blk_drewN ?_ _ | refine blk_drew ?_ | refine blk_alloc ?_ _)); refine blk_far ?_ NB278_281.out _; (with_reducible repeat (first | refine blk_drewN ?_ _ | refine blk_drew ?_ | refine blk_alloc ?_ _)); refine blk_far ?_ NB278_281.out _; (with_reducible repeat (first | refine blk_drewN ?_ _ | refine blk_drew ?_ | refine blk_alloc ?_ _)); refine blk_far ?_ NB278_281.out _; (with_reducible repeat (first | refine blk_drewN ?_ _ | refine blk_drew ?_ | refine blk_alloc ?_ _)); refine blk_far ?_ NB278_281.out _; (with_reducible repeat (first | refine blk_drewN ?_ _ | refine blk_drew ?_ | refine blk_alloc ?_ _)); exact BK278.out⟩, ⟨zm HB⟩⟩
      ·rw [if_neg c10] at H
       exact absurd H (by simp)
     ·rw [if_neg c9] at H
      exact absurd H (by simp)
    ·rw [if_neg c8] at H
     have c8b0 : decide (x12_1 < (l0_2.length : Int)) = false := decide_eq_false c8
     clear c8
     obtain rfl := Option.some.inj H
     go_wp2
     go_ret
     exact ⟨_, zf, by (with_reducible repeat (first | apply Kd.R_alloc | apply Kd.R_drewN | apply Kd.R_drew)); exact HO_3.out, zm HB⟩
 ·replace c3 := Bool.eq_false_iff.mpr c3
  subst c3
  have H1 : (some ([] : List Int)) = some r := by rw [if_neg (show ¬ (false = true) by decide)] at H; exact H
  clear H
  have H := H1
  clear H1
  obtain rfl := Option.some.inj H
  go_enter Try.func29, Try.ntmps29
  go_wp2_with (first | ((with_reducible refine gate_dst (N := 1) rfl ?_); refine zE 1 #[.int .i64 a0_0, .int .i64 a0_1, .slice A0_2 l0_2.length c0_2] 33 ?_; intro gb278 hg w20 hbox hb; have BK278 := za (hbox); have GW278 := zg HB hg; have GE278 := zg HB hg; replace HB := zs HB hb; clear hb hbox hg; obtain ⟨hcz21_0, hcz21_1, hcz21_2, hfz21_0, hfz21_1, hfz21_2⟩ := z3 BK278) | ((with_reducible refine gate_callee (f := 39) rfl ?_); refine zL (some 7) Try.func39 #[.agg #[.int .i64 a0_0, .int .i64 a0_1, .slice A0_2 l0_2.length c0_2]] ?_; (with_reducible refine (item_ValidPaper.calls k a0_0 a0_1 _ _ l0_2 false _ ?side1 ?side2 A2.out).mono ?_); (case side1 => exact zC HR0_2 HB); (case side2 => exact HC0_2.out); rintro e w22 ⟨rfl, hb⟩; refine ⟨_, rfl, ?_⟩; replace BK278 := zb BK278 hb; replace HB := zs HB hb; (try clear hb); (try clear hb2); (try clear hk); (try clear hi)))
  go_ret
  exact ⟨_, zf, by first | exact Kd.R_nil _ _ _ _ _ | exact Kd.N_nil _ _ _ _ _ | exact Kd.V_nil _ _ _ _ _ | exact Kd.Q_nil _ _ _ _ _ | exact Kd.S_nil _ _ _ _ _, zm HB⟩

end Go.Proofs.Ytdmlbgdefapcjaa.Print
