-- Printed by a program of this session (wip/own_print.py) out of the translation; Lean checks it.
import Derived.Test.YthbmpjglkbhhgaaShort
import Derived.Test.YthbmpjglkbhhgaaPrint0
import Derived.Test.YthbmpjglkbhhgaaPrint1
import Derived.Test.YthbmpjglkbhhgaaPrint3
import Derived.Test.YthbmpjglkbhhgaaPrint4
namespace Go.Proofs.Ythbmpjglkbhhgaa.Print
open Go.RowKit Go.Proofs.YthbmpjglkbhhgaaW.PrintWords Go.Proofs.YthbmpjglkbhhgaaW.PrintLast Go.Proofs.YthbmpjglkbhhgaaW.PrintMore
attribute [local go_sem] max2_int min2_int max_two min_two max_three min_three max_four min_four   -- for this text's walks alone
set_option linter.unusedVariables false
set_option linter.unusedSimpArgs false

/-! ### bubble_Page: function 32 -/
mutual
def bubble_Page.j0 : Nat → Int → List Int → Bool → Int → Int → List (S65) → List (List Int) → Int → Int → Int → Option (List Int × Int)
  | 0, _, _, _, _, _, _, _, _, _, _ => none
  | k + 1, x3, x4, x19, x242000, x242001, x242002, x243000, x244000, x244001, x244002 => if x19 = true then (some (([] : List Int), 1)) else (if x3 < 0 then (some (([] : List Int), 4)) else (if x3 ≥ (x243000.length : Int) then (some (([] : List Int), 4)) else ((booklet_Fields.f k x242000 x242001 x242002 x243000 x3).bind fun t247 => (if (x4.length : Int) = (t247.length : Int) then ((slices_ContainsFunc_int_int_outside_s40.f k x4).bind fun t250 => (if t250 = true then (some (([] : List Int), 2)) else ((slices_Repeat_int_int.f (([(-1)] : List Int)) (x242002.length : Int)).bind fun t254 => ((bubble_Split.f k t247 x4).bind fun bt257 => (bubble_Page.l0 k t247 t254 0 bt257.1 (bt257.1.length : Int) 0 x244000 x244001 x244002))))) else (some (([] : List Int), 22))))))
def bubble_Page.l0 : Nat → List (S46) → List Int → Int → List (List Int) → Int → Int → Int → Int → Int → Option (List Int × Int)
  | 0, _, _, _, _, _, _, _, _, _ => none
  | k + 1, x12, x13, x16, x68, x69, x70, x244000, x244001, x244002 => if x70 < x69 then (if 0 ≤ x70 then (if x70 < (x68.length : Int) then (if 0 ≤ x16 then (if x16 < (x12.length : Int) then ((bubble_Judge.f k x244000 x244001 x244002 (rd_L2 x68 x70)).bind fun bt263 => (if 0 ≤ ((rd_T46 x12 x16).f0) then (if ((rd_T46 x12 x16).f0) < (x13.length : Int) then (bubble_Page.l0 k x12 (x13.set (((rd_T46 x12 x16).f0) : Int).toNat bt263.1) (wrap64 (x16 + ((rd_L2 x68 x70).length : Int))) x68 x69 (wrap64 (x70 + 1)) x244000 x244001 x244002) else (none)) else (none))) else (none)) else (none)) else (none)) else (none)) else (some (x13, 0))
end
def bubble_Page.f (k : Nat) (a0_0 : Int) (a0_1 : Int) (l0_2 : List (S65)) (l1_0 : List (List Int)) (a2_0 : Int) (a2_1 : Int) (a2_2 : Int) (a3 : Int) (l4 : List Int) : Option (List Int × Int) := (item_ValidPaper.f k a0_0 a0_1 l0_2).bind fun t244 => (if t244 = true then ((bubble_Valid.f a2_0 a2_1 a2_2).bind fun t245 => (if t245 = true then ((booklet_Valid.f k a0_0 a0_1 l0_2 l1_0).bind fun t246 => (bubble_Page.j0 k a3 l4 (!t246) a0_0 a0_1 l0_2 l1_0 a2_0 a2_1 a2_2)) else (bubble_Page.j0 k a3 l4 true a0_0 a0_1 l0_2 l1_0 a2_0 a2_1 a2_2))) else (bubble_Page.j0 k a3 l4 true a0_0 a0_1 l0_2 l1_0 a2_0 a2_1 a2_2))
theorem bubble_Page.mono_l : ∀ k, (∀ y0 y1 y2 y3 y4 y5 y6 y7 y8 y9, LeO (bubble_Page.j0 k y0 y1 y2 y3 y4 y5 y6 y7 y8 y9) (bubble_Page.j0 (k + 1) y0 y1 y2 y3 y4 y5 y6 y7 y8 y9)) ∧ (∀ y0 y1 y2 y3 y4 y5 y6 y7 y8, LeO (bubble_Page.l0 k y0 y1 y2 y3 y4 y5 y6 y7 y8) (bubble_Page.l0 (k + 1) y0 y1 y2 y3 y4 y5 y6 y7 y8))
  | 0 => ⟨fun _ _ _ _ _ _ _ _ _ _ r h => by simp [bubble_Page.j0] at h, fun _ _ _ _ _ _ _ _ _ r h => by simp [bubble_Page.l0] at h⟩
  | k + 1 => by
    obtain ⟨ih0, ih1⟩ := bubble_Page.mono_l k
    refine ⟨?_, ?_⟩
    · intro y0 y1 y2 y3 y4 y5 y6 y7 y8 y9
      unfold bubble_Page.j0
      repeat' first
      | (with_reducible exact ih0 _ _ _ _ _ _ _ _ _ _)
      | (with_reducible exact ih1 _ _ _ _ _ _ _ _ _)
      | (with_reducible exact booklet_Fields.mono _ _ _ _ _ _)
      | (with_reducible exact booklet_Valid.mono _ _ _ _ _)
      | (with_reducible exact bubble_Judge.mono _ _ _ _ _)
      | (with_reducible exact bubble_Split.mono _ _ _)
      | (with_reducible exact item_ValidPaper.mono _ _ _ _)
      | (with_reducible exact slices_ContainsFunc_int_int_outside_s40.mono _ _)
      | (with_reducible exact LeO.refl _)
      | (with_reducible exact LeO.none _)
      | (with_reducible refine LeO.ite ?_ ?_)
      | (with_reducible refine LeO.bind ?_ (fun _ => ?_))
      | exact ih0 _ _ _ _ _ _ _ _ _ _
      | exact ih1 _ _ _ _ _ _ _ _ _
      | exact booklet_Fields.mono _ _ _ _ _ _
      | exact booklet_Valid.mono _ _ _ _ _
      | exact bubble_Judge.mono _ _ _ _ _
      | exact bubble_Split.mono _ _ _
      | exact item_ValidPaper.mono _ _ _ _
      | exact slices_ContainsFunc_int_int_outside_s40.mono _ _
      | exact LeO.none _
      | refine LeO.ite ?_ ?_
      | refine LeO.bind ?_ (fun _ => ?_)
    · intro y0 y1 y2 y3 y4 y5 y6 y7 y8
      unfold bubble_Page.l0
      repeat' first
      | (with_reducible exact ih0 _ _ _ _ _ _ _ _ _ _)
      | (with_reducible exact ih1 _ _ _ _ _ _ _ _ _)
      | (with_reducible exact booklet_Fields.mono _ _ _ _ _ _)
      | (with_reducible exact booklet_Valid.mono _ _ _ _ _)
      | (with_reducible exact bubble_Judge.mono _ _ _ _ _)
      | (with_reducible exact bubble_Split.mono _ _ _)
      | (with_reducible exact item_ValidPaper.mono _ _ _ _)
      | (with_reducible exact slices_ContainsFunc_int_int_outside_s40.mono _ _)
      | (with_reducible exact LeO.refl _)
      | (with_reducible exact LeO.none _)
      | (with_reducible refine LeO.ite ?_ ?_)
      | (with_reducible refine LeO.bind ?_ (fun _ => ?_))
      | exact ih0 _ _ _ _ _ _ _ _ _ _
      | exact ih1 _ _ _ _ _ _ _ _ _
      | exact booklet_Fields.mono _ _ _ _ _ _
      | exact booklet_Valid.mono _ _ _ _ _
      | exact bubble_Judge.mono _ _ _ _ _
      | exact bubble_Split.mono _ _ _
      | exact item_ValidPaper.mono _ _ _ _
      | exact slices_ContainsFunc_int_int_outside_s40.mono _ _
      | exact LeO.none _
      | refine LeO.ite ?_ ?_
      | refine LeO.bind ?_ (fun _ => ?_)
theorem bubble_Page.mono : ∀ a0 a1 a2 a3 a4 a5 a6 a7 a8 k, LeO (bubble_Page.f k a0 a1 a2 a3 a4 a5 a6 a7 a8) (bubble_Page.f (k + 1) a0 a1 a2 a3 a4 a5 a6 a7 a8) := by
  intro a0 a1 a2 a3 a4 a5 a6 a7 a8 k
  obtain ⟨ih0, ih1⟩ := bubble_Page.mono_l k
  unfold bubble_Page.f
  repeat' first
      | (with_reducible exact ih0 _ _ _ _ _ _ _ _ _ _)
      | (with_reducible exact ih1 _ _ _ _ _ _ _ _ _)
      | (with_reducible exact booklet_Fields.mono _ _ _ _ _ _)
      | (with_reducible exact booklet_Valid.mono _ _ _ _ _)
      | (with_reducible exact bubble_Judge.mono _ _ _ _ _)
      | (with_reducible exact bubble_Split.mono _ _ _)
      | (with_reducible exact item_ValidPaper.mono _ _ _ _)
      | (with_reducible exact slices_ContainsFunc_int_int_outside_s40.mono _ _)
      | (with_reducible exact LeO.refl _)
      | (with_reducible exact LeO.none _)
      | (with_reducible refine LeO.ite ?_ ?_)
      | (with_reducible refine LeO.bind ?_ (fun _ => ?_))
      | exact ih0 _ _ _ _ _ _ _ _ _ _
      | exact ih1 _ _ _ _ _ _ _ _ _
      | exact booklet_Fields.mono _ _ _ _ _ _
      | exact booklet_Valid.mono _ _ _ _ _
      | exact bubble_Judge.mono _ _ _ _ _
      | exact bubble_Split.mono _ _ _
      | exact item_ValidPaper.mono _ _ _ _
      | exact slices_ContainsFunc_int_int_outside_s40.mono _ _
      | exact LeO.none _
      | refine LeO.ite ?_ ?_
      | refine LeO.bind ?_ (fun _ => ?_)
def bubble_Page.T16 : Bool × List (List Nat × List Nat) := (true, [([], []), ([], []), ([], []), ([1, 2], [1, 2]), ([3], [3]), ([4], [4]), ([], []), ([], []), ([6, 7], [6, 7]), ([8], [8]), ([9], [9]), ([9], [9]), ([0, 5, 0, 1, 2, 3, 4, 5, 6, 7, 8, 9, 10], [0, 5]), ([12, 10, 8, 0, 1, 2, 3, 4, 5, 6, 7, 8, 9, 10], [10, 12])])
def bubble_Page.B16 : List Nat := [0, 0, 0, 6, 14, 30, 0, 0, 192, 448, 960, 960, 2047, 6143]
theorem bubble_Page.tab16 : rtab .any (opsOf Try.f32 16) = bubble_Page.T16 := by kernel_rfl
theorem bubble_Page.bits16 : waitsOk bubble_Page.T16.2 bubble_Page.B16 = true := by kernel_rfl
set_option maxHeartbeats 8000000 in
set_option maxRecDepth 100000 in
theorem bubble_Page.calls (k : Nat) (a0_0 : Int) (a0_1 : Int) (A0_2 : Option Addr) (c0_2 : Nat) (l0_2 : List (S65)) (A1_0 : Option Addr) (c1_0 : Nat) (l1_0 : List (List Int)) (a2_0 : Int) (a2_1 : Int) (a2_2 : Int) (a3 : Int) (A4 : Option Addr) (c4 : Nat) (l4 : List Int) (r1 : List Int) (r2 : Int) (w : World) (hr0_2 : Kd.C k65 w A0_2 l0_2.length l0_2) (hc0_2 : l0_2.length ≤ c0_2) (hr1_0 : Kd.C (Kd.slice 3 (Kd.int .i64)) w A1_0 l1_0.length l1_0) (hc1_0 : l1_0.length ≤ c1_0) (hr4 : Kd.C (Kd.int .i64) w A4 l4.length l4) (hc4 : l4.length ≤ c4) (h : bubble_Page.f k a0_0 a0_1 l0_2 l1_0 a2_0 a2_1 a2_2 a3 l4 = some (r1, r2)) :
    Calls Try.prog 32 #[.agg #[.int .i64 a0_0, .int .i64 a0_1, .slice A0_2 l0_2.length c0_2], .agg #[.slice A1_0 l1_0.length c1_0], .agg #[.int .i64 a2_0, .int .i64 a2_1, .int .i64 a2_2], .int .i64 a3, .slice A4 l4.length c4] w fun e w' => ∃ v0_ : Value, e = .returned (.tuple #[v0_, .int .i64 r2]) ∧ Kd.R (Kd.int .i64) 3 w' w.heap.size (fun _ => True) v0_ r1 ∧ Below w.heap.size w w' := by
 have hu53 := Try.underlying53
 have hu56 := Try.underlying56
 have hu23 := Try.underlying23
 have HR0_2 := za hr0_2
 have HC0_2 := za hc0_2
 clear hr0_2 hc0_2
 have HR1_0 := za hr1_0
 have HC1_0 := za hc1_0
 clear hr1_0 hc1_0
 have HR4 := za hr4
 have HC4 := za hc4
 clear hr4 hc4
 have HB := za (Below.refl w.heap.size w)
 have H : ((item_ValidPaper.f k a0_0 a0_1 l0_2).bind fun t244 => (if t244 = true then ((bubble_Valid.f a2_0 a2_1 a2_2).bind fun t245 => (if t245 = true then ((booklet_Valid.f k a0_0 a0_1 l0_2 l1_0).bind fun t246 => (bubble_Page.j0 k a3 l4 (!t246) a0_0 a0_1 l0_2 l1_0 a2_0 a2_1 a2_2)) else (bubble_Page.j0 k a3 l4 true a0_0 a0_1 l0_2 l1_0 a2_0 a2_1 a2_2))) else (bubble_Page.j0 k a3 l4 true a0_0 a0_1 l0_2 l1_0 a2_0 a2_1 a2_2))) = some (r1, r2) := h
 clear h
 have HC6 := za H
 clear H
 go_enter Try.func32, Try.ntmps32
 go_upto_region 1 with (first | ((with_reducible refine gate_dst (N := 5) rfl ?_); (try (refine gate_guard (by rfl) ?_; dsimp only)); refine zE 5 #[.int .i64 a0_0, .int .i64 a0_1, .slice A0_2 l0_2.length c0_2] 53 ?_; intro gb241 hg w7 hbox hb; have BK241 := za (hbox); have GW241 := zg HB hg; have GE241 := zg HB hg; replace HB := zs HB hb; clear hb hbox hg) | ((with_reducible refine gate_dst (N := 6) rfl ?_); (try (refine gate_guard (by rfl) ?_; dsimp only)); refine zE 6 #[.slice A1_0 l1_0.length c1_0] 56 ?_; intro gb242 hg w8 hbox hb; have BK242 := za (hbox); have GW242 := zg HB hg; have GE242 := zg HB hg; have NB241_242 := zl BK241 hg; have NB242_241 := zr BK241 hg; replace BK241 := zb BK241 hb; replace HB := zs HB hb; clear hb hbox hg) | ((with_reducible refine gate_dst (N := 7) rfl ?_); (try (refine gate_guard (by rfl) ?_; dsimp only)); refine zE 7 #[.int .i64 a2_0, .int .i64 a2_1, .int .i64 a2_2] 23 ?_; intro gb243 hg w9 hbox hb; have BK243 := za (hbox); have GW243 := zg HB hg; have GE243 := zg HB hg; have NB241_243 := zl BK241 hg; have NB243_241 := zr BK241 hg; have NB242_243 := zl BK242 hg; have NB243_242 := zr BK242 hg; replace BK241 := zb BK241 hb; replace BK242 := zb BK242 hb; replace HB := zs HB hb; clear hb hbox hg))
 (try simp only [Act.put, List.setIfInBounds_toArray, List.set_cons_zero, List.set_cons_succ])
 go_cut [19] (fun v19 wc => ∃ (kq : Nat) (x19_5 : Bool), v19 = .bool x19_5 ∧ Aside0 (bubble_Page.j0 kq a3 l4 x19_5 a0_0 a0_1 l0_2 l1_0 a2_0 a2_1 a2_2 = some (r1, r2)) ∧ Aside0 (kq ≤ k) ∧ Aside0 (wc.heap[gb241]? = some (.cells #[.int .i64 a0_0, .int .i64 a0_1, (.slice A0_2 l0_2.length c0_2)] 53 (0, 0))) ∧ Aside0 (wc.heap[gb242]? = some (.cells #[(.slice A1_0 l1_0.length c1_0)] 56 (0, 0))) ∧ Aside0 (wc.heap[gb243]? = some (.cells #[.int .i64 a2_0, .int .i64 a2_1, .int .i64 a2_2] 23 (0, 0))) ∧ Aside0 (Below w.heap.size w wc))
 case first =>
  have H := HC6.out
  clear HC6
  replace H := Option.bind_eq_some_iff.mp H
  obtain ⟨t244, A100, H⟩ := H
  replace H : (if t244 = true then ((bubble_Valid.f a2_0 a2_1 a2_2).bind fun t245 => (if t245 = true then ((booklet_Valid.f k a0_0 a0_1 l0_2 l1_0).bind fun t246 => (bubble_Page.j0 k a3 l4 (!t246) a0_0 a0_1 l0_2 l1_0 a2_0 a2_1 a2_2)) else (bubble_Page.j0 k a3 l4 true a0_0 a0_1 l0_2 l1_0 a2_0 a2_1 a2_2))) else (bubble_Page.j0 k a3 l4 true a0_0 a0_1 l0_2 l1_0 a2_0 a2_1 a2_2)) = some (r1, r2) := H
  have A10 := za A100
  clear A100
  by_cases c11 : t244 = true
  ·subst c11
   have H1 : ((bubble_Valid.f a2_0 a2_1 a2_2).bind fun t245 => (if t245 = true then ((booklet_Valid.f k a0_0 a0_1 l0_2 l1_0).bind fun t246 => (bubble_Page.j0 k a3 l4 (!t246) a0_0 a0_1 l0_2 l1_0 a2_0 a2_1 a2_2)) else (bubble_Page.j0 k a3 l4 true a0_0 a0_1 l0_2 l1_0 a2_0 a2_1 a2_2))) = some (r1, r2) := by rw [if_pos rfl] at H; exact H
   clear H
   have H := H1
   clear H1
   replace H := Option.bind_eq_some_iff.mp H
   obtain ⟨t245, A120, H⟩ := H
   replace H : (if t245 = true then ((booklet_Valid.f k a0_0 a0_1 l0_2 l1_0).bind fun t246 => (bubble_Page.j0 k a3 l4 (!t246) a0_0 a0_1 l0_2 l1_0 a2_0 a2_1 a2_2)) else (bubble_Page.j0 k a3 l4 true a0_0 a0_1 l0_2 l1_0 a2_0 a2_1 a2_2)) = some (r1, r2) := H
   have A12 := za A120
   clear A120
   by_cases c13 : t245 = true
   ·subst c13
    have H1 : ((booklet_Valid.f k a0_0 a0_1 l0_2 l1_0).bind fun t246 => (bubble_Page.j0 k a3 l4 (!t246) a0_0 a0_1 l0_2 l1_0 a2_0 a2_1 a2_2)) = some (r1, r2) := by rw [if_pos rfl] at H; exact H
    clear H
    have H := H1
    clear H1
    replace H := Option.bind_eq_some_iff.mp H
    obtain ⟨t246, A140, H⟩ := H
    replace H : (bubble_Page.j0 k a3 l4 (!t246) a0_0 a0_1 l0_2 l1_0 a2_0 a2_1 a2_2) = some (r1, r2) := H
    have A14 := za A140
    clear A140
    have H' := za H
    clear H
    have hnb15 := NB241_242.out
    have hnc15 := NB242_241.out
    have hnb16 := NB241_243.out
    have hnc16 := NB243_241.out
    obtain ⟨hcz17_0, hcz17_1, hcz17_2, hfz17_0, hfz17_1, hfz17_2⟩ := z3 BK241
    go_wp2_with (first | ((with_reducible refine gate_callee (f := 52) rfl ?_); refine zL (some 21) Try.func52 #[.agg #[.int .i64 a0_0, .int .i64 a0_1, .slice A0_2 l0_2.length c0_2]] ?_; (with_reducible refine (item_ValidPaper.calls k a0_0 a0_1 _ _ l0_2 true _ ?side1 ?side2 A10.out).mono ?_); (case side1 => exact zC HR0_2 HB); (case side2 => exact HC0_2.out); rintro e w18 ⟨rfl, hb⟩; refine ⟨_, rfl, ?_⟩; replace BK241 := zb BK241 hb; replace BK242 := zb BK242 hb; replace BK243 := zb BK243 hb; replace HB := zs HB hb; (try clear hb); (try clear hb2); (try clear hk); (try clear hi); have hnb19 := NB243_242.out; have hnc19 := NB242_243.out; obtain ⟨hcz20_0, hcz20_1, hcz20_2, hfz20_0, hfz20_1, hfz20_2⟩ := z3 BK243) | (go_at_call 12; (with_reducible refine (bubble_Valid.calls a2_0 a2_1 a2_2 true _ A12.out).mono ?_); rintro e w21 ⟨rfl, hb⟩; replace BK241 := zb BK241 hb; replace BK242 := zb BK242 hb; replace BK243 := zb BK243 hb; replace HB := zs HB hb; (try clear hb); (try clear hb2); (try clear hk); (try clear hi); obtain ⟨hcz22_0, hcz22_1, hcz22_2, hfz22_0, hfz22_1, hfz22_2⟩ := z3 BK241; obtain ⟨hcz23_0, hfz23_0⟩ := z1 BK242) | (go_at_call 53; (with_reducible refine (booklet_Valid.calls k a0_0 a0_1 _ _ l0_2 _ _ l1_0 t246 _ ?side1 ?side2 ?side3 ?side4 A14.out).mono ?_); (case side1 => exact zC HR0_2 HB); (case side2 => exact HC0_2.out); (case side3 => exact zC HR1_0 HB); (case side4 => exact HC1_0.out); rintro e w24 ⟨rfl, hb⟩; replace BK241 := zb BK241 hb; replace BK242 := zb BK242 hb; replace BK243 := zb BK243 hb; replace HB := zs HB hb; (try clear hb); (try clear hb2); (try clear hk); (try clear hi)))
    go_meet
    case rel => exact ⟨_, (!t246), (by first | rfl | (simp; done) | (simp [*]; done)), H', ⟨by first | omega | exact Nat.le_refl _⟩, ⟨by (with_reducible repeat (first | refine blk_drewN ?_ _ | refine blk_drew ?_ | refine blk_alloc ?_ _)); exact BK241.out⟩, ⟨by (with_reducible repeat (first | refine blk_drewN ?_ _ | refine blk_drew ?_ | refine blk_alloc ?_ _)); exact BK242.out⟩, ⟨by (with_reducible repeat (first | refine blk_drewN ?_ _ | refine blk_drew ?_ | refine blk_alloc ?_ _)); exact BK243.out⟩, ⟨zm HB⟩⟩
   ·replace c13 := Bool.eq_false_iff.mpr c13
    subst c13
    have H1 : (bubble_Page.j0 k a3 l4 true a0_0 a0_1 l0_2 l1_0 a2_0 a2_1 a2_2) = some (r1, r2) := by rw [if_neg (show ¬ (false = true) by decide)] at H; exact H
    clear H
    have H := H1
    clear H1
    have H' := za H
    clear H
    have hnb25 := NB241_242.out
    have hnc25 := NB242_241.out
    have hnb26 := NB241_243.out
    have hnc26 := NB243_241.out
    obtain ⟨hcz27_0, hcz27_1, hcz27_2, hfz27_0, hfz27_1, hfz27_2⟩ := z3 BK241
    go_wp2_with (first | ((with_reducible refine gate_callee (f := 52) rfl ?_); refine zL (some 21) Try.func52 #[.agg #[.int .i64 a0_0, .int .i64 a0_1, .slice A0_2 l0_2.length c0_2]] ?_; (with_reducible refine (item_ValidPaper.calls k a0_0 a0_1 _ _ l0_2 true _ ?side1 ?side2 A10.out).mono ?_); (case side1 => exact zC HR0_2 HB); (case side2 => exact HC0_2.out); rintro e w28 ⟨rfl, hb⟩; refine ⟨_, rfl, ?_⟩; replace BK241 := zb BK241 hb; replace BK242 := zb BK242 hb; replace BK243 := zb BK243 hb; replace HB := zs HB hb; (try clear hb); (try clear hb2); (try clear hk); (try clear hi); have hnb29 := NB243_242.out; have hnc29 := NB242_243.out; obtain ⟨hcz30_0, hcz30_1, hcz30_2, hfz30_0, hfz30_1, hfz30_2⟩ := z3 BK243) | (go_at_call 12; (with_reducible refine (bubble_Valid.calls a2_0 a2_1 a2_2 false _ A12.out).mono ?_); rintro e w31 ⟨rfl, hb⟩; replace BK241 := zb BK241 hb; replace BK242 := zb BK242 hb; replace BK243 := zb BK243 hb; replace HB := zs HB hb; (try clear hb); (try clear hb2); (try clear hk); (try clear hi)))
    go_meet
    case rel => exact ⟨_, (true), (by first | rfl | (simp; done) | (simp [*]; done)), H', ⟨by first | omega | exact Nat.le_refl _⟩, ⟨by (with_reducible repeat (first | refine blk_drewN ?_ _ | refine blk_drew ?_ | refine blk_alloc ?_ _)); exact BK241.out⟩, ⟨by (with_reducible repeat (first | refine blk_drewN ?_ _ | refine blk_drew ?_ | refine blk_alloc ?_ _)); exact BK242.out⟩, ⟨by (with_reducible repeat (first | refine blk_drewN ?_ _ | refine blk_drew ?_ | refine blk_alloc ?_ _)); exact BK243.out⟩, ⟨zm HB⟩⟩
  ·replace c11 := Bool.eq_false_iff.mpr c11
   subst c11
   have H1 : (bubble_Page.j0 k a3 l4 true a0_0 a0_1 l0_2 l1_0 a2_0 a2_1 a2_2) = some (r1, r2) := by rw [if_neg (show ¬ (false = true) by decide)] at H; exact H
   clear H
   have H := H1
   clear H1
   have H' := za H
   clear H
   have hnb32 := NB241_242.out
   have hnc32 := NB242_241.out
   have hnb33 := NB241_243.out
   have hnc33 := NB243_241.out
   obtain ⟨hcz34_0, hcz34_1, hcz34_2, hfz34_0, hfz34_1, hfz34_2⟩ := z3 BK241
   go_wp2_with (first | ((with_reducible refine gate_callee (f := 52) rfl ?_); refine zL (some 21) Try.func52 #[.agg #[.int .i64 a0_0, .int .i64 a0_1, .slice A0_2 l0_2.length c0_2]] ?_; (with_reducible refine (item_ValidPaper.calls k a0_0 a0_1 _ _ l0_2 false _ ?side1 ?side2 A10.out).mono ?_); (case side1 => exact zC HR0_2 HB); (case side2 => exact HC0_2.out); rintro e w35 ⟨rfl, hb⟩; refine ⟨_, rfl, ?_⟩; replace BK241 := zb BK241 hb; replace BK242 := zb BK242 hb; replace BK243 := zb BK243 hb; replace HB := zs HB hb; (try clear hb); (try clear hb2); (try clear hk); (try clear hi)))
   go_meet
   case rel => exact ⟨_, (true), (by first | rfl | (simp; done) | (simp [*]; done)), H', ⟨by first | omega | exact Nat.le_refl _⟩, ⟨by (with_reducible repeat (first | refine blk_drewN ?_ _ | refine blk_drew ?_ | refine blk_alloc ?_ _)); exact BK241.out⟩, ⟨by (with_reducible repeat (first | refine blk_drewN ?_ _ | refine blk_drew ?_ | refine blk_alloc ?_ _)); exact BK242.out⟩, ⟨by (with_reducible repeat (first | refine blk_drewN ?_ _ | refine blk_drew ?_ | refine blk_alloc ?_ _)); exact BK243.out⟩, ⟨zm HB⟩⟩
 case rest =>
  clear HC6
  try clear c1
  try clear c2
  try clear p2
  try clear c3
  try clear c4
  try clear c5
  try clear c11
  try clear c13
  try clear c15
  try clear c16
  try clear c19
  try clear c25
  try clear c26
  try clear c29
  try clear c32
  try clear c33
  try clear hcz17_0
  try clear hcz17_1
  try clear hcz17_2
  try clear hcz20_0
  try clear hcz20_1
  try clear hcz20_2
  try clear hcz22_0
  try clear hcz22_1
  try clear hcz22_2
  try clear hcz23_0
  try clear hcz27_0
  try clear hcz27_1
  try clear hcz27_2
  try clear hcz30_0
  try clear hcz30_1
  try clear hcz30_2
  try clear hcz34_0
  try clear hcz34_1
  try clear hcz34_2
  try clear hfz17_0
  try clear hfz17_1
  try clear hfz17_2
  try clear hfz20_0
  try clear hfz20_1
  try clear hfz20_2
  try clear hfz22_0
  try clear hfz22_1
  try clear hfz22_2
  try clear hfz23_0
  try clear hfz27_0
  try clear hfz27_1
  try clear hfz27_2
  try clear hfz30_0
  try clear hfz30_1
  try clear hfz30_2
  try clear hfz34_0
  try clear hfz34_1
  try clear hfz34_2
  obtain ⟨kq, x19_5, rfl, HA, HJ5, BK241, BK242, BK243, HB⟩ := hcut
  cases kq with
  | zero => exact absurd HA.out (by simp [bubble_Page.j0])
  | succ kj5 =>
   have H := HA.out
   clear HA
   simp only [bubble_Page.j0] at H
   by_cases c36 : x19_5 = true
   ·subst c36
    have H1 : (some (([] : List Int), 1)) = some (r1, r2) := by rw [if_pos rfl] at H; exact H
    clear H
    have H := H1
    clear H1
    simp only [Option.some.injEq, Prod.mk.injEq] at H
    obtain ⟨rfl, rfl⟩ := H
    go_wp2
    go_ret2
    exact ⟨_, zf, by first | exact Kd.R_nil _ _ _ _ _ | exact Kd.N_nil _ _ _ _ _ | exact Kd.V_nil _ _ _ _ _ | exact Kd.Q_nil _ _ _ _ _ | exact Kd.S_nil _ _ _ _ _, zm HB⟩
   ·replace c36 := Bool.eq_false_iff.mpr c36
    subst c36
    have H1 : (if a3 < 0 then (some (([] : List Int), 4)) else (if a3 ≥ (l1_0.length : Int) then (some (([] : List Int), 4)) else ((booklet_Fields.f kj5 a0_0 a0_1 l0_2 l1_0 a3).bind fun t247 => (if (l4.length : Int) = (t247.length : Int) then ((slices_ContainsFunc_int_int_outside_s40.f kj5 l4).bind fun t250 => (if t250 = true then (some (([] : List Int), 2)) else ((slices_Repeat_int_int.f (([(-1)] : List Int)) (l0_2.length : Int)).bind fun t254 => ((bubble_Split.f kj5 t247 l4).bind fun bt257 => (bubble_Page.l0 kj5 t247 t254 0 bt257.1 (bt257.1.length : Int) 0 a2_0 a2_1 a2_2))))) else (some (([] : List Int), 22)))))) = some (r1, r2) := by rw [if_neg (show ¬ (false = true) by decide)] at H; exact H
    clear H
    have H := H1
    clear H1
    by_cases c37 : a3 < 0
    ·rw [if_pos c37] at H
     have c37b0 : decide (a3 < 0) = true := decide_eq_true c37
     clear c37
     simp only [Option.some.injEq, Prod.mk.injEq] at H
     obtain ⟨rfl, rfl⟩ := H
     go_wp2
     go_ret2
     exact ⟨_, zf, by first | exact Kd.R_nil _ _ _ _ _ | exact Kd.N_nil _ _ _ _ _ | exact Kd.V_nil _ _ _ _ _ | exact Kd.Q_nil _ _ _ _ _ | exact Kd.S_nil _ _ _ _ _, zm HB⟩
    ·rw [if_neg c37] at H
     have c37b0 : decide (a3 < 0) = false := decide_eq_false c37
     clear c37
     by_cases c38 : a3 ≥ (l1_0.length : Int)
     ·rw [if_pos c38] at H
      have c38b0 : decide ((l1_0.length : Int) ≤ a3) = true := decide_eq_true c38
      clear c38
      simp only [Option.some.injEq, Prod.mk.injEq] at H
      obtain ⟨rfl, rfl⟩ := H
      have hnb39 := NB242_241.out
      have hnc39 := NB241_242.out
      have hnb40 := NB242_243.out
      have hnc40 := NB243_242.out
      obtain ⟨hcz41_0, hfz41_0⟩ := z1 BK242
      go_wp2
      go_ret2
      exact ⟨_, zf, by first | exact Kd.R_nil _ _ _ _ _ | exact Kd.N_nil _ _ _ _ _ | exact Kd.V_nil _ _ _ _ _ | exact Kd.Q_nil _ _ _ _ _ | exact Kd.S_nil _ _ _ _ _, zm HB⟩
     ·rw [if_neg c38] at H
      have c38b0 : decide ((l1_0.length : Int) ≤ a3) = false := decide_eq_false c38
      clear c38
      replace H := Option.bind_eq_some_iff.mp H
      obtain ⟨t247, A420, H⟩ := H
      replace H : (if (l4.length : Int) = (t247.length : Int) then ((slices_ContainsFunc_int_int_outside_s40.f kj5 l4).bind fun t250 => (if t250 = true then (some (([] : List Int), 2)) else ((slices_Repeat_int_int.f (([(-1)] : List Int)) (l0_2.length : Int)).bind fun t254 => ((bubble_Split.f kj5 t247 l4).bind fun bt257 => (bubble_Page.l0 kj5 t247 t254 0 bt257.1 (bt257.1.length : Int) 0 a2_0 a2_1 a2_2))))) else (some (([] : List Int), 22))) = some (r1, r2) := H
      have A42 := za A420
      clear A420
      by_cases c43 : (l4.length : Int) = (t247.length : Int)
      ·rw [if_pos c43] at H
       have c43b0 : ((l4.length : Int) == (t247.length : Int)) = true := beq_iff_eq.mpr c43
       have c43b1 : ((l4.length : Int) != (t247.length : Int)) = false := bne_eq_false_iff_eq.mpr c43
       have c43b2 : (l4.length == t247.length) = true := by first | simpa using c43 | (simp at c43 ⊢; omega)
       clear c43
       replace H := Option.bind_eq_some_iff.mp H
       obtain ⟨t250, A440, H⟩ := H
       replace H : (if t250 = true then (some (([] : List Int), 2)) else ((slices_Repeat_int_int.f (([(-1)] : List Int)) (l0_2.length : Int)).bind fun t254 => ((bubble_Split.f kj5 t247 l4).bind fun bt257 => (bubble_Page.l0 kj5 t247 t254 0 bt257.1 (bt257.1.length : Int) 0 a2_0 a2_1 a2_2)))) = some (r1, r2) := H
       have A44 := za A440
       clear A440
       by_cases c45 : t250 = true
       ·subst c45
        have H1 : (some (([] : List Int), 2)) = some (r1, r2) := by rw [if_pos rfl] at H; exact H
        clear H
        have H := H1
        clear H1
        simp only [Option.some.injEq, Prod.mk.injEq] at H
        obtain ⟨rfl, rfl⟩ := H
        have hnb46 := NB242_241.out
        have hnc46 := NB241_242.out
        have hnb47 := NB242_243.out
        have hnc47 := NB243_242.out
        obtain ⟨hcz48_0, hfz48_0⟩ := z1 BK242
        have hnb49 := NB241_243.out
        have hnc49 := NB243_241.out
        obtain ⟨hcz50_0, hcz50_1, hcz50_2, hfz50_0, hfz50_1, hfz50_2⟩ := z3 BK241
        go_wp2_with (first | ((with_reducible refine gate_callee (f := 36) rfl ?_); refine zL (some 47) Try.func36 #[.agg #[.int .i64 a0_0, .int .i64 a0_1, .slice A0_2 l0_2.length c0_2], .agg #[.slice A1_0 l1_0.length c1_0], .int .i64 a3] ?_; (with_reducible refine (booklet_Fields.calls kj5 a0_0 a0_1 _ _ l0_2 _ _ l1_0 a3 t247 _ ?side1 ?side2 ?side3 ?side4 A42.out).mono ?_); (case side1 => exact zC HR0_2 HB); (case side2 => exact HC0_2.out); (case side3 => exact zC HR1_0 HB); (case side4 => exact HC1_0.out); rintro e w51 ⟨v248, rfl, ho0, hb⟩; refine ⟨_, rfl, ?_⟩; have HO249 := za (Kd.R_lower ho0 (below_size (zm HB))); replace BK241 := zb BK241 hb; replace BK242 := zb BK242 hb; replace BK243 := zb BK243 hb; replace HB := zs HB hb; (try clear hb); (try clear hb2); (try clear hk); (try clear hi); (try clear ho0); obtain ⟨Ao52, co52, eo52⟩ := Kd.R_slice HO249.out; subst eo52) | ((with_reducible refine gate_callee (f := 40) rfl ?_); refine zL (some 56) Try.func40 #[.slice A4 l4.length c4, .func (.func 41) #[] #[]] ?_; (with_reducible refine (slices_ContainsFunc_int_int_outside_s40.calls kj5 _ _ l4 true _ ?side1 ?side2 A44.out).mono ?_); (case side1 => exact zC HR4 HB); (case side2 => exact HC4.out); rintro e w' ⟨rfl, ⟨nd, rfl⟩⟩; refine ⟨_, rfl, ?_⟩))
        go_ret2
        exact ⟨_, zf, by first | exact Kd.R_nil _ _ _ _ _ | exact Kd.N_nil _ _ _ _ _ | exact Kd.V_nil _ _ _ _ _ | exact Kd.Q_nil _ _ _ _ _ | exact Kd.S_nil _ _ _ _ _, zm HB⟩
       ·replace c45 := Bool.eq_false_iff.mpr c45
        subst c45
        have H1 : ((slices_Repeat_int_int.f (([(-1)] : List Int)) (l0_2.length : Int)).bind fun t254 => ((bubble_Split.f kj5 t247 l4).bind fun bt257 => (bubble_Page.l0 kj5 t247 t254 0 bt257.1 (bt257.1.length : Int) 0 a2_0 a2_1 a2_2))) = some (r1, r2) := by rw [if_neg (show ¬ (false = true) by decide)] at H; exact H
        clear H
        have H := H1
        clear H1
        obtain ⟨y251, hy251⟩ : ∃ y_ : List Int, y_ = (([(-1)] : List Int)) := ⟨_, rfl⟩
        replace H : ((slices_Repeat_int_int.f y251 (l0_2.length : Int)).bind fun t254 => ((bubble_Split.f kj5 t247 l4).bind fun bt257 => (bubble_Page.l0 kj5 t247 t254 0 bt257.1 (bt257.1.length : Int) 0 a2_0 a2_1 a2_2))) = some (r1, r2) := by first | (rw [hy251]; with_reducible exact H) | (have H2_ := (Option.bind_some _ _).symm.trans H; rw [hy251]; with_reducible exact H2_) | (have H2_ := (Option.bind_some _ _).symm.trans H; with_reducible exact H2_) | with_reducible exact H | (rw [hy251]; exact H) | exact H
        have Ny251 := za hy251
        clear hy251
        replace H := Option.bind_eq_some_iff.mp H
        obtain ⟨t254, A530, H⟩ := H
        replace H : ((bubble_Split.f kj5 t247 l4).bind fun bt257 => (bubble_Page.l0 kj5 t247 t254 0 bt257.1 (bt257.1.length : Int) 0 a2_0 a2_1 a2_2)) = some (r1, r2) := H
        have A53 := za A530
        clear A530
        replace H := Option.bind_eq_some_iff.mp H
        obtain ⟨⟨t257, t260⟩, A540, H⟩ := H
        replace H : (bubble_Page.l0 kj5 t247 t254 0 t257 (t257.length : Int) 0 a2_0 a2_1 a2_2) = some (r1, r2) := H
        have A54 := za A540
        clear A540
        have H' := za H
        clear H
        have hnb55 := NB242_241.out
        have hnc55 := NB241_242.out
        have hnb56 := NB242_243.out
        have hnc56 := NB243_242.out
        obtain ⟨hcz57_0, hfz57_0⟩ := z1 BK242
        have hnb58 := NB241_243.out
        have hnc58 := NB243_241.out
        obtain ⟨hcz59_0, hcz59_1, hcz59_2, hfz59_0, hfz59_1, hfz59_2⟩ := z3 BK241
        go_wp2_with (first | ((with_reducible refine gate_callee (f := 36) rfl ?_); refine zL (some 47) Try.func36 #[.agg #[.int .i64 a0_0, .int .i64 a0_1, .slice A0_2 l0_2.length c0_2], .agg #[.slice A1_0 l1_0.length c1_0], .int .i64 a3] ?_; (with_reducible refine (booklet_Fields.calls kj5 a0_0 a0_1 _ _ l0_2 _ _ l1_0 a3 t247 _ ?side1 ?side2 ?side3 ?side4 A42.out).mono ?_); (case side1 => exact zC HR0_2 HB); (case side2 => exact HC0_2.out); (case side3 => exact zC HR1_0 HB); (case side4 => exact HC1_0.out); rintro e w60 ⟨v248, rfl, ho0, hb⟩; refine ⟨_, rfl, ?_⟩; have HO249 := za (Kd.R_lower ho0 (below_size (zm HB))); replace BK241 := zb BK241 hb; replace BK242 := zb BK242 hb; replace BK243 := zb BK243 hb; replace HB := zs HB hb; (try clear hb); (try clear hb2); (try clear hk); (try clear hi); (try clear ho0); obtain ⟨Ao61, co61, eo61⟩ := Kd.R_slice HO249.out; subst eo61) | ((with_reducible refine gate_callee (f := 40) rfl ?_); refine zL (some 56) Try.func40 #[.slice A4 l4.length c4, .func (.func 41) #[] #[]] ?_; (with_reducible refine (slices_ContainsFunc_int_int_outside_s40.calls kj5 _ _ l4 false _ ?side1 ?side2 A44.out).mono ?_); (case side1 => exact zC HR4 HB); (case side2 => exact HC4.out); rintro e w' ⟨rfl, ⟨nd, rfl⟩⟩; refine ⟨_, rfl, ?_⟩) | ((with_reducible refine gate_dst (N := 57) rfl ?_); (try (refine gate_guard (by rfl) ?_; dsimp only)); refine Kd.R_lit (Kd.int .i64) _ 3 ?hg (N := 57) ?hd (xs := ([(-1)] : List Int)) (inner := [.int .i64 (-1)]) (ok := fun _ => True) (okp := fun _ => True) ?hr ?hp (fun _ hk => hk) trivial (Below.refl _ _) (Nat.le_refl _) (by simp) ?_; (case hd => rfl); (case hg => rfl); (case hr => first | (go_simp; done) | (go_simp; rfl)); (case hp => exact (Reps.one (show Kd.M (Kd.int .i64) _ _ _ (-1) [.int .i64 (-1)] from rfl) (Reps.none _ _))); intro v252 w62 ho63 hb hg_ hnew_; clear hg_ hnew_; (first | rw [← Ny251.out] at ho63 | (simp only [Int.reduceToNat] at ho63; rw [← Ny251.out] at ho63)); have HO253 := za (Kd.R_lower ho63 (below_size (zm HB))); replace HO249 := zR HO249 hb; replace BK241 := zb BK241 hb; replace BK242 := zb BK242 hb; replace BK243 := zb BK243 hb; replace HB := zs HB hb; clear hb ho63; obtain ⟨hcz64_0, hcz64_1, hcz64_2, hfz64_0, hfz64_1, hfz64_2⟩ := z3 BK241; obtain ⟨Ao65, co65, eo65⟩ := Kd.R_slice HO253.out; subst eo65) | ((with_reducible refine gate_callee (f := 54) rfl ?_); refine zL (some 61) Try.func54 #[.slice Ao65 y251.length co65, .int .i64 (l0_2.length : Int)] ?_; (with_reducible refine (slices_Repeat_int_int.calls _ _ y251 (l0_2.length : Int) t254 _ ?side1 ?side2 A53.out).mono ?_); (case side1 => exact zD HO253); (case side2 => exact (Kd.R_reads' HO253.out).2.1); rintro e w66 ⟨v255, rfl, ho0, hb⟩; refine ⟨_, rfl, ?_⟩; have HO256 := za (Kd.R_lower (Kd.R_new' ho0 (Kd.R_lt (by (with_reducible repeat (first | apply Kd.R_alloc | apply Kd.R_drewN | apply Kd.R_drew)); exact HO253.out))) (below_size (zm HB))); replace HO249 := zR HO249 hb; replace HO253 := za (Kd.R_elder' (by (with_reducible repeat (first | apply Kd.R_alloc | apply Kd.R_drewN | apply Kd.R_drew)); exact HO253.out) (Kd.R_base ho0) hb); replace BK241 := zb BK241 hb; replace BK242 := zb BK242 hb; replace BK243 := zb BK243 hb; replace HB := zs HB hb; (try clear hb); (try clear hb2); (try clear hk); (try clear hi); (try clear ho0)) | ((with_reducible refine gate_callee (f := 25) rfl ?_); refine zL (some 65) Try.func25 #[.slice Ao61 t247.length co61, .slice A4 l4.length c4] ?_; (with_reducible refine (bubble_Split.calls kj5 _ _ t247 _ _ l4 t257 t260 _ ?side1 ?side2 ?side3 ?side4 A54.out).mono ?_); (case side1 => exact zD HO249); (case side2 => exact (Kd.R_reads' HO249.out).2.1); (case side3 => exact zC HR4 HB); (case side4 => exact HC4.out); rintro e w67 ⟨v258, rfl, ho0, hb⟩; refine ⟨_, rfl, ?_⟩; have HO259 := za (Kd.N_lower (Kd.N_mono (ok' := fun k_ => some k_ ≠ (.slice Ao61 t247.length co61 : Value).ownBlock ∧ some k_ ≠ (.slice Ao65 y251.length co65 : Value).ownBlock ∧ some k_ ≠ (v255 : Value).ownBlock ∧ k_ ≠ gb241 ∧ k_ ≠ gb242 ∧ k_ ≠ gb243) ho0 (fun k_ hk_ => ⟨(Kd.fresh' (Kd.R_lt (by (with_reducible repeat (first | apply Kd.R_alloc | apply Kd.R_drewN | apply Kd.R_drew)); exact HO249.out)) k_ hk_), (Kd.fresh' (Kd.R_lt (by (with_reducible repeat (first | apply Kd.R_alloc | apply Kd.R_drewN | apply Kd.R_drew)); exact HO253.out)) k_ hk_), (Kd.fresh' (Kd.R_lt (by (with_reducible repeat (first | apply Kd.R_alloc | apply Kd.R_drewN | apply Kd.R_drew)); exact HO256.out)) k_ hk_), (Kd.freshB (g := gb241) (o := .cells #[.int .i64 a0_0, .int .i64 a0_1, .slice A0_2 l0_2.length c0_2] 53 (0, 0)) (by (with_reducible repeat (first | refine blk_drewN ?_ _ | refine blk_drew ?_ | refine blk_alloc ?_ _)); exact BK241.out) k_ hk_), (Kd.freshB (g := gb242) (o := .cells #[.slice A1_0 l1_0.length c1_0] 56 (0, 0)) (by (with_reducible repeat (first | refine blk_drewN ?_ _ | refine blk_drew ?_ | refine blk_alloc ?_ _)); exact BK242.out) k_ hk_), (Kd.freshB (g := gb243) (o := .cells #[.int .i64 a2_0, .int .i64 a2_1, .int .i64 a2_2] 23 (0, 0)) (by (with_reducible repeat (first | refine blk_drewN ?_ _ | refine blk_drew ?_ | refine blk_alloc ?_ _)); exact BK243.out) k_ hk_)⟩)) (below_size (zm HB))); replace HO249 := zR HO249 hb; replace HO253 := zR HO253 hb; replace HO256 := zR HO256 hb; replace BK241 := zb BK241 hb; replace BK242 := zb BK242 hb; replace BK243 := zb BK243 hb; replace HB := zs HB hb; (try clear hb); (try clear hb2); (try clear hk); (try clear hi); (try clear ho0); obtain ⟨Ao68, co68, eo68⟩ := Kd.N_slice HO259.out; subst eo68))
        go_loopg [16, 70] kj5 (fun kq v16 v70 w' => ∃ (x13_2 : List Int) (x16_2 : Int) (x70_2 : Int), v16 = .int .i64 x16_2 ∧ v70 = .int .i64 x70_2 ∧ Aside0 (bubble_Page.l0 kq t247 x13_2 x16_2 t257 (t257.length : Int) x70_2 a2_0 a2_1 a2_2 = some (r1, r2)) ∧ Aside0 (kq ≤ kj5) ∧ Aside0 (Kd.R k46 46 w' w.heap.size (fun _ => True) (.slice Ao61 t247.length co61) t247) ∧ Aside0 (Kd.R (Kd.int .i64) 3 w' w.heap.size (fun _ => True) v255 x13_2) ∧ Aside0 (Kd.N (Kd.slice 3 (Kd.int .i64)) 28 w' w.heap.size (fun k_ => some k_ ≠ ((.slice Ao61 t247.length co61) : Value).ownBlock ∧ some k_ ≠ (v255 : Value).ownBlock ∧ k_ ≠ gb241 ∧ k_ ≠ gb242 ∧ k_ ≠ gb243) (.slice Ao68 t257.length co68) t257) ∧ Aside0 (w'.heap[gb241]? = some (.cells #[.int .i64 a0_0, .int .i64 a0_1, (.slice A0_2 l0_2.length c0_2)] 53 (0, 0))) ∧ Aside0 (w'.heap[gb242]? = some (.cells #[(.slice A1_0 l1_0.length c1_0)] 56 (0, 0))) ∧ Aside0 (w'.heap[gb243]? = some (.cells #[.int .i64 a2_0, .int .i64 a2_1, .int .i64 a2_2] 23 (0, 0))) ∧ Aside0 (Below w.heap.size w w'))
        case atStart => exact ⟨(t254), (0), (0), (by first | rfl | (simp; done) | (simp [*]; done)), (by first | rfl | (simp; done) | (simp [*]; done)), H', ⟨Nat.le_refl _⟩, ⟨by (with_reducible repeat (first | apply Kd.R_alloc | apply Kd.R_drewN | apply Kd.R_drew)); exact HO249.out⟩, ⟨by (with_reducible repeat (first | apply Kd.R_alloc | apply Kd.R_drewN | apply Kd.R_drew)); exact Kd.R_mono HO256.out (fun _ hk => trivial)⟩, ⟨by (with_reducible repeat (first | apply Kd.N_alloc | apply Kd.N_drewN | apply Kd.N_drew)); exact Kd.N_mono HO259.out (fun _ hk => ⟨hk.1, ⟨hk.2.2.1, ⟨hk.2.2.2.1, ⟨hk.2.2.2.2.1, hk.2.2.2.2.2⟩⟩⟩⟩)⟩, ⟨by (with_reducible repeat (first | refine blk_drewN ?_ _ | refine blk_drew ?_ | refine blk_alloc ?_ _)); exact BK241.out⟩, ⟨by (with_reducible repeat (first | refine blk_drewN ?_ _ | refine blk_drew ?_ | refine blk_alloc ?_ _)); exact BK242.out⟩, ⟨by (with_reducible repeat (first | refine blk_drewN ?_ _ | refine blk_drew ?_ | refine blk_alloc ?_ _)); exact BK243.out⟩, ⟨zm HB⟩⟩
        case round =>
         clear H'
         try clear c1
         try clear c2
         try clear p2
         try clear c3
         try clear c4
         try clear c5
         try clear c11
         try clear c13
         try clear c15
         try clear c16
         try clear c19
         try clear c25
         try clear c26
         try clear c29
         try clear c32
         try clear c33
         try clear c36
         try clear c37
         try clear c37b0
         try clear c38
         try clear c38b0
         try clear c39
         try clear c40
         try clear c43
         try clear c43b0
         try clear c43b1
         try clear c43b2
         try clear c45
         try clear c46
         try clear c47
         try clear c49
         try clear c52
         try clear c54
         try clear c55
         try clear c56
         try clear c58
         try clear hcz17_0
         try clear hcz17_1
         try clear hcz17_2
         try clear hcz20_0
         try clear hcz20_1
         try clear hcz20_2
         try clear hcz22_0
         try clear hcz22_1
         try clear hcz22_2
         try clear hcz23_0
         try clear hcz27_0
         try clear hcz27_1
         try clear hcz27_2
         try clear hcz30_0
         try clear hcz30_1
         try clear hcz30_2
         try clear hcz34_0
         try clear hcz34_1
         try clear hcz34_2
         try clear hcz41_0
         try clear hcz48_0
         try clear hcz50_0
         try clear hcz50_1
         try clear hcz50_2
         try clear hcz57_0
         try clear hcz59_0
         try clear hcz59_1
         try clear hcz59_2
         try clear hcz64_0
         try clear hcz64_1
         try clear hcz64_2
         try clear hfz17_0
         try clear hfz17_1
         try clear hfz17_2
         try clear hfz20_0
         try clear hfz20_1
         try clear hfz20_2
         try clear hfz22_0
         try clear hfz22_1
         try clear hfz22_2
         try clear hfz23_0
         try clear hfz27_0
         try clear hfz27_1
         try clear hfz27_2
         try clear hfz30_0
         try clear hfz30_1
         try clear hfz30_2
         try clear hfz34_0
         try clear hfz34_1
         try clear hfz34_2
         try clear hfz41_0
         try clear hfz48_0
         try clear hfz50_0
         try clear hfz50_1
         try clear hfz50_2
         try clear hfz57_0
         try clear hfz59_0
         try clear hfz59_1
         try clear hfz59_2
         try clear hfz64_0
         try clear hfz64_1
         try clear hfz64_2
         try clear p2
         obtain ⟨x13_2, x16_2, x70_2, rfl, rfl, HA, HK2, HO_12, HO_13, HO_68, BK241, BK242, BK243, HB⟩ := hrel
         cases gk with
         | zero => exact absurd HA.out (by simp [bubble_Page.l0])
         | succ k2 =>
          have H := HA.out
          clear HA
          simp only [bubble_Page.l0] at H
          by_cases c69 : x70_2 < (t257.length : Int)
          ·rw [if_pos c69] at H
           have c69b0 : decide (x70_2 < (t257.length : Int)) = true := decide_eq_true c69
           clear c69
           by_cases c70 : 0 ≤ x70_2
           ·rw [if_pos c70] at H
            have c70b0 : decide (0 ≤ x70_2) = true := decide_eq_true c70
            clear c70
            by_cases c71 : x70_2 < (t257.length : Int)
            ·rw [if_pos c71] at H
             have c71b0 : decide (x70_2 < (t257.length : Int)) = true := decide_eq_true c71
             clear c71
             by_cases c72 : 0 ≤ x16_2
             ·rw [if_pos c72] at H
              have c72b0 : decide (0 ≤ x16_2) = true := decide_eq_true c72
              clear c72
              by_cases c73 : x16_2 < (t247.length : Int)
              ·rw [if_pos c73] at H
               have c73b0 : decide (x16_2 < (t247.length : Int)) = true := decide_eq_true c73
               clear c73
               replace H := Option.bind_eq_some_iff.mp H
               obtain ⟨⟨t263, t264⟩, A740, H⟩ := H
               replace H : (if 0 ≤ ((rd_T46 t247 x16_2).f0) then (if ((rd_T46 t247 x16_2).f0) < (x13_2.length : Int) then (bubble_Page.l0 k2 t247 (x13_2.set (((rd_T46 t247 x16_2).f0) : Int).toNat t263) (wrap64 (x16_2 + ((rd_L2 t257 x70_2).length : Int))) t257 (t257.length : Int) (wrap64 (x70_2 + 1)) a2_0 a2_1 a2_2) else (none)) else (none)) = some (r1, r2) := H
               have A74 := za A740
               clear A740
               by_cases c75 : 0 ≤ ((rd_T46 t247 x16_2).f0)
               ·rw [if_pos c75] at H
                have c75b0 : decide (0 ≤ ((rd_T46 t247 x16_2).f0)) = true := decide_eq_true c75
                clear c75
                by_cases c76 : ((rd_T46 t247 x16_2).f0) < (x13_2.length : Int)
                ·rw [if_pos c76] at H
                 have c76b0 : decide (((rd_T46 t247 x16_2).f0) < (x13_2.length : Int)) = true := decide_eq_true c76
                 clear c76
                 obtain ⟨y265, hy265⟩ : ∃ y_ : List Int, y_ = (x13_2.set (((rd_T46 t247 x16_2).f0) : Int).toNat t263) := ⟨_, rfl⟩
                 replace H : (bubble_Page.l0 k2 t247 y265 (wrap64 (x16_2 + ((rd_L2 t257 x70_2).length : Int))) t257 (t257.length : Int) (wrap64 (x70_2 + 1)) a2_0 a2_1 a2_2) = some (r1, r2) := by first | (rw [hy265]; with_reducible exact H) | (have H2_ := (Option.bind_some _ _).symm.trans H; rw [hy265]; with_reducible exact H2_) | (have H2_ := (Option.bind_some _ _).symm.trans H; with_reducible exact H2_) | with_reducible exact H | (rw [hy265]; exact H) | exact H
                 have Ny265 := za hy265
                 clear hy265
                 have H' := za H
                 clear H
                 have p261 : 0 ≤ (x70_2 : Int) := of_decide_eq_true (by first | (with_reducible assumption) | assumption)
                 have q261 : x70_2 < (t257.length : Int) := of_decide_eq_true (by first | (with_reducible assumption) | assumption)
                 obtain ⟨ad261, A261_0, c261_0, e261, hx261_0, hl261_0, hi261_0⟩ := at_L2 (Kd.N_reads' HO_68.out).2.2 x70_2 p261 q261
                 cases e261
                 obtain ⟨ce261, hce261, hMe261, hcc261⟩ := Kd.N_get HO_68.out [] x70_2 p261 (by first | exact q261 | exact of_decide_eq_true (by first | (with_reducible assumption) | assumption) | (have e_ := (Kd.N_reads' HO_68.out).1; omega))
                 obtain ⟨ua261_0, uc261_0, rfl, ul261_0, ge261_0⟩ := Kd.FK_slice_open hMe261
                 have hv261_0 := hcc261 0 _ rfl
                 rw [Nat.add_zero, show ((Kd.slice 3 (Kd.int .i64))).sz = 1 from rfl, Nat.mul_one] at hv261_0
                 replace hv261_0 := Option.some.inj (hv261_0.symm.trans hx261_0)
                 injection hv261_0 with hva_ hvn_ hvc_
                 rw [hva_] at ge261_0
                 rw [hvc_] at ul261_0
                 have HL261_0 := za (show Kd.V (Kd.int .i64) 3 _ w.heap.size _ _ (rd_L2 t257 x70_2) from Kd.V_mk ul261_0 ge261_0)
                 clear hva_ hvn_ hvc_ ge261_0 ul261_0 hcc261 hce261
                 have HR261_0 := za hi261_0
                 have HC261_0 := za hl261_0
                 clear hi261_0 hl261_0
                 replace p261 := eq_true p261
                 replace q261 := eq_true q261
                 try go_wp2
                 replace HO_12 := za (Kd.R_drew HO_12.out)
                 replace HO_13 := za (Kd.R_drew HO_13.out)
                 replace HO_68 := za (Kd.N_drew HO_68.out)
                 replace HL261_0 := za (Kd.V_drew HL261_0.out)
                 replace BK241 := za (blk_drew BK241.out)
                 replace BK242 := za (blk_drew BK242.out)
                 replace BK243 := za (blk_drew BK243.out)
                 replace HR261_0 := za (Kd.C_drew HR261_0.out)
                 replace HB := za (below_drew1 HB.out)
                 have p262 : 0 ≤ (x16_2 : Int) := of_decide_eq_true (by first | (with_reducible assumption) | assumption)
                 have q262 : x16_2 < (t247.length : Int) := of_decide_eq_true (by first | (with_reducible assumption) | assumption)
                 obtain ⟨ad262, e262, hx262_0, hx262_1⟩ := at_T46 (Kd.R_reads' HO_12.out).2.2 x16_2 p262 q262
                 cases e262
                 replace p262 := eq_true p262
                 replace q262 := eq_true q262
                 refine start_ (n := 14) (S := fun w' => w'.cell? ⟨gb243, 0, none⟩ = some (.int .i64 a2_0) ∧ w'.cell? ⟨gb243, 1, none⟩ = some (.int .i64 a2_1) ∧ w'.cell? ⟨gb243, 2, none⟩ = some (.int .i64 a2_2) ∧ w'.cell? (ad262.add ((x16_2).toNat * 2)) = some (.int .i64 ((rd_T46 t247 x16_2).f0)) ∧ w'.cell? ⟨(ad262.add ((x16_2).toNat * 2)).block, (ad262.add ((x16_2).toNat * 2)).off + 1, none⟩ = some (.int .i64 ((rd_T46 t247 x16_2).f1))) (ds := [13]) #[false, false, false, false, false, false, false, false, false, false, false, false, false, false] (by kernel_rfl) rfl rfl ⟨(blk_cell BK243.out 0).trans rfl, (blk_cell BK243.out 1).trans rfl, (blk_cell BK243.out 2).trans rfl, hx262_0, hx262_1⟩ (fun hHeld => ?_); refine with_tabW bubble_Page.tab16 bubble_Page.bits16 (fun HT_ HW_ => ?_)
                 generalize wr.drew = w78 at HO_12 HO_13 HO_68 HL261_0 BK241 BK242 BK243 HR261_0 HB hx262_0 hx262_1 hHeld ⊢
                 refine pure_ (i := 0) (N := some 75) (v := ?_) (a' := ?_) #[true, false, false, false, false, false, false, false, false, false, false, false, false, false] rfl rfl (any_of HT_.out (by kernel_rfl)) (fun _ _ _ h => h) (Or.inl ⟨by rfl, ?_⟩) ?_ ?_
                 rotate_left
                 ·intro w'
                  go_simp
                  with_reducible rfl
                 rotate_left
                 ·simp only [Act.put, List.setIfInBounds_toArray, List.set_cons_zero, List.set_cons_succ, i64_w, i32_w]
                  rfl
                 refine pure_ (i := 1) (N := some 76) (v := ?_) (a' := ?_) #[true, true, false, false, false, false, false, false, false, false, false, false, false, false] rfl rfl (any_of HT_.out (by kernel_rfl)) (fun _ _ _ h => h) (Or.inl ⟨by rfl, ?_⟩) ?_ ?_
                 rotate_left
                 ·intro w'
                  go_simp
                  with_reducible rfl
                 rotate_left
                 ·simp only [Act.put, List.setIfInBounds_toArray, List.set_cons_zero, List.set_cons_succ, i64_w, i32_w]
                  rfl
                 refine pure_ (i := 2) (N := some 77) (v := ?_) (a' := ?_) #[true, true, true, false, false, false, false, false, false, false, false, false, false, false] rfl rfl (any_of HT_.out (by kernel_rfl)) (fun _ _ _ h => h) (Or.inl ⟨by rfl, ?_⟩) ?_ ?_
                 rotate_left
                 ·intro w'
                  go_simp
                  with_reducible rfl
                 rotate_left
                 ·simp only [Act.put, List.setIfInBounds_toArray, List.set_cons_zero, List.set_cons_succ, i64_w, i32_w]
                  rfl
                 refine pure_ (i := 3) (N := some 78) (v := ?_) (a' := ?_) #[true, true, true, true, false, false, false, false, false, false, false, false, false, false] rfl rfl (any_of HT_.out (by kernel_rfl)) (fun _ _ _ h => h) (Or.inl ⟨by rfl, ?_⟩) ?_ ?_
                 rotate_left
                 ·intro w'
                  go_simp
                  with_reducible rfl
                 rotate_left
                 ·simp only [Act.put, List.setIfInBounds_toArray, List.set_cons_zero, List.set_cons_succ, i64_w, i32_w]
                  rfl
                 refine pure_ (i := 4) (N := some 79) (v := ?_) (a' := ?_) #[true, true, true, true, true, false, false, false, false, false, false, false, false, false] rfl rfl (any_of HT_.out (by kernel_rfl)) (fun _ _ _ h => h) (Or.inl ⟨by rfl, ?_⟩) ?_ ?_
                 rotate_left
                 ·intro w'
                  go_simp
                  with_reducible rfl
                 rotate_left
                 ·simp only [Act.put, List.setIfInBounds_toArray, List.set_cons_zero, List.set_cons_succ, i64_w, i32_w]
                  rfl
                 refine pure_ (i := 7) (N := some 82) (v := ?_) (a' := ?_) #[true, true, true, true, true, false, false, true, false, false, false, false, false, false] rfl rfl (any_of HT_.out (by kernel_rfl)) (fun _ _ _ h => h) (Or.inl ⟨by rfl, ?_⟩) ?_ ?_
                 rotate_left
                 ·intro w'
                  go_simp
                  with_reducible rfl
                 rotate_left
                 ·simp only [Act.put, List.setIfInBounds_toArray, List.set_cons_zero, List.set_cons_succ, i64_w, i32_w]
                  rfl
                 refine take_ (i := 5) (N := some 80) (v := ?_) (a' := ?_) #[true, true, true, true, true, true, false, true, false, false, false, false, false, false] rfl rfl (take_ofW HT_.out HW_.out (by kernel_rfl)) (fun _ _ _ h => h) (Or.inl ⟨by rfl, ?_⟩) hHeld ?_ ?_
                 rotate_left
                 ·rintro w' ⟨s0, s1, s2, s3, s4⟩
                  go_simp
                  with_reducible rfl
                 rotate_left
                 ·simp only [Act.put, List.setIfInBounds_toArray, List.set_cons_zero, List.set_cons_succ, i64_w, i32_w]
                  rfl
                 refine take_ (i := 6) (N := some 81) (v := ?_) (a' := ?_) #[true, true, true, true, true, true, true, true, false, false, false, false, false, false] rfl rfl (take_ofW HT_.out HW_.out (by kernel_rfl)) (fun _ _ _ h => h) (Or.inl ⟨by rfl, ?_⟩) hHeld ?_ ?_
                 rotate_left
                 ·rintro w' ⟨s0, s1, s2, s3, s4⟩
                  go_simp
                  with_reducible rfl
                 rotate_left
                 ·simp only [Act.put, List.setIfInBounds_toArray, List.set_cons_zero, List.set_cons_succ, i64_w, i32_w]
                  rfl
                 refine one_ (i := 8) (N := some 83) #[true, true, true, true, true, true, true, true, true, false, false, false, false, false] rfl rfl (one_of HT_.out (by kernel_rfl)) (by decide) (fun K hK => ?_)
                 refine goes_ Try.func21 (by kernel_rfl) rfl #[.agg #[.int .i64 a2_0, .int .i64 a2_1, .int .i64 a2_2], .slice A261_0 (rd_L2 t257 x70_2).length c261_0] (by rfl) rfl rfl (by (try simp only [List.map_toArray, List.map_cons, List.map_nil]); first | done | rfl | (simp only [List.length_drop, List.length_take]; rfl)) ?_
                 with_reducible refine (bubble_Judge.calls k2 a2_0 a2_1 a2_2 _ _ (rd_L2 t257 x70_2) t263 t264 _ ?side1 ?side2 A74.out).mono ?_
                 (case side1 => repeat (first | exact (by repeat (first | (with_reducible exact HR261_0.out) | (with_reducible refine Kd.C_alloc ?_ _) | (with_reducible refine Kd.C_drewN ?_ _) | (with_reducible refine Kd.C_drew ?_) | exact HR261_0.out)) | (with_reducible refine Kd.C_alloc ?_ _) | (with_reducible refine Kd.C_drewN ?_ _) | (with_reducible refine Kd.C_drew ?_)))
                 (case side2 => exact HC261_0.out)
                 rintro e w79 ⟨rfl, hb⟩
                 have HS3_ := (hb.cell (World.block_lt_of_cell? _ _ (hHeld.2.2.2.1))).trans (hHeld.2.2.2.1)
                 have HS4_ := (hb.cell (World.block_lt_of_cell? _ _ (hHeld.2.2.2.2))).trans (hHeld.2.2.2.2)
                 refine ⟨_, rfl, ?_⟩
                 replace HO_12 := zR HO_12 hb
                 replace HO_13 := zR HO_13 hb
                 replace HO_68 := za (Kd.N_below (by (with_reducible repeat (first | apply Kd.N_alloc | apply Kd.N_drewN | apply Kd.N_drew)); exact HO_68.out) hb)
                 replace HL261_0 := za (Kd.V_below (by (with_reducible repeat (first | apply Kd.V_alloc | apply Kd.V_drewN | apply Kd.V_drew)); exact HL261_0.out) hb)
                 replace BK241 := zb BK241 hb
                 replace BK242 := zb BK242 hb
                 replace BK243 := zb BK243 hb
                 replace HR261_0 := za (Kd.C_below (by repeat (first | (with_reducible exact HR261_0.out) | (with_reducible refine Kd.C_alloc ?_ _) | (with_reducible refine Kd.C_drewN ?_ _) | (with_reducible refine Kd.C_drew ?_) | exact HR261_0.out)) hb)
                 replace HB := zs HB hb
                 (try clear hb)
                 (try clear hb2)
                 (try clear hk)
                 (try clear hi)
                 have p77 : 0 ≤ (((rd_T46 t247 x16_2).f0) : Int) := of_decide_eq_true (by first | (with_reducible assumption) | assumption)
                 have q77 : (((rd_T46 t247 x16_2).f0) : Int) < ((x13_2.length : Int) : Int) := of_decide_eq_true (by first | (with_reducible assumption) | assumption)
                 obtain ⟨go77, co77, eo77, gb77, gl77, cl77, HG77⟩ := Kd.R_form HO_13.out (by omega)
                 (first | cases eo77 | (injection eo77 with ea_ en_ ec_; (first | subst ea_ | (injection ea_ with ea_; subst ea_)); subst ec_; clear en_))
                 have GB77 := za gb77
                 have GG77 := za HG77
                 clear gb77 gl77 HG77
                 obtain ⟨hx77_0, hf77_0⟩ := Kd.R_celln 0 HO_13.out (((rd_T46 t247 x16_2).f0) : Int) p77 q77
                 replace p77 := eq_true p77
                 replace q77 := eq_true q77
                 have HP80 := Kd.R_putn HO_13.out (((rd_T46 t247 x16_2).f0) : Int) t263
                 rw [← Ny265.out] at HP80
                 have HQ80 := za HP80
                 clear HP80
                 refine hK.out _ _ ⟨(blk_cell BK243.out 0).trans rfl, (blk_cell BK243.out 1).trans rfl, (blk_cell BK243.out 2).trans rfl, HS3_, HS4_⟩ (fun hHeld => ?_)
                 clear hK K
                 refine norm_ (a' := ?_) ?_ ?_
                 rotate_left
                 ·show Act.put _ (some 83) _ = _
                  simp only [Act.put, List.setIfInBounds_toArray, List.set_cons_zero, List.set_cons_succ, i64_w, i32_w]
                  rfl
                 refine pure_ (i := 9) (N := some 74) (v := ?_) (a' := ?_) #[true, true, true, true, true, true, true, true, true, true, false, false, false, false] rfl rfl (any_of HT_.out (by kernel_rfl)) (fun _ _ _ h => h) (Or.inl ⟨by rfl, ?_⟩) ?_ ?_
                 rotate_left
                 ·intro w'
                  go_simp
                  with_reducible rfl
                 rotate_left
                 ·simp only [Act.put, List.setIfInBounds_toArray, List.set_cons_zero, List.set_cons_succ, i64_w, i32_w]
                  rfl
                 refine pure_ (i := 10) (N := some 84) (v := ?_) (a' := ?_) #[true, true, true, true, true, true, true, true, true, true, true, false, false, false] rfl rfl (any_of HT_.out (by kernel_rfl)) (fun _ _ _ h => h) (Or.inl ⟨by rfl, ?_⟩) ?_ ?_
                 rotate_left
                 ·intro w'
                  go_simp
                  with_reducible rfl
                 rotate_left
                 ·simp only [Act.put, List.setIfInBounds_toArray, List.set_cons_zero, List.set_cons_succ, i64_w, i32_w]
                  rfl
                 refine pure_ (i := 11) (N := some 85) (v := ?_) (a' := ?_) #[true, true, true, true, true, true, true, true, true, true, true, true, false, false] rfl rfl (any_of HT_.out (by kernel_rfl)) (fun _ _ _ h => h) (Or.inl ⟨by rfl, ?_⟩) ?_ ?_
                 rotate_left
                 ·intro w'
                  go_simp
                  with_reducible rfl
                 rotate_left
                 ·simp only [Act.put, List.setIfInBounds_toArray, List.set_cons_zero, List.set_cons_succ, i64_w, i32_w]
                  rfl
                 refine pure_ (i := 12) (N := some 86) (v := ?_) (a' := ?_) #[true, true, true, true, true, true, true, true, true, true, true, true, true, false] rfl rfl (any_of HT_.out (by kernel_rfl)) (fun _ _ _ h => h) (Or.inl ⟨by rfl, ?_⟩) ?_ ?_
                 rotate_left
                 ·intro w'
                  go_simp
                  with_reducible rfl
                 rotate_left
                 ·simp only [Act.put, List.setIfInBounds_toArray, List.set_cons_zero, List.set_cons_succ, i64_w, i32_w]
                  rfl
                 refine last_ (i := 13) (N := none) #[true, true, true, true, true, true, true, true, true, true, true, true, true, true] rfl rfl (one_of HT_.out (by kernel_rfl)) (by decide) (fun K hK => ?_)
                 refine skip_ (w1 := ?_) (by rfl) rfl ?_ ?_
                 rotate_left
                 ·go_simp
                  rfl
                 refine hK.out _ _ ?_
                 clear hK K
                 refine done_ (done_of HT_.out (by kernel_rfl)) ?_
                 try go_wp2
                 go_roundg k2
                 case measure => have := HJ5.out; have := HK2.out; omega
                 case rel => exact ⟨(y265), (wrap64 (x16_2 + ((rd_L2 t257 x70_2).length : Int))), (wrap64 (x70_2 + 1)), (by first | rfl | (simp; done) | (simp [*]; done)), (by first | rfl | (simp; done) | (simp [*]; done)), H', ⟨by have := HJ5.out; have := HK2.out; omega⟩, ⟨by (with_reducible repeat (first | apply Kd.R_alloc | apply Kd.R_drewN | apply Kd.R_drew)); exact Kd.R_mono (Kd.R_far (p := ⟨go77, (((rd_T46 t247 x16_2).f0) : Int).toNat, none⟩) (Kd.R_types HO_12.out GG77.out (by decide)) (fun _ hk => hk.2) (.int .i64 t263)) (fun _ hk => trivial)⟩, ⟨by (with_reducible repeat (first | apply Kd.R_alloc | apply Kd.R_drewN | apply Kd.R_drew)); exact HQ80.out⟩, ⟨by (with_reducible repeat (first | apply Kd.N_alloc | apply Kd.N_drewN | apply Kd.N_drew)); exact Kd.N_mono (Kd.N_far (p := ⟨go77, (((rd_T46 t247 x16_2).f0) : Int).toNat, none⟩) (Kd.N_mono HO_68.out (fun k_ hk => (⟨hk, fun e_ => hk.2.1 (by rw [e_]; rfl)⟩ : _ ∧ k_ ≠ go77))) (fun _ hk => hk.2) (.int .i64 t263)) (fun _ hk => ⟨hk.1.1, ⟨hk.1.2.1, ⟨hk.1.2.2.1, ⟨hk.1.2.2.2.1, hk.1.2.2.2.2⟩⟩⟩⟩)⟩, ⟨by (with_reducible repeat (first | refine blk_drewN ?_ _ | refine blk_drew ?_ | refine blk_alloc ?_ _)); refine blk_far ?_ (by have h_ := Kd.R_ne HO_13.out BK241.out (by decide); intro e_; exact h_ (by rw [e_]; rfl)) _; (with_reducible repeat (first | refine blk_drewN ?_ _ | refine blk_drew ?_ | refine blk_alloc ?_ _)); exact BK241.out⟩, ⟨by (with_reducible repeat (first | refine blk_drewN ?_ _ | refine blk_drew ?_ | refine blk_alloc ?_ _)); refine blk_far ?_ (by have h_ := Kd.R_ne HO_13.out BK242.out (by decide); intro e_; exact h_ (by rw [e_]; rfl)) _; (with_reducible repeat (first | refine blk_drewN ?_ _ | refine blk_drew ?_ | refine blk_alloc ?_ _)); exact BK242.out⟩, ⟨by (with_reducible repeat (first | refine blk_drewN ?_ _ | refine blk_drew ?_ | refine blk_alloc ?_ _)); refine blk_far ?_ (by have h_ := Kd.R_ne HO_13.out BK243.out (by decide); intro e_; exact h_ (by rw [e_]; rfl)) _; (with_reducible repeat (first | refine blk_drewN ?_ _ | refine blk_drew ?_ | refine blk_alloc ?_ _)); exact BK243.out⟩, ⟨zm HB⟩⟩
                ·rw [if_neg c76] at H
                 exact absurd H (by simp)
               ·rw [if_neg c75] at H
                exact absurd H (by simp)
              ·rw [if_neg c73] at H
               exact absurd H (by simp)
             ·rw [if_neg c72] at H
              exact absurd H (by simp)
            ·rw [if_neg c71] at H
             exact absurd H (by simp)
           ·rw [if_neg c70] at H
            exact absurd H (by simp)
          ·rw [if_neg c69] at H
           have c69b0 : decide (x70_2 < (t257.length : Int)) = false := decide_eq_false c69
           clear c69
           simp only [Option.some.injEq, Prod.mk.injEq] at H
           obtain ⟨rfl, rfl⟩ := H
           go_wp2
           go_ret2
           exact ⟨_, zf, by (with_reducible repeat (first | apply Kd.R_alloc | apply Kd.R_drewN | apply Kd.R_drew)); exact HO_13.out, zm HB⟩
      ·rw [if_neg c43] at H
       have c43b0 : ((l4.length : Int) == (t247.length : Int)) = false := beq_eq_false_iff_ne.mpr c43
       have c43b1 : ((l4.length : Int) != (t247.length : Int)) = true := bne_iff_ne.mpr c43
       have c43b2 : (l4.length == t247.length) = false := by first | simpa using c43 | (simp at c43 ⊢; omega)
       simp only [Option.some.injEq, Prod.mk.injEq] at H
       obtain ⟨rfl, rfl⟩ := H
       have hnb81 := NB242_241.out
       have hnc81 := NB241_242.out
       have hnb82 := NB242_243.out
       have hnc82 := NB243_242.out
       obtain ⟨hcz83_0, hfz83_0⟩ := z1 BK242
       have hnb84 := NB241_243.out
       have hnc84 := NB243_241.out
       obtain ⟨hcz85_0, hcz85_1, hcz85_2, hfz85_0, hfz85_1, hfz85_2⟩ := z3 BK241
       go_wp2_with (first | ((with_reducible refine gate_callee (f := 36) rfl ?_); refine zL (some 47) Try.func36 #[.agg #[.int .i64 a0_0, .int .i64 a0_1, .slice A0_2 l0_2.length c0_2], .agg #[.slice A1_0 l1_0.length c1_0], .int .i64 a3] ?_; (with_reducible refine (booklet_Fields.calls kj5 a0_0 a0_1 _ _ l0_2 _ _ l1_0 a3 t247 _ ?side1 ?side2 ?side3 ?side4 A42.out).mono ?_); (case side1 => exact zC HR0_2 HB); (case side2 => exact HC0_2.out); (case side3 => exact zC HR1_0 HB); (case side4 => exact HC1_0.out); rintro e w86 ⟨v248, rfl, ho0, hb⟩; refine ⟨_, rfl, ?_⟩; have HO249 := za (Kd.R_lower ho0 (below_size (zm HB))); replace BK241 := zb BK241 hb; replace BK242 := zb BK242 hb; replace BK243 := zb BK243 hb; replace HB := zs HB hb; (try clear hb); (try clear hb2); (try clear hk); (try clear hi); (try clear ho0); obtain ⟨Ao87, co87, eo87⟩ := Kd.R_slice HO249.out; subst eo87))
       go_ret2
       exact ⟨_, zf, by first | exact Kd.R_nil _ _ _ _ _ | exact Kd.N_nil _ _ _ _ _ | exact Kd.V_nil _ _ _ _ _ | exact Kd.Q_nil _ _ _ _ _ | exact Kd.S_nil _ _ _ _ _, zm HB⟩

end Go.Proofs.Ythbmpjglkbhhgaa.Print
