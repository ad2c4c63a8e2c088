-- Printed by a program of this session (wip/own_print.py) out of the translation; Lean checks it.
import Derived.Test.YthbmpjglkbhhgaaShort
import Derived.Test.YthbmpjglkbhhgaaPrint0
import Derived.Test.YthbmpjglkbhhgaaPrint7
import Derived.Test.YthbmpjglkbhhgaaPrint10
namespace Go.Proofs.Ythbmpjglkbhhgaa.Print
open Go.RowKit Go.Proofs.YthbmpjglkbhhgaaW.PrintWords Go.Proofs.YthbmpjglkbhhgaaW.PrintLast Go.Proofs.YthbmpjglkbhhgaaW.PrintMore
attribute [local go_sem] max2_int min2_int max_two min_two max_three min_three max_four min_four   -- for this text's walks alone
set_option linter.unusedVariables false
set_option linter.unusedSimpArgs false

/-! ### awardingbodyref20_Page: function 33 -/
mutual
def awardingbodyref20_Page.j0 : Nat → Int → List Int → Bool → Int → Int → List (S65) → List (List Int) → Int → Int → Int → Option (List Int × Int)
  | 0, _, _, _, _, _, _, _, _, _, _ => none
  | k + 1, x3, x4, x31, x416000, x416001, x416002, x417000, x418000, x418001, x418002 => if x31 = true then (some (([] : List Int), 1)) else (if x3 < 0 then (awardingbodyref20_Page.j1 k x3 x4 true x416000 x416001 x416002 x417000 x418000 x418001 x418002) else (awardingbodyref20_Page.j1 k x3 x4 (decide (x3 ≥ (x417000.length : Int))) x416000 x416001 x416002 x417000 x418000 x418001 x418002))
def awardingbodyref20_Page.j1 : Nat → Int → List Int → Bool → Int → Int → List (S65) → List (List Int) → Int → Int → Int → Option (List Int × Int)
  | 0, _, _, _, _, _, _, _, _, _, _ => none
  | k + 1, x3, x4, x40, x416000, x416001, x416002, x417000, x418000, x418001, x418002 => if x40 = true then (some (([] : List Int), 4)) else ((awardingbodyref12_Fields.f k x416000 x416001 x416002 x417000 x3).bind fun t421 => (if (x4.length : Int) = (t421.length : Int) then ((awardingbodyref20_Dark.f k x4).bind fun t424 => (if t424 = true then (awardingbodyref20_Page.l0 k x4 t421 ([] : List Int) 0 x416000 x416001 x416002 x418000 x418001 x418002) else (some (([] : List Int), 2)))) else (some (([] : List Int), 22))))
def awardingbodyref20_Page.l0 : Nat → List Int → List (S46) → List Int → Int → Int → Int → List (S65) → Int → Int → Int → Option (List Int × Int)
  | 0, _, _, _, _, _, _, _, _, _, _ => none
  | k + 1, x4, x12, x13, x14, x416000, x416001, x416002, x418000, x418001, x418002 => if x14 < (x416002.length : Int) then (awardingbodyref20_Page.l1 k x4 x12 x13 x14 ([] : List Int) 0 x416000 x416001 x416002 x418000 x418001 x418002) else (some (x13, 0))
def awardingbodyref20_Page.l1 : Nat → List Int → List (S46) → List Int → Int → List Int → Int → Int → Int → List (S65) → Int → Int → Int → Option (List Int × Int)
  | 0, _, _, _, _, _, _, _, _, _, _, _, _ => none
  | k + 1, x4, x12, x13, x14, x15, x16, x416000, x416001, x416002, x418000, x418001, x418002 => if x16 < (x12.length : Int) then (if 0 ≤ x16 then (if ((rd_T46 x12 x16).f0) = x14 then (if x16 < (x4.length : Int) then (if x15.length < 17592186044416 then (awardingbodyref20_Page.l1 k x4 x12 x13 x14 (x15 ++ [rd x4 x16]) (wrap64 (x16 + 1)) x416000 x416001 x416002 x418000 x418001 x418002) else (none)) else (none)) else (awardingbodyref20_Page.l1 k x4 x12 x13 x14 x15 (wrap64 (x16 + 1)) x416000 x416001 x416002 x418000 x418001 x418002)) else (none)) else (if (x15.length : Int) > 0 then ((awardingbodyref20_Judge.f k x418000 x418001 x418002 x15).bind fun bt430 => (if x13.length < 17592186044416 then (awardingbodyref20_Page.l0 k x4 x12 (x13 ++ [bt430.1]) (wrap64 (x14 + 1)) x416000 x416001 x416002 x418000 x418001 x418002) else (none))) else (if x13.length < 17592186044416 then (awardingbodyref20_Page.l0 k x4 x12 (x13 ++ [(-1)]) (wrap64 (x14 + 1)) x416000 x416001 x416002 x418000 x418001 x418002) else (none)))
end
def awardingbodyref20_Page.f (k : Nat) (a0_0 : Int) (a0_1 : Int) (l0_2 : List (S65)) (l1_0 : List (List Int)) (a2_0 : Int) (a2_1 : Int) (a2_2 : Int) (a3 : Int) (l4 : List Int) : Option (List Int × Int) := (awardingbodyref06_ValidPaper.f k a0_0 a0_1 l0_2).bind fun t418 => (if t418 = true then ((awardingbodyref20_Valid.f a2_0 a2_1 a2_2).bind fun t419 => (if t419 = true then ((awardingbodyref12_Valid.f k a0_0 a0_1 l0_2 l1_0).bind fun t420 => (awardingbodyref20_Page.j0 k a3 l4 (!t420) a0_0 a0_1 l0_2 l1_0 a2_0 a2_1 a2_2)) else (awardingbodyref20_Page.j0 k a3 l4 true a0_0 a0_1 l0_2 l1_0 a2_0 a2_1 a2_2))) else (awardingbodyref20_Page.j0 k a3 l4 true a0_0 a0_1 l0_2 l1_0 a2_0 a2_1 a2_2))
theorem awardingbodyref20_Page.mono_l : ∀ k, (∀ y0 y1 y2 y3 y4 y5 y6 y7 y8 y9, LeO (awardingbodyref20_Page.j0 k y0 y1 y2 y3 y4 y5 y6 y7 y8 y9) (awardingbodyref20_Page.j0 (k + 1) y0 y1 y2 y3 y4 y5 y6 y7 y8 y9)) ∧ (∀ y0 y1 y2 y3 y4 y5 y6 y7 y8 y9, LeO (awardingbodyref20_Page.j1 k y0 y1 y2 y3 y4 y5 y6 y7 y8 y9) (awardingbodyref20_Page.j1 (k + 1) y0 y1 y2 y3 y4 y5 y6 y7 y8 y9)) ∧ (∀ y0 y1 y2 y3 y4 y5 y6 y7 y8 y9, LeO (awardingbodyref20_Page.l0 k y0 y1 y2 y3 y4 y5 y6 y7 y8 y9) (awardingbodyref20_Page.l0 (k + 1) y0 y1 y2 y3 y4 y5 y6 y7 y8 y9)) ∧ (∀ y0 y1 y2 y3 y4 y5 y6 y7 y8 y9 y10 y11, LeO (awardingbodyref20_Page.l1 k y0 y1 y2 y3 y4 y5 y6 y7 y8 y9 y10 y11) (awardingbodyref20_Page.l1 (k + 1) y0 y1 y2 y3 y4 y5 y6 y7 y8 y9 y10 y11))
  | 0 => ⟨fun _ _ _ _ _ _ _ _ _ _ r h => by simp [awardingbodyref20_Page.j0] at h, fun _ _ _ _ _ _ _ _ _ _ r h => by simp [awardingbodyref20_Page.j1] at h, fun _ _ _ _ _ _ _ _ _ _ r h => by simp [awardingbodyref20_Page.l0] at h, fun _ _ _ _ _ _ _ _ _ _ _ _ r h => by simp [awardingbodyref20_Page.l1] at h⟩
  | k + 1 => by
    obtain ⟨ih0, ih1, ih2, ih3⟩ := awardingbodyref20_Page.mono_l k
    refine ⟨?_, ?_, ?_, ?_⟩
    · intro y0 y1 y2 y3 y4 y5 y6 y7 y8 y9
      unfold awardingbodyref20_Page.j0
      repeat' first
      | (with_reducible exact ih0 _ _ _ _ _ _ _ _ _ _)
      | (with_reducible exact ih1 _ _ _ _ _ _ _ _ _ _)
      | (with_reducible exact ih2 _ _ _ _ _ _ _ _ _ _)
      | (with_reducible exact ih3 _ _ _ _ _ _ _ _ _ _ _ _)
      | (with_reducible exact awardingbodyref06_ValidPaper.mono _ _ _ _)
      | (with_reducible exact awardingbodyref12_Fields.mono _ _ _ _ _ _)
      | (with_reducible exact awardingbodyref12_Valid.mono _ _ _ _ _)
      | (with_reducible exact awardingbodyref20_Dark.mono _ _)
      | (with_reducible exact awardingbodyref20_Judge.mono _ _ _ _ _)
      | (with_reducible exact LeO.refl _)
      | (with_reducible exact LeO.none _)
      | (with_reducible refine LeO.ite ?_ ?_)
      | (with_reducible refine LeO.bind ?_ (fun _ => ?_))
      | exact ih0 _ _ _ _ _ _ _ _ _ _
      | exact ih1 _ _ _ _ _ _ _ _ _ _
      | exact ih2 _ _ _ _ _ _ _ _ _ _
      | exact ih3 _ _ _ _ _ _ _ _ _ _ _ _
      | exact awardingbodyref06_ValidPaper.mono _ _ _ _
      | exact awardingbodyref12_Fields.mono _ _ _ _ _ _
      | exact awardingbodyref12_Valid.mono _ _ _ _ _
      | exact awardingbodyref20_Dark.mono _ _
      | exact awardingbodyref20_Judge.mono _ _ _ _ _
      | exact LeO.none _
      | refine LeO.ite ?_ ?_
      | refine LeO.bind ?_ (fun _ => ?_)
    · intro y0 y1 y2 y3 y4 y5 y6 y7 y8 y9
      unfold awardingbodyref20_Page.j1
      repeat' first
      | (with_reducible exact ih0 _ _ _ _ _ _ _ _ _ _)
      | (with_reducible exact ih1 _ _ _ _ _ _ _ _ _ _)
      | (with_reducible exact ih2 _ _ _ _ _ _ _ _ _ _)
      | (with_reducible exact ih3 _ _ _ _ _ _ _ _ _ _ _ _)
      | (with_reducible exact awardingbodyref06_ValidPaper.mono _ _ _ _)
      | (with_reducible exact awardingbodyref12_Fields.mono _ _ _ _ _ _)
      | (with_reducible exact awardingbodyref12_Valid.mono _ _ _ _ _)
      | (with_reducible exact awardingbodyref20_Dark.mono _ _)
      | (with_reducible exact awardingbodyref20_Judge.mono _ _ _ _ _)
      | (with_reducible exact LeO.refl _)
      | (with_reducible exact LeO.none _)
      | (with_reducible refine LeO.ite ?_ ?_)
      | (with_reducible refine LeO.bind ?_ (fun _ => ?_))
      | exact ih0 _ _ _ _ _ _ _ _ _ _
      | exact ih1 _ _ _ _ _ _ _ _ _ _
      | exact ih2 _ _ _ _ _ _ _ _ _ _
      | exact ih3 _ _ _ _ _ _ _ _ _ _ _ _
      | exact awardingbodyref06_ValidPaper.mono _ _ _ _
      | exact awardingbodyref12_Fields.mono _ _ _ _ _ _
      | exact awardingbodyref12_Valid.mono _ _ _ _ _
      | exact awardingbodyref20_Dark.mono _ _
      | exact awardingbodyref20_Judge.mono _ _ _ _ _
      | exact LeO.none _
      | refine LeO.ite ?_ ?_
      | refine LeO.bind ?_ (fun _ => ?_)
    · intro y0 y1 y2 y3 y4 y5 y6 y7 y8 y9
      unfold awardingbodyref20_Page.l0
      repeat' first
      | (with_reducible exact ih0 _ _ _ _ _ _ _ _ _ _)
      | (with_reducible exact ih1 _ _ _ _ _ _ _ _ _ _)
      | (with_reducible exact ih2 _ _ _ _ _ _ _ _ _ _)
      | (with_reducible exact ih3 _ _ _ _ _ _ _ _ _ _ _ _)
      | (with_reducible exact awardingbodyref06_ValidPaper.mono _ _ _ _)
      | (with_reducible exact awardingbodyref12_Fields.mono _ _ _ _ _ _)
      | (with_reducible exact awardingbodyref12_Valid.mono _ _ _ _ _)
      | (with_reducible exact awardingbodyref20_Dark.mono _ _)
      | (with_reducible exact awardingbodyref20_Judge.mono _ _ _ _ _)
      | (with_reducible exact LeO.refl _)
      | (with_reducible exact LeO.none _)
      | (with_reducible refine LeO.ite ?_ ?_)
      | (with_reducible refine LeO.bind ?_ (fun _ => ?_))
      | exact ih0 _ _ _ _ _ _ _ _ _ _
      | exact ih1 _ _ _ _ _ _ _ _ _ _
      | exact ih2 _ _ _ _ _ _ _ _ _ _
      | exact ih3 _ _ _ _ _ _ _ _ _ _ _ _
      | exact awardingbodyref06_ValidPaper.mono _ _ _ _
      | exact awardingbodyref12_Fields.mono _ _ _ _ _ _
      | exact awardingbodyref12_Valid.mono _ _ _ _ _
      | exact awardingbodyref20_Dark.mono _ _
      | exact awardingbodyref20_Judge.mono _ _ _ _ _
      | exact LeO.none _
      | refine LeO.ite ?_ ?_
      | refine LeO.bind ?_ (fun _ => ?_)
    · intro y0 y1 y2 y3 y4 y5 y6 y7 y8 y9 y10 y11
      unfold awardingbodyref20_Page.l1
      repeat' first
      | (with_reducible exact ih0 _ _ _ _ _ _ _ _ _ _)
      | (with_reducible exact ih1 _ _ _ _ _ _ _ _ _ _)
      | (with_reducible exact ih2 _ _ _ _ _ _ _ _ _ _)
      | (with_reducible exact ih3 _ _ _ _ _ _ _ _ _ _ _ _)
      | (with_reducible exact awardingbodyref06_ValidPaper.mono _ _ _ _)
      | (with_reducible exact awardingbodyref12_Fields.mono _ _ _ _ _ _)
      | (with_reducible exact awardingbodyref12_Valid.mono _ _ _ _ _)
      | (with_reducible exact awardingbodyref20_Dark.mono _ _)
      | (with_reducible exact awardingbodyref20_Judge.mono _ _ _ _ _)
      | (with_reducible exact LeO.refl _)
      | (with_reducible exact LeO.none _)
      | (with_reducible refine LeO.ite ?_ ?_)
      | (with_reducible refine LeO.bind ?_ (fun _ => ?_))
      | exact ih0 _ _ _ _ _ _ _ _ _ _
      | exact ih1 _ _ _ _ _ _ _ _ _ _
      | exact ih2 _ _ _ _ _ _ _ _ _ _
      | exact ih3 _ _ _ _ _ _ _ _ _ _ _ _
      | exact awardingbodyref06_ValidPaper.mono _ _ _ _
      | exact awardingbodyref12_Fields.mono _ _ _ _ _ _
      | exact awardingbodyref12_Valid.mono _ _ _ _ _
      | exact awardingbodyref20_Dark.mono _ _
      | exact awardingbodyref20_Judge.mono _ _ _ _ _
      | exact LeO.none _
      | refine LeO.ite ?_ ?_
      | refine LeO.bind ?_ (fun _ => ?_)
theorem awardingbodyref20_Page.mono : ∀ a0 a1 a2 a3 a4 a5 a6 a7 a8 k, LeO (awardingbodyref20_Page.f k a0 a1 a2 a3 a4 a5 a6 a7 a8) (awardingbodyref20_Page.f (k + 1) a0 a1 a2 a3 a4 a5 a6 a7 a8) := by
  intro a0 a1 a2 a3 a4 a5 a6 a7 a8 k
  obtain ⟨ih0, ih1, ih2, ih3⟩ := awardingbodyref20_Page.mono_l k
  unfold awardingbodyref20_Page.f
  repeat' first
      | (with_reducible exact ih0 _ _ _ _ _ _ _ _ _ _)
      | (with_reducible exact ih1 _ _ _ _ _ _ _ _ _ _)
      | (with_reducible exact ih2 _ _ _ _ _ _ _ _ _ _)
      | (with_reducible exact ih3 _ _ _ _ _ _ _ _ _ _ _ _)
      | (with_reducible exact awardingbodyref06_ValidPaper.mono _ _ _ _)
      | (with_reducible exact awardingbodyref12_Fields.mono _ _ _ _ _ _)
      | (with_reducible exact awardingbodyref12_Valid.mono _ _ _ _ _)
      | (with_reducible exact awardingbodyref20_Dark.mono _ _)
      | (with_reducible exact awardingbodyref20_Judge.mono _ _ _ _ _)
      | (with_reducible exact LeO.refl _)
      | (with_reducible exact LeO.none _)
      | (with_reducible refine LeO.ite ?_ ?_)
      | (with_reducible refine LeO.bind ?_ (fun _ => ?_))
      | exact ih0 _ _ _ _ _ _ _ _ _ _
      | exact ih1 _ _ _ _ _ _ _ _ _ _
      | exact ih2 _ _ _ _ _ _ _ _ _ _
      | exact ih3 _ _ _ _ _ _ _ _ _ _ _ _
      | exact awardingbodyref06_ValidPaper.mono _ _ _ _
      | exact awardingbodyref12_Fields.mono _ _ _ _ _ _
      | exact awardingbodyref12_Valid.mono _ _ _ _ _
      | exact awardingbodyref20_Dark.mono _ _
      | exact awardingbodyref20_Judge.mono _ _ _ _ _
      | exact LeO.none _
      | refine LeO.ite ?_ ?_
      | refine LeO.bind ?_ (fun _ => ?_)
theorem q11a {p : Prop} (h : p := by (((repeat (first | (with_reducible first | refine blk_drewN ?_ _ | refine blk_drew ?_ | refine blk_alloc ?_ _) | refine blk_far ?_ (Aside0.out (by assumption)) _)); first | (with_reducible exact (Aside0.out (by assumption))) | exact (Aside0.out (by assumption))); done)) : p := h
theorem q11b {p : Prop} (h : p := by ((first | rfl | (simp; done) | (simp [*]; done)); done)) : p := h
theorem q11c {p : Prop} (h : p := by (((with_reducible repeat (first | apply Kd.R_alloc | apply Kd.R_drewN | apply Kd.R_drew)); exact HO_13.out); done)) : p := h
theorem q11d {p : Prop} (h : p := by (((with_reducible repeat (first | apply Kd.R_alloc | apply Kd.R_drewN | apply Kd.R_drew)); exact HO_15.out); done)) : p := h
theorem q11e {p : Prop} (h : p := by ((first | (with_reducible assumption) | assumption); done)) : p := h
theorem q11f {p : Prop} (h : p := by (((with_reducible repeat (first | apply Kd.R_alloc | apply Kd.R_drewN | apply Kd.R_drew)); exact HO_12.out); done)) : p := h
theorem q11g {p : Prop} (h : p := by (((with_reducible repeat (first | apply Kd.R_alloc | apply Kd.R_drewN | apply Kd.R_drew)); exact Kd.R_mono HO_15.out (fun _ hk => ⟨trivial, hk⟩)); done)) : p := h
theorem q11h {p : Prop} (h : p := by ((first | (rw [hy_]; with_reducible exact H) | (have H2_ := (Option.bind_some _ _).symm.trans H; rw [hy_]; with_reducible exact H2_) | (have H2_ := (Option.bind_some _ _).symm.trans H; with_reducible exact H2_) | with_reducible exact H | (rw [hy_]; exact H) | exact H); done)) : p := h
set_option maxHeartbeats 8000000 in
set_option maxRecDepth 100000 in
theorem awardingbodyref20_Page.calls (k : Nat) (a0_0 : Int) (a0_1 : Int) (A0_2 : Option Addr) (c0_2 : Nat) (l0_2 : List (S65)) (A1_0 : Option Addr) (c1_0 : Nat) (l1_0 : List (List Int)) (a2_0 : Int) (a2_1 : Int) (a2_2 : Int) (a3 : Int) (A4 : Option Addr) (c4 : Nat) (l4 : List Int) (r1 : List Int) (r2 : Int) (w : World) (hr0_2 : Kd.C k65 w A0_2 l0_2.length l0_2) (hc0_2 : l0_2.length ≤ c0_2) (hr1_0 : Kd.C (Kd.slice 3 (Kd.int .i64)) w A1_0 l1_0.length l1_0) (hc1_0 : l1_0.length ≤ c1_0) (hr4 : Kd.C (Kd.int .i64) w A4 l4.length l4) (hc4 : l4.length ≤ c4) (h : awardingbodyref20_Page.f k a0_0 a0_1 l0_2 l1_0 a2_0 a2_1 a2_2 a3 l4 = some (r1, r2)) :
    Calls Try.prog 33 #[.agg #[.int .i64 a0_0, .int .i64 a0_1, .slice A0_2 l0_2.length c0_2], .agg #[.slice A1_0 l1_0.length c1_0], .agg #[.int .i64 a2_0, .int .i64 a2_1, .int .i64 a2_2], .int .i64 a3, .slice A4 l4.length c4] w fun e w' => ∃ v0_ : Value, e = .returned (.tuple #[v0_, .int .i64 r2]) ∧ Kd.R (Kd.int .i64) 3 w' w.heap.size (fun _ => True) v0_ r1 ∧ Below w.heap.size w w' := by
 have hu53 := Try.underlying53
 have hu56 := Try.underlying56
 have hu23 := Try.underlying23
 have HR0_2 := za hr0_2; have HC0_2 := za hc0_2; clear hr0_2 hc0_2; have HR1_0 := za hr1_0; have HC1_0 := za hc1_0; clear hr1_0 hc1_0; have HR4 := za hr4; have HC4 := za hc4; clear hr4 hc4
 have HB := za (Below.refl w.heap.size w)
 have H : ((awardingbodyref06_ValidPaper.f k a0_0 a0_1 l0_2).bind fun t418 => (if t418 = true then ((awardingbodyref20_Valid.f a2_0 a2_1 a2_2).bind fun t419 => (if t419 = true then ((awardingbodyref12_Valid.f k a0_0 a0_1 l0_2 l1_0).bind fun t420 => (awardingbodyref20_Page.j0 k a3 l4 (!t420) a0_0 a0_1 l0_2 l1_0 a2_0 a2_1 a2_2)) else (awardingbodyref20_Page.j0 k a3 l4 true a0_0 a0_1 l0_2 l1_0 a2_0 a2_1 a2_2))) else (awardingbodyref20_Page.j0 k a3 l4 true a0_0 a0_1 l0_2 l1_0 a2_0 a2_1 a2_2))) = some (r1, r2) := h
 clear h; have HC6 := za H; clear H
 go_enter Try.func33, Try.ntmps33
 go_upto_region 1 with (first | ((with_reducible refine gate_dst (N := 5) rfl ?_); (try (refine gate_guard (by rfl) ?_; dsimp only)); refine zE 5 #[.int .i64 a0_0, .int .i64 a0_1, .slice A0_2 l0_2.length c0_2] 53 ?_; intro gb415 hg w7 hbox hb; have BK415 := za (hbox); have GW415 := zg HB hg; have GE415 := zg HB hg; replace HB := zs HB hb; clear hb hbox hg) | ((with_reducible refine gate_dst (N := 6) rfl ?_); (try (refine gate_guard (by rfl) ?_; dsimp only)); refine zE 6 #[.slice A1_0 l1_0.length c1_0] 56 ?_; intro gb416 hg w8 hbox hb; have BK416 := za (hbox); have GW416 := zg HB hg; have GE416 := zg HB hg; have NB415_416 := zl BK415 hg; have NB416_415 := zr BK415 hg; replace BK415 := zb BK415 hb; replace HB := zs HB hb; clear hb hbox hg) | ((with_reducible refine gate_dst (N := 7) rfl ?_); (try (refine gate_guard (by rfl) ?_; dsimp only)); refine zE 7 #[.int .i64 a2_0, .int .i64 a2_1, .int .i64 a2_2] 23 ?_; intro gb417 hg w9 hbox hb; have BK417 := za (hbox); have GW417 := zg HB hg; have GE417 := zg HB hg; have NB415_417 := zl BK415 hg; have NB417_415 := zr BK415 hg; have NB416_417 := zl BK416 hg; have NB417_416 := zr BK416 hg; replace BK415 := zb BK415 hb; replace BK416 := zb BK416 hb; replace HB := zs HB hb; clear hb hbox hg))
 (try simp only [Act.put, List.setIfInBounds_toArray, List.set_cons_zero, List.set_cons_succ])
 go_cut [31] (fun v31 wc => ∃ (kq : Nat) (x31_5 : Bool), v31 = .bool x31_5 ∧ Aside0 (awardingbodyref20_Page.j0 kq a3 l4 x31_5 a0_0 a0_1 l0_2 l1_0 a2_0 a2_1 a2_2 = some (r1, r2)) ∧ Aside0 (kq ≤ k) ∧ Aside0 (wc.heap[gb415]? = some (.cells #[.int .i64 a0_0, .int .i64 a0_1, (.slice A0_2 l0_2.length c0_2)] 53 (0, 0))) ∧ Aside0 (wc.heap[gb416]? = some (.cells #[(.slice A1_0 l1_0.length c1_0)] 56 (0, 0))) ∧ Aside0 (wc.heap[gb417]? = some (.cells #[.int .i64 a2_0, .int .i64 a2_1, .int .i64 a2_2] 23 (0, 0))) ∧ Aside0 (Below w.heap.size w wc))
 case first =>
  have H := HC6.out
  clear HC6
  replace H := Option.bind_eq_some_iff.mp H
  obtain ⟨t418, A100, H⟩ := H
  replace H : (if t418 = true then ((awardingbodyref20_Valid.f a2_0 a2_1 a2_2).bind fun t419 => (if t419 = true then ((awardingbodyref12_Valid.f k a0_0 a0_1 l0_2 l1_0).bind fun t420 => (awardingbodyref20_Page.j0 k a3 l4 (!t420) a0_0 a0_1 l0_2 l1_0 a2_0 a2_1 a2_2)) else (awardingbodyref20_Page.j0 k a3 l4 true a0_0 a0_1 l0_2 l1_0 a2_0 a2_1 a2_2))) else (awardingbodyref20_Page.j0 k a3 l4 true a0_0 a0_1 l0_2 l1_0 a2_0 a2_1 a2_2)) = some (r1, r2) := H
  have A10 := za A100; clear A100
  by_cases c11 : t418 = true
  ·subst c11
   have H1 : ((awardingbodyref20_Valid.f a2_0 a2_1 a2_2).bind fun t419 => (if t419 = true then ((awardingbodyref12_Valid.f k a0_0 a0_1 l0_2 l1_0).bind fun t420 => (awardingbodyref20_Page.j0 k a3 l4 (!t420) a0_0 a0_1 l0_2 l1_0 a2_0 a2_1 a2_2)) else (awardingbodyref20_Page.j0 k a3 l4 true a0_0 a0_1 l0_2 l1_0 a2_0 a2_1 a2_2))) = some (r1, r2) := by rw [if_pos rfl] at H; exact H
   clear H; have H := H1; clear H1
   replace H := Option.bind_eq_some_iff.mp H
   obtain ⟨t419, A120, H⟩ := H
   replace H : (if t419 = true then ((awardingbodyref12_Valid.f k a0_0 a0_1 l0_2 l1_0).bind fun t420 => (awardingbodyref20_Page.j0 k a3 l4 (!t420) a0_0 a0_1 l0_2 l1_0 a2_0 a2_1 a2_2)) else (awardingbodyref20_Page.j0 k a3 l4 true a0_0 a0_1 l0_2 l1_0 a2_0 a2_1 a2_2)) = some (r1, r2) := H
   have A12 := za A120; clear A120
   by_cases c13 : t419 = true
   ·subst c13
    have H1 : ((awardingbodyref12_Valid.f k a0_0 a0_1 l0_2 l1_0).bind fun t420 => (awardingbodyref20_Page.j0 k a3 l4 (!t420) a0_0 a0_1 l0_2 l1_0 a2_0 a2_1 a2_2)) = some (r1, r2) := by rw [if_pos rfl] at H; exact H
    clear H; have H := H1; clear H1
    replace H := Option.bind_eq_some_iff.mp H
    obtain ⟨t420, A140, H⟩ := H
    replace H : (awardingbodyref20_Page.j0 k a3 l4 (!t420) a0_0 a0_1 l0_2 l1_0 a2_0 a2_1 a2_2) = some (r1, r2) := H
    have A14 := za A140; clear A140; have H' := za H; clear H
    have hnb15 := NB415_416.out
    have hnc15 := NB416_415.out
    have hnb16 := NB415_417.out
    have hnc16 := NB417_415.out
    obtain ⟨hcz17_0, hcz17_1, hcz17_2, hfz17_0, hfz17_1, hfz17_2⟩ := z3 BK415
    go_wp2_with (first | ((with_reducible refine gate_callee (f := 49) rfl ?_); refine zL (some 19) Try.func49 #[.agg #[.int .i64 a0_0, .int .i64 a0_1, .slice A0_2 l0_2.length c0_2]] ?_; (with_reducible refine (awardingbodyref06_ValidPaper.calls k a0_0 a0_1 _ _ l0_2 true _ ?side1 ?side2 A10.out).mono ?_); (case side1 => exact zC HR0_2 HB); (case side2 => exact HC0_2.out); rintro e w18 ⟨rfl, hb⟩; refine ⟨_, rfl, ?_⟩; replace BK415 := zb BK415 hb; replace BK416 := zb BK416 hb; replace BK417 := zb BK417 hb; replace HB := zs HB hb; (try clear hb); (try clear hb2); (try clear hk); (try clear hi); have hnb19 := NB417_416.out; have hnc19 := NB416_417.out; obtain ⟨hcz20_0, hcz20_1, hcz20_2, hfz20_0, hfz20_1, hfz20_2⟩ := z3 BK417) | (go_at_call 13; (with_reducible refine (awardingbodyref20_Valid.calls a2_0 a2_1 a2_2 true _ A12.out).mono ?_); rintro e w21 ⟨rfl, hb⟩; replace BK415 := zb BK415 hb; replace BK416 := zb BK416 hb; replace BK417 := zb BK417 hb; replace HB := zs HB hb; (try clear hb); (try clear hb2); (try clear hk); (try clear hi); obtain ⟨hcz22_0, hcz22_1, hcz22_2, hfz22_0, hfz22_1, hfz22_2⟩ := z3 BK415; obtain ⟨hcz23_0, hfz23_0⟩ := z1 BK416) | (go_at_call 51; (with_reducible refine (awardingbodyref12_Valid.calls k a0_0 a0_1 _ _ l0_2 _ _ l1_0 t420 _ ?side1 ?side2 ?side3 ?side4 A14.out).mono ?_); (case side1 => exact zC HR0_2 HB); (case side2 => exact HC0_2.out); (case side3 => exact zC HR1_0 HB); (case side4 => exact HC1_0.out); rintro e w24 ⟨rfl, hb⟩; replace BK415 := zb BK415 hb; replace BK416 := zb BK416 hb; replace BK417 := zb BK417 hb; replace HB := zs HB hb; (try clear hb); (try clear hb2); (try clear hk); (try clear hi)))
    go_meet
    case rel => exact ⟨_, (!t420), q11b, H', ⟨by first | omega | exact Nat.le_refl _⟩, ⟨q11a⟩, ⟨q11a⟩, ⟨q11a⟩, ⟨zm HB⟩⟩
   ·replace c13 := Bool.eq_false_iff.mpr c13
    subst c13
    have H1 : (awardingbodyref20_Page.j0 k a3 l4 true a0_0 a0_1 l0_2 l1_0 a2_0 a2_1 a2_2) = some (r1, r2) := by rw [if_neg (show ¬ (false = true) by decide)] at H; exact H
    clear H; have H := H1; clear H1; have H' := za H; clear H
    have hnb25 := NB415_416.out
    have hnc25 := NB416_415.out
    have hnb26 := NB415_417.out
    have hnc26 := NB417_415.out
    obtain ⟨hcz27_0, hcz27_1, hcz27_2, hfz27_0, hfz27_1, hfz27_2⟩ := z3 BK415
    go_wp2_with (first | ((with_reducible refine gate_callee (f := 49) rfl ?_); refine zL (some 19) Try.func49 #[.agg #[.int .i64 a0_0, .int .i64 a0_1, .slice A0_2 l0_2.length c0_2]] ?_; (with_reducible refine (awardingbodyref06_ValidPaper.calls k a0_0 a0_1 _ _ l0_2 true _ ?side1 ?side2 A10.out).mono ?_); (case side1 => exact zC HR0_2 HB); (case side2 => exact HC0_2.out); rintro e w28 ⟨rfl, hb⟩; refine ⟨_, rfl, ?_⟩; replace BK415 := zb BK415 hb; replace BK416 := zb BK416 hb; replace BK417 := zb BK417 hb; replace HB := zs HB hb; (try clear hb); (try clear hb2); (try clear hk); (try clear hi); have hnb29 := NB417_416.out; have hnc29 := NB416_417.out; obtain ⟨hcz30_0, hcz30_1, hcz30_2, hfz30_0, hfz30_1, hfz30_2⟩ := z3 BK417) | (go_at_call 13; (with_reducible refine (awardingbodyref20_Valid.calls a2_0 a2_1 a2_2 false _ A12.out).mono ?_); rintro e w31 ⟨rfl, hb⟩; replace BK415 := zb BK415 hb; replace BK416 := zb BK416 hb; replace BK417 := zb BK417 hb; replace HB := zs HB hb; (try clear hb); (try clear hb2); (try clear hk); (try clear hi)))
    go_meet
    case rel => exact ⟨_, (true), q11b, H', ⟨by first | omega | exact Nat.le_refl _⟩, ⟨q11a⟩, ⟨q11a⟩, ⟨q11a⟩, ⟨zm HB⟩⟩
  ·replace c11 := Bool.eq_false_iff.mpr c11
   subst c11
   have H1 : (awardingbodyref20_Page.j0 k a3 l4 true a0_0 a0_1 l0_2 l1_0 a2_0 a2_1 a2_2) = some (r1, r2) := by rw [if_neg (show ¬ (false = true) by decide)] at H; exact H
   clear H; have H := H1; clear H1; have H' := za H; clear H
   have hnb32 := NB415_416.out
   have hnc32 := NB416_415.out
   have hnb33 := NB415_417.out
   have hnc33 := NB417_415.out
   obtain ⟨hcz34_0, hcz34_1, hcz34_2, hfz34_0, hfz34_1, hfz34_2⟩ := z3 BK415
   go_wp2_with (first | ((with_reducible refine gate_callee (f := 49) rfl ?_); refine zL (some 19) Try.func49 #[.agg #[.int .i64 a0_0, .int .i64 a0_1, .slice A0_2 l0_2.length c0_2]] ?_; (with_reducible refine (awardingbodyref06_ValidPaper.calls k a0_0 a0_1 _ _ l0_2 false _ ?side1 ?side2 A10.out).mono ?_); (case side1 => exact zC HR0_2 HB); (case side2 => exact HC0_2.out); rintro e w35 ⟨rfl, hb⟩; refine ⟨_, rfl, ?_⟩; replace BK415 := zb BK415 hb; replace BK416 := zb BK416 hb; replace BK417 := zb BK417 hb; replace HB := zs HB hb; (try clear hb); (try clear hb2); (try clear hk); (try clear hi)))
   go_meet
   case rel => exact ⟨_, (true), q11b, H', ⟨by first | omega | exact Nat.le_refl _⟩, ⟨q11a⟩, ⟨q11a⟩, ⟨q11a⟩, ⟨zm HB⟩⟩
 case rest =>
  clear HC6; (try clear c1); (try clear c2); (try clear p2); (try clear c3); (try clear c4); (try clear c11); (try clear c13); (try clear c15); (try clear c16); (try clear c19); (try clear c25); (try clear c26); (try clear c29); (try clear c32); (try clear c33); (try clear hcz17_0); (try clear hcz17_1); (try clear hcz17_2); (try clear hcz20_0); (try clear hcz20_1); (try clear hcz20_2); (try clear hcz22_0); (try clear hcz22_1); (try clear hcz22_2); (try clear hcz23_0); (try clear hcz27_0); (try clear hcz27_1); (try clear hcz27_2); (try clear hcz30_0); (try clear hcz30_1); (try clear hcz30_2); (try clear hcz34_0); (try clear hcz34_1); (try clear hcz34_2); (try clear hfz17_0); (try clear hfz17_1); (try clear hfz17_2); (try clear hfz20_0); (try clear hfz20_1); (try clear hfz20_2); (try clear hfz22_0); (try clear hfz22_1); (try clear hfz22_2); (try clear hfz23_0); (try clear hfz27_0); (try clear hfz27_1); (try clear hfz27_2); (try clear hfz30_0); (try clear hfz30_1); (try clear hfz30_2); (try clear hfz34_0); (try clear hfz34_1); (try clear hfz34_2)
  obtain ⟨kq, x31_5, rfl, HA, HJ5, BK415, BK416, BK417, HB⟩ := hcut
  cases kq with
  | zero => exact absurd HA.out (by simp [awardingbodyref20_Page.j0])
  | succ kj5 =>
   have H := HA.out
   clear HA
   simp only [awardingbodyref20_Page.j0] at H
   by_cases c36 : x31_5 = true
   ·subst c36
    have H1 : (some (([] : List Int), 1)) = some (r1, r2) := by rw [if_pos rfl] at H; exact H
    clear H; have H := H1; clear H1
    simp only [Option.some.injEq, Prod.mk.injEq] at H
    obtain ⟨rfl, rfl⟩ := H
    go_wp2
    go_ret2
    exact ⟨_, zf, by first | exact Kd.R_nil _ _ _ _ _ | exact Kd.N_nil _ _ _ _ _ | exact Kd.V_nil _ _ _ _ _ | exact Kd.Q_nil _ _ _ _ _ | exact Kd.S_nil _ _ _ _ _, zm HB⟩
   ·replace c36 := Bool.eq_false_iff.mpr c36
    subst c36
    have H1 : (if a3 < 0 then (awardingbodyref20_Page.j1 kj5 a3 l4 true a0_0 a0_1 l0_2 l1_0 a2_0 a2_1 a2_2) else (awardingbodyref20_Page.j1 kj5 a3 l4 (decide (a3 ≥ (l1_0.length : Int))) a0_0 a0_1 l0_2 l1_0 a2_0 a2_1 a2_2)) = some (r1, r2) := by rw [if_neg (show ¬ (false = true) by decide)] at H; exact H
    clear H; have H := H1; clear H1; have HC37 := za H; clear H
    go_upto_region 3 with (fail)
    go_cut [40] (fun v40 wc => ∃ (kq : Nat) (x40_36 : Bool), v40 = .bool x40_36 ∧ Aside0 (awardingbodyref20_Page.j1 kq a3 l4 x40_36 a0_0 a0_1 l0_2 l1_0 a2_0 a2_1 a2_2 = some (r1, r2)) ∧ Aside0 (kq ≤ kj5) ∧ Aside0 (wc.heap[gb415]? = some (.cells #[.int .i64 a0_0, .int .i64 a0_1, (.slice A0_2 l0_2.length c0_2)] 53 (0, 0))) ∧ Aside0 (wc.heap[gb416]? = some (.cells #[(.slice A1_0 l1_0.length c1_0)] 56 (0, 0))) ∧ Aside0 (wc.heap[gb417]? = some (.cells #[.int .i64 a2_0, .int .i64 a2_1, .int .i64 a2_2] 23 (0, 0))) ∧ Aside0 (Below w.heap.size w wc))
    case first =>
     have H := HC37.out
     clear HC37
     by_cases c38 : a3 < 0
     ·rw [if_pos c38] at H
      have c38b0 : decide (a3 < 0) = true := decide_eq_true c38
      clear c38
      (first | rw [c38b0] | (simp only [i64_w, i32_w]; rw [c38b0]) | skip)
      have H' := za H; clear H
      go_wp2
      go_meet
      case rel => exact ⟨_, (true), q11b, H', ⟨by have := HJ5.out; first | omega | exact Nat.le_refl _⟩, ⟨q11a⟩, ⟨q11a⟩, ⟨q11a⟩, ⟨zm HB⟩⟩
     ·rw [if_neg c38] at H
      have c38b0 : decide (a3 < 0) = false := decide_eq_false c38
      clear c38
      (first | rw [c38b0] | (simp only [i64_w, i32_w]; rw [c38b0]) | skip)
      have H' := za H; clear H
      have hnb39 := NB416_415.out
      have hnc39 := NB415_416.out
      have hnb40 := NB416_417.out
      have hnc40 := NB417_416.out
      obtain ⟨hcz41_0, hfz41_0⟩ := z1 BK416
      go_wp2
      go_meet
      case rel => exact ⟨_, (decide (a3 ≥ (l1_0.length : Int))), q11b, H', ⟨by have := HJ5.out; first | omega | exact Nat.le_refl _⟩, ⟨q11a⟩, ⟨q11a⟩, ⟨q11a⟩, ⟨zm HB⟩⟩
    case rest =>
     clear HC37; (try clear c1); (try clear c2); (try clear p2); (try clear c3); (try clear c4); (try clear c11); (try clear c13); (try clear c15); (try clear c16); (try clear c19); (try clear c25); (try clear c26); (try clear c29); (try clear c32); (try clear c33); (try clear c36); (try clear c38); (try clear c38b0); (try clear c39); (try clear c40); (try clear hcz17_0); (try clear hcz17_1); (try clear hcz17_2); (try clear hcz20_0); (try clear hcz20_1); (try clear hcz20_2); (try clear hcz22_0); (try clear hcz22_1); (try clear hcz22_2); (try clear hcz23_0); (try clear hcz27_0); (try clear hcz27_1); (try clear hcz27_2); (try clear hcz30_0); (try clear hcz30_1); (try clear hcz30_2); (try clear hcz34_0); (try clear hcz34_1); (try clear hcz34_2); (try clear hcz41_0); (try clear hfz17_0); (try clear hfz17_1); (try clear hfz17_2); (try clear hfz20_0); (try clear hfz20_1); (try clear hfz20_2); (try clear hfz22_0); (try clear hfz22_1); (try clear hfz22_2); (try clear hfz23_0); (try clear hfz27_0); (try clear hfz27_1); (try clear hfz27_2); (try clear hfz30_0); (try clear hfz30_1); (try clear hfz30_2); (try clear hfz34_0); (try clear hfz34_1); (try clear hfz34_2); (try clear hfz41_0); (try clear p2)
     obtain ⟨kq, x40_36, rfl, HA, HJ36, BK415, BK416, BK417, HB⟩ := hcut
     cases kq with
     | zero => exact absurd HA.out (by simp [awardingbodyref20_Page.j1])
     | succ kj36 =>
      have H := HA.out
      clear HA
      simp only [awardingbodyref20_Page.j1] at H
      by_cases c42 : x40_36 = true
      ·subst c42
       have H1 : (some (([] : List Int), 4)) = some (r1, r2) := by rw [if_pos rfl] at H; exact H
       clear H; have H := H1; clear H1
       simp only [Option.some.injEq, Prod.mk.injEq] at H
       obtain ⟨rfl, rfl⟩ := H
       go_wp2
       go_ret2
       exact ⟨_, zf, by first | exact Kd.R_nil _ _ _ _ _ | exact Kd.N_nil _ _ _ _ _ | exact Kd.V_nil _ _ _ _ _ | exact Kd.Q_nil _ _ _ _ _ | exact Kd.S_nil _ _ _ _ _, zm HB⟩
      ·replace c42 := Bool.eq_false_iff.mpr c42
       subst c42
       have H1 : ((awardingbodyref12_Fields.f kj36 a0_0 a0_1 l0_2 l1_0 a3).bind fun t421 => (if (l4.length : Int) = (t421.length : Int) then ((awardingbodyref20_Dark.f kj36 l4).bind fun t424 => (if t424 = true then (awardingbodyref20_Page.l0 kj36 l4 t421 ([] : List Int) 0 a0_0 a0_1 l0_2 a2_0 a2_1 a2_2) else (some (([] : List Int), 2)))) else (some (([] : List Int), 22)))) = some (r1, r2) := by rw [if_neg (show ¬ (false = true) by decide)] at H; exact H
       clear H; have H := H1; clear H1
       replace H := Option.bind_eq_some_iff.mp H
       obtain ⟨t421, A430, H⟩ := H
       replace H : (if (l4.length : Int) = (t421.length : Int) then ((awardingbodyref20_Dark.f kj36 l4).bind fun t424 => (if t424 = true then (awardingbodyref20_Page.l0 kj36 l4 t421 ([] : List Int) 0 a0_0 a0_1 l0_2 a2_0 a2_1 a2_2) else (some (([] : List Int), 2)))) else (some (([] : List Int), 22))) = some (r1, r2) := H
       have A43 := za A430; clear A430
       by_cases c44 : (l4.length : Int) = (t421.length : Int)
       ·rw [if_pos c44] at H
        have c44b0 : ((l4.length : Int) == (t421.length : Int)) = true := beq_iff_eq.mpr c44
        have c44b1 : ((l4.length : Int) != (t421.length : Int)) = false := bne_eq_false_iff_eq.mpr c44
        have c44b2 : (l4.length == t421.length) = true := by first | simpa using c44 | (simp at c44 ⊢; omega)
        clear c44
        replace H := Option.bind_eq_some_iff.mp H
        obtain ⟨t424, A450, H⟩ := H
        replace H : (if t424 = true then (awardingbodyref20_Page.l0 kj36 l4 t421 ([] : List Int) 0 a0_0 a0_1 l0_2 a2_0 a2_1 a2_2) else (some (([] : List Int), 2))) = some (r1, r2) := H
        have A45 := za A450; clear A450
        by_cases c46 : t424 = true
        ·subst c46
         have H1 : (awardingbodyref20_Page.l0 kj36 l4 t421 ([] : List Int) 0 a0_0 a0_1 l0_2 a2_0 a2_1 a2_2) = some (r1, r2) := by rw [if_pos rfl] at H; exact H
         clear H; have H := H1; clear H1; have H' := za H; clear H
         have hnb47 := NB415_416.out
         have hnc47 := NB416_415.out
         have hnb48 := NB415_417.out
         have hnc48 := NB417_415.out
         obtain ⟨hcz49_0, hcz49_1, hcz49_2, hfz49_0, hfz49_1, hfz49_2⟩ := z3 BK415
         have hnb50 := NB416_417.out
         have hnc50 := NB417_416.out
         obtain ⟨hcz51_0, hfz51_0⟩ := z1 BK416
         go_wp2_with (first | ((with_reducible refine gate_callee (f := 31) rfl ?_); refine zL (some 44) Try.func31 #[.agg #[.int .i64 a0_0, .int .i64 a0_1, .slice A0_2 l0_2.length c0_2], .agg #[.slice A1_0 l1_0.length c1_0], .int .i64 a3] ?_; (with_reducible refine (awardingbodyref12_Fields.calls kj36 a0_0 a0_1 _ _ l0_2 _ _ l1_0 a3 t421 _ ?side1 ?side2 ?side3 ?side4 A43.out).mono ?_); (case side1 => exact zC HR0_2 HB); (case side2 => exact HC0_2.out); (case side3 => exact zC HR1_0 HB); (case side4 => exact HC1_0.out); rintro e w52 ⟨v422, rfl, ho0, hb⟩; refine ⟨_, rfl, ?_⟩; have HO423 := za (Kd.R_lower ho0 (below_size (zm HB))); replace BK415 := zb BK415 hb; replace BK416 := zb BK416 hb; replace BK417 := zb BK417 hb; replace HB := zs HB hb; (try clear hb); (try clear hb2); (try clear hk); (try clear hi); (try clear ho0); obtain ⟨Ao53, co53, eo53⟩ := Kd.R_slice HO423.out; subst eo53) | ((with_reducible refine gate_callee (f := 44) rfl ?_); refine zL (some 51) Try.func44 #[.slice A4 l4.length c4] ?_; (with_reducible refine (awardingbodyref20_Dark.calls kj36 _ _ l4 true _ ?side1 ?side2 A45.out).mono ?_); (case side1 => exact zC HR4 HB); (case side2 => exact HC4.out); rintro e w' ⟨rfl, ⟨nd, rfl⟩⟩; refine ⟨_, rfl, ?_⟩))
         go_loopg [13, 14] kj36 (fun kq v13 v14 w' => ∃ (x13_3 : List Int) (x14_3 : Int), v14 = .int .i64 x14_3 ∧ Aside0 (awardingbodyref20_Page.l0 kq l4 t421 x13_3 x14_3 a0_0 a0_1 l0_2 a2_0 a2_1 a2_2 = some (r1, r2)) ∧ Aside0 (kq ≤ kj36) ∧ Aside0 (Kd.R k46 46 w' w.heap.size (fun _ => True) (.slice Ao53 t421.length co53) t421) ∧ Aside0 (Kd.R (Kd.int .i64) 3 w' w.heap.size (fun _ => True) v13 x13_3) ∧ Aside0 (w'.heap[gb415]? = some (.cells #[.int .i64 a0_0, .int .i64 a0_1, (.slice A0_2 l0_2.length c0_2)] 53 (0, 0))) ∧ Aside0 (w'.heap[gb416]? = some (.cells #[(.slice A1_0 l1_0.length c1_0)] 56 (0, 0))) ∧ Aside0 (w'.heap[gb417]? = some (.cells #[.int .i64 a2_0, .int .i64 a2_1, .int .i64 a2_2] 23 (0, 0))) ∧ Aside0 (Below w.heap.size w w'))
         case atStart => exact ⟨(([] : List Int)), (0), q11b, H', ⟨Nat.le_refl _⟩, ⟨by (with_reducible repeat (first | apply Kd.R_alloc | apply Kd.R_drewN | apply Kd.R_drew)); exact HO423.out⟩, ⟨by first | exact Kd.R_nil _ _ _ _ _ | exact Kd.N_nil _ _ _ _ _ | exact Kd.V_nil _ _ _ _ _ | exact Kd.Q_nil _ _ _ _ _ | exact Kd.S_nil _ _ _ _ _⟩, ⟨q11a⟩, ⟨q11a⟩, ⟨q11a⟩, ⟨zm HB⟩⟩
         case round =>
          clear H'; (try clear c1); (try clear c2); (try clear p2); (try clear c3); (try clear c4); (try clear c5); (try clear c11); (try clear c13); (try clear c15); (try clear c16); (try clear c19); (try clear c25); (try clear c26); (try clear c29); (try clear c31); (try clear c32); (try clear c33); (try clear c36); (try clear c38); (try clear c38b0); (try clear c39); (try clear c40); (try clear c42); (try clear c44); (try clear c44b0); (try clear c44b1); (try clear c44b2); (try clear c46); (try clear c47); (try clear c48); (try clear c49); (try clear c50); (try clear hcz17_0); (try clear hcz17_1); (try clear hcz17_2); (try clear hcz20_0); (try clear hcz20_1); (try clear hcz20_2); (try clear hcz22_0); (try clear hcz22_1); (try clear hcz22_2); (try clear hcz23_0); (try clear hcz27_0); (try clear hcz27_1); (try clear hcz27_2); (try clear hcz30_0); (try clear hcz30_1); (try clear hcz30_2); (try clear hcz34_0); (try clear hcz34_1); (try clear hcz34_2); (try clear hcz41_0); (try clear hcz49_0); (try clear hcz49_1); (try clear hcz49_2); (try clear hcz51_0); (try clear hfz17_0); (try clear hfz17_1); (try clear hfz17_2); (try clear hfz20_0); (try clear hfz20_1); (try clear hfz20_2); (try clear hfz22_0); (try clear hfz22_1); (try clear hfz22_2); (try clear hfz23_0); (try clear hfz27_0); (try clear hfz27_1); (try clear hfz27_2); (try clear hfz30_0); (try clear hfz30_1); (try clear hfz30_2); (try clear hfz34_0); (try clear hfz34_1); (try clear hfz34_2); (try clear hfz41_0); (try clear hfz49_0); (try clear hfz49_1); (try clear hfz49_2); (try clear hfz51_0); (try clear p2)
          obtain ⟨x13_3, x14_3, rfl, HA, HK3, HO_12, HO_13, BK415, BK416, BK417, HB⟩ := hrel
          cases gk with
          | zero => exact absurd HA.out (by simp [awardingbodyref20_Page.l0])
          | succ k3 =>
           have H := HA.out
           clear HA
           simp only [awardingbodyref20_Page.l0] at H
           by_cases c54 : x14_3 < (l0_2.length : Int)
           ·rw [if_pos c54] at H
            have c54b0 : decide (x14_3 < (l0_2.length : Int)) = true := decide_eq_true c54
            clear c54; have H' := za H; clear H
            have hnb55 := NB415_416.out
            have hnc55 := NB416_415.out
            have hnb56 := NB415_417.out
            have hnc56 := NB417_415.out
            obtain ⟨hcz57_0, hcz57_1, hcz57_2, hfz57_0, hfz57_1, hfz57_2⟩ := z3 BK415
            go_wp2
            go_loopg [15, 16] k3 (fun kq v15 v16 w' => ∃ (x15_4 : List Int) (x16_4 : Int), v16 = .int .i64 x16_4 ∧ Aside0 (awardingbodyref20_Page.l1 kq l4 t421 x13_3 x14_3 x15_4 x16_4 a0_0 a0_1 l0_2 a2_0 a2_1 a2_2 = some (r1, r2)) ∧ Aside0 (kq ≤ k3) ∧ Aside0 (Kd.R k46 46 w' w.heap.size (fun _ => True) (.slice Ao53 t421.length co53) t421) ∧ Aside0 (Kd.R (Kd.int .i64) 3 w' w.heap.size (fun k_ => some k_ ≠ (v15 : Value).ownBlock) u13 x13_3) ∧ Aside0 (Kd.R (Kd.int .i64) 3 w' w.heap.size (fun k_ => some k_ ≠ (u13 : Value).ownBlock) v15 x15_4) ∧ Aside0 (w'.heap[gb415]? = some (.cells #[.int .i64 a0_0, .int .i64 a0_1, (.slice A0_2 l0_2.length c0_2)] 53 (0, 0))) ∧ Aside0 (w'.heap[gb416]? = some (.cells #[(.slice A1_0 l1_0.length c1_0)] 56 (0, 0))) ∧ Aside0 (w'.heap[gb417]? = some (.cells #[.int .i64 a2_0, .int .i64 a2_1, .int .i64 a2_2] 23 (0, 0))) ∧ Aside0 (Below w.heap.size w w'))
            case atStart => exact ⟨(([] : List Int)), (0), q11b, H', ⟨Nat.le_refl _⟩, ⟨by (with_reducible repeat (first | apply Kd.R_alloc | apply Kd.R_drewN | apply Kd.R_drew)); exact HO_12.out⟩, ⟨by (with_reducible repeat (first | apply Kd.R_alloc | apply Kd.R_drewN | apply Kd.R_drew)); exact Kd.R_mono HO_13.out (fun _ hk => (by simp [Value.ownBlock]))⟩, ⟨by first | exact Kd.R_nil _ _ _ _ _ | exact Kd.N_nil _ _ _ _ _ | exact Kd.V_nil _ _ _ _ _ | exact Kd.Q_nil _ _ _ _ _ | exact Kd.S_nil _ _ _ _ _⟩, ⟨q11a⟩, ⟨q11a⟩, ⟨q11a⟩, ⟨zm HB⟩⟩
            case round =>
             clear H'; (try clear c1); (try clear c2); (try clear p2); (try clear c3); (try clear c4); (try clear c5); (try clear c11); (try clear c13); (try clear c15); (try clear c16); (try clear c19); (try clear c25); (try clear c26); (try clear c29); (try clear c31); (try clear c32); (try clear c33); (try clear c36); (try clear c38); (try clear c38b0); (try clear c39); (try clear c40); (try clear c42); (try clear c44); (try clear c44b0); (try clear c44b1); (try clear c44b2); (try clear c46); (try clear c47); (try clear c48); (try clear c49); (try clear c50); (try clear c54); (try clear c54b0); (try clear c55); (try clear c56); (try clear hcz17_0); (try clear hcz17_1); (try clear hcz17_2); (try clear hcz20_0); (try clear hcz20_1); (try clear hcz20_2); (try clear hcz22_0); (try clear hcz22_1); (try clear hcz22_2); (try clear hcz23_0); (try clear hcz27_0); (try clear hcz27_1); (try clear hcz27_2); (try clear hcz30_0); (try clear hcz30_1); (try clear hcz30_2); (try clear hcz34_0); (try clear hcz34_1); (try clear hcz34_2); (try clear hcz41_0); (try clear hcz49_0); (try clear hcz49_1); (try clear hcz49_2); (try clear hcz51_0); (try clear hcz57_0); (try clear hcz57_1); (try clear hcz57_2); (try clear hfz17_0); (try clear hfz17_1); (try clear hfz17_2); (try clear hfz20_0); (try clear hfz20_1); (try clear hfz20_2); (try clear hfz22_0); (try clear hfz22_1); (try clear hfz22_2); (try clear hfz23_0); (try clear hfz27_0); (try clear hfz27_1); (try clear hfz27_2); (try clear hfz30_0); (try clear hfz30_1); (try clear hfz30_2); (try clear hfz34_0); (try clear hfz34_1); (try clear hfz34_2); (try clear hfz41_0); (try clear hfz49_0); (try clear hfz49_1); (try clear hfz49_2); (try clear hfz51_0); (try clear hfz57_0); (try clear hfz57_1); (try clear hfz57_2); (try clear p2)
             obtain ⟨x15_4, x16_4, rfl, HA, HK4, HO_12, HO_13, HO_15, BK415, BK416, BK417, HB⟩ := hrel
             cases gk with
             | zero => exact absurd HA.out (by simp [awardingbodyref20_Page.l1])
             | succ k4 =>
              have H := HA.out
              clear HA
              simp only [awardingbodyref20_Page.l1] at H
              by_cases c58 : x16_4 < (t421.length : Int)
              ·rw [if_pos c58] at H
               have c58b0 : decide (x16_4 < (t421.length : Int)) = true := decide_eq_true c58
               clear c58
               by_cases c59 : 0 ≤ x16_4
               ·rw [if_pos c59] at H
                have c59b0 : decide (0 ≤ x16_4) = true := decide_eq_true c59
                clear c59
                by_cases c60 : ((rd_T46 t421 x16_4).f0) = x14_3
                ·rw [if_pos c60] at H
                 have c60b0 : (((rd_T46 t421 x16_4).f0) == x14_3) = true := beq_iff_eq.mpr c60
                 have c60b1 : (((rd_T46 t421 x16_4).f0) != x14_3) = false := bne_eq_false_iff_eq.mpr c60
                 clear c60
                 by_cases c61 : x16_4 < (l4.length : Int)
                 ·rw [if_pos c61] at H
                  have c61b0 : decide (x16_4 < (l4.length : Int)) = true := decide_eq_true c61
                  clear c61
                  by_cases c62 : x15_4.length < 17592186044416
                  ·rw [if_pos c62] at H
                   have LMc62 := za c62; clear c62
                   obtain ⟨y427, hy_⟩ : ∃ y_ : List Int, y_ = (x15_4 ++ [rd l4 x16_4]) := ⟨_, rfl⟩
                   replace H : (awardingbodyref20_Page.l1 k4 l4 t421 x13_3 x14_3 y427 (wrap64 (x16_4 + 1)) a0_0 a0_1 l0_2 a2_0 a2_1 a2_2) = some (r1, r2) := q11h
                   have Ny427 := za hy_; clear hy_; have H' := za H; clear H
                   have p425 : 0 ≤ (x16_4 : Int) := of_decide_eq_true q11e
                   have q425 : x16_4 < (t421.length : Int) := of_decide_eq_true q11e
                   obtain ⟨ad425, e425, hx425_0, hx425_1⟩ := at_T46 (Kd.R_reads' HO_12.out).2.2 x16_4 p425 q425
                   cases e425
                   replace p425 := eq_true p425
                   replace q425 := eq_true q425
                   have p426 : 0 ≤ (x16_4 : Int) := of_decide_eq_true q11e
                   have q426 : x16_4 < (l4.length : Int) := of_decide_eq_true q11e
                   obtain ⟨ad426, e426, hx426_0⟩ := Kd.at_int HR4.out x16_4 p426 q426
                   cases e426
                   replace hx426_0 := zx HB hx426_0
                   replace p426 := eq_true p426
                   replace q426 := eq_true q426
                   go_wp2_with (first | ((with_reducible refine gate_builtin (b := .append) (xs := #[.tmp 73, .tmp 78]) rfl ?_); (try (refine gate_guard (by rfl) ?_; dsimp only)); at_builtin; refine Kd.R_append (Kd.int .i64) (w0 := w) w.heap.size rfl (.tmp 73) (.tmp 78) 28 3 (.int .i64 0) 8 rfl Try.underlying28 info3 rfl (by decide) (by omega) u15 x15_4 (rd l4 x16_4) [.int .i64 (rd l4 x16_4)] (fun k_ => some k_ ≠ (u13 : Value).ownBlock) (fun _ => False) rfl rfl ?aP (fun _ hk => hk.elim) ?aF ?aO ?aB ?aS ?aL ?_; (case aP => exact rfl); (case aB => exact (zm HB)); (case aF => exact (fun k_ hk => Kd.fresh' (Kd.R_lt q11c) k_ hk)); (case aO => exact q11d); (case aS => exact (below_size (zm HB))); (case aL => have := LMc62.out; omega); intro v428 w63 ho hb hg hat; rw [← Ny427.out] at ho; have HO429 := za (ho); replace HO_12 := za (Kd.R_over' q11f (Kd.R_typed q11d) (by decide) hg); replace HO_13 := za (Kd.R_after (ok := (fun _ => True)) (by (with_reducible repeat (first | apply Kd.R_alloc | apply Kd.R_drewN | apply Kd.R_drew)); exact Kd.R_mono HO_13.out (fun _ hk => ⟨trivial, hk⟩)) hg hat); replace BK415 := (zw BK415 hg (Kd.R_ne HO_15.out BK415.out (by decide))); replace BK416 := (zw BK416 hg (Kd.R_ne HO_15.out BK416.out (by decide))); replace BK417 := (zw BK417 hg (Kd.R_ne HO_15.out BK417.out (by decide))); replace HB := za (hb); clear HO_15 ho hb hg hat))
                   go_roundg k4
                   case measure => have := HJ5.out; have := HJ36.out; have := HK3.out; have := HK4.out; omega
                   case rel => exact ⟨(y427), (wrap64 (x16_4 + 1)), q11b, H', ⟨by have := HJ5.out; have := HJ36.out; have := HK3.out; have := HK4.out; omega⟩, ⟨by (with_reducible repeat (first | apply Kd.R_alloc | apply Kd.R_drewN | apply Kd.R_drew)); exact HO_12.out⟩, ⟨by (with_reducible repeat (first | apply Kd.R_alloc | apply Kd.R_drewN | apply Kd.R_drew)); exact Kd.R_mono HO_13.out (fun _ hk => hk.2)⟩, ⟨by (with_reducible repeat (first | apply Kd.R_alloc | apply Kd.R_drewN | apply Kd.R_drew)); exact HO429.out⟩, ⟨q11a⟩, ⟨q11a⟩, ⟨q11a⟩, ⟨zm HB⟩⟩
                  ·rw [if_neg c62] at H
                   exact absurd H (by simp)
                 ·rw [if_neg c61] at H
                  exact absurd H (by simp)
                ·rw [if_neg c60] at H
                 have c60b0 : (((rd_T46 t421 x16_4).f0) == x14_3) = false := beq_eq_false_iff_ne.mpr c60
                 have c60b1 : (((rd_T46 t421 x16_4).f0) != x14_3) = true := bne_iff_ne.mpr c60
                 have H' := za H; clear H
                 have p425 : 0 ≤ (x16_4 : Int) := of_decide_eq_true q11e
                 have q425 : x16_4 < (t421.length : Int) := of_decide_eq_true q11e
                 obtain ⟨ad425, e425, hx425_0, hx425_1⟩ := at_T46 (Kd.R_reads' HO_12.out).2.2 x16_4 p425 q425
                 cases e425
                 replace p425 := eq_true p425
                 replace q425 := eq_true q425
                 go_wp2
                 go_roundg k4
                 case measure => have := HJ5.out; have := HJ36.out; have := HK3.out; have := HK4.out; omega
                 case rel => exact ⟨(x15_4), (wrap64 (x16_4 + 1)), q11b, H', ⟨by have := HJ5.out; have := HJ36.out; have := HK3.out; have := HK4.out; omega⟩, ⟨by (with_reducible repeat (first | apply Kd.R_alloc | apply Kd.R_drewN | apply Kd.R_drew)); exact HO_12.out⟩, ⟨by (with_reducible repeat (first | apply Kd.R_alloc | apply Kd.R_drewN | apply Kd.R_drew)); exact HO_13.out⟩, ⟨by (with_reducible repeat (first | apply Kd.R_alloc | apply Kd.R_drewN | apply Kd.R_drew)); exact HO_15.out⟩, ⟨q11a⟩, ⟨q11a⟩, ⟨q11a⟩, ⟨zm HB⟩⟩
               ·rw [if_neg c59] at H
                exact absurd H (by simp)
              ·rw [if_neg c58] at H
               have c58b0 : decide (x16_4 < (t421.length : Int)) = false := decide_eq_false c58
               clear c58
               by_cases c64 : (x15_4.length : Int) > 0
               ·rw [if_pos c64] at H
                have c64b0 : decide (0 < (x15_4.length : Int)) = true := decide_eq_true c64
                have c64b1 : decide (0 < x15_4.length) = true := decide_eq_true (by omega)
                clear c64
                replace H := Option.bind_eq_some_iff.mp H
                obtain ⟨⟨t430, t431⟩, A650, H⟩ := H
                replace H : (if x13_3.length < 17592186044416 then (awardingbodyref20_Page.l0 k4 l4 t421 (x13_3 ++ [t430]) (wrap64 (x14_3 + 1)) a0_0 a0_1 l0_2 a2_0 a2_1 a2_2) else (none)) = some (r1, r2) := H
                have A65 := za A650; clear A650
                by_cases c66 : x13_3.length < 17592186044416
                ·rw [if_pos c66] at H
                 have LMc66 := za c66; clear c66
                 obtain ⟨y432, hy_⟩ : ∃ y_ : List Int, y_ = (x13_3 ++ [t430]) := ⟨_, rfl⟩
                 replace H : (awardingbodyref20_Page.l0 k4 l4 t421 y432 (wrap64 (x14_3 + 1)) a0_0 a0_1 l0_2 a2_0 a2_1 a2_2) = some (r1, r2) := q11h
                 have Ny432 := za hy_; clear hy_; have H' := za H; clear H
                 obtain ⟨Ao67, co67, eo67⟩ := Kd.R_slice HO_15.out
                 subst eo67
                 have hnb68 := NB417_415.out
                 have hnc68 := NB415_417.out
                 have hnb69 := NB417_416.out
                 have hnc69 := NB416_417.out
                 obtain ⟨hcz70_0, hcz70_1, hcz70_2, hfz70_0, hfz70_1, hfz70_2⟩ := z3 BK417
                 go_wp2_with (first | ((with_reducible refine gate_callee (f := 22) rfl ?_); refine zL (some 86) Try.func22 #[.agg #[.int .i64 a2_0, .int .i64 a2_1, .int .i64 a2_2], .slice Ao67 x15_4.length co67] ?_; (with_reducible refine (awardingbodyref20_Judge.calls k4 a2_0 a2_1 a2_2 _ _ x15_4 t430 t431 _ ?side1 ?side2 A65.out).mono ?_); (case side1 => exact zD HO_15); (case side2 => exact (Kd.R_reads' HO_15.out).2.1); rintro e w71 ⟨rfl, hb⟩; refine ⟨_, rfl, ?_⟩; replace HO_12 := zR HO_12 hb; replace HO_13 := zR HO_13 hb; replace HO_15 := zR HO_15 hb; replace BK415 := zb BK415 hb; replace BK416 := zb BK416 hb; replace BK417 := zb BK417 hb; replace HB := zs HB hb; (try clear hb); (try clear hb2); (try clear hk); (try clear hi)) | ((with_reducible refine gate_builtin (b := .append) (xs := #[.tmp 89, .tmp 91]) rfl ?_); (try (refine gate_guard (by rfl) ?_; dsimp only)); at_builtin; refine Kd.R_append (Kd.int .i64) (w0 := w) w.heap.size rfl (.tmp 89) (.tmp 91) 28 3 (.int .i64 0) 8 rfl Try.underlying28 info3 rfl (by decide) (by omega) u13 x13_3 t430 [.int .i64 t430] (fun k_ => some k_ ≠ (.slice Ao67 x15_4.length co67 : Value).ownBlock) (fun _ => False) rfl rfl ?aP (fun _ hk => hk.elim) ?aF ?aO ?aB ?aS ?aL ?_; (case aP => exact rfl); (case aB => exact (zm HB)); (case aF => exact (fun k_ hk => Kd.fresh' (Kd.R_lt q11d) k_ hk)); (case aO => exact q11c); (case aS => exact (below_size (zm HB))); (case aL => have := LMc66.out; omega); intro v433 w72 ho hb hg hat; rw [← Ny432.out] at ho; have HO434 := za (ho); replace HO_12 := za (Kd.R_over' q11f (Kd.R_typed q11c) (by decide) hg); replace HO_15 := za (Kd.R_after (ok := (fun _ => True)) q11g hg hat); replace BK415 := (zw BK415 hg (Kd.R_ne HO_13.out BK415.out (by decide))); replace BK416 := (zw BK416 hg (Kd.R_ne HO_13.out BK416.out (by decide))); replace BK417 := (zw BK417 hg (Kd.R_ne HO_13.out BK417.out (by decide))); replace HB := za (hb); clear HO_13 ho hb hg hat))
                 go_roundg k4
                 case measure => have := HJ5.out; have := HJ36.out; have := HK3.out; have := HK4.out; omega
                 case rel => exact ⟨(y432), (wrap64 (x14_3 + 1)), q11b, H', ⟨by have := HJ5.out; have := HJ36.out; have := HK3.out; have := HK4.out; omega⟩, ⟨by (with_reducible repeat (first | apply Kd.R_alloc | apply Kd.R_drewN | apply Kd.R_drew)); exact HO_12.out⟩, ⟨by (with_reducible repeat (first | apply Kd.R_alloc | apply Kd.R_drewN | apply Kd.R_drew)); exact Kd.R_mono HO434.out (fun _ hk => trivial)⟩, ⟨q11a⟩, ⟨q11a⟩, ⟨q11a⟩, ⟨zm HB⟩⟩
                ·rw [if_neg c66] at H
                 exact absurd H (by simp)
               ·rw [if_neg c64] at H
                have c64b0 : decide (0 < (x15_4.length : Int)) = false := decide_eq_false c64
                have c64b1 : decide (0 < x15_4.length) = false := decide_eq_false (by omega)
                clear c64
                by_cases c73 : x13_3.length < 17592186044416
                ·rw [if_pos c73] at H
                 have LMc73 := za c73; clear c73
                 obtain ⟨y435, hy_⟩ : ∃ y_ : List Int, y_ = (x13_3 ++ [(-1)]) := ⟨_, rfl⟩
                 replace H : (awardingbodyref20_Page.l0 k4 l4 t421 y435 (wrap64 (x14_3 + 1)) a0_0 a0_1 l0_2 a2_0 a2_1 a2_2) = some (r1, r2) := q11h
                 have Ny435 := za hy_; clear hy_; have H' := za H; clear H
                 obtain ⟨Ao74, co74, eo74⟩ := Kd.R_slice HO_15.out
                 subst eo74
                 go_wp2_with (first | ((with_reducible refine gate_builtin (b := .append) (xs := #[.tmp 89, .tmp 91]) rfl ?_); (try (refine gate_guard (by rfl) ?_; dsimp only)); at_builtin; refine Kd.R_append (Kd.int .i64) (w0 := w) w.heap.size rfl (.tmp 89) (.tmp 91) 28 3 (.int .i64 0) 8 rfl Try.underlying28 info3 rfl (by decide) (by omega) u13 x13_3 (-1) [.int .i64 (-1)] (fun k_ => some k_ ≠ (.slice Ao74 x15_4.length co74 : Value).ownBlock) (fun _ => False) rfl rfl ?aP (fun _ hk => hk.elim) ?aF ?aO ?aB ?aS ?aL ?_; (case aP => exact rfl); (case aB => exact (zm HB)); (case aF => exact (fun k_ hk => Kd.fresh' (Kd.R_lt q11d) k_ hk)); (case aO => exact q11c); (case aS => exact (below_size (zm HB))); (case aL => have := LMc73.out; omega); intro v436 w75 ho hb hg hat; rw [← Ny435.out] at ho; have HO437 := za (ho); replace HO_12 := za (Kd.R_over' q11f (Kd.R_typed q11c) (by decide) hg); replace HO_15 := za (Kd.R_after (ok := (fun _ => True)) q11g hg hat); replace BK415 := (zw BK415 hg (Kd.R_ne HO_13.out BK415.out (by decide))); replace BK416 := (zw BK416 hg (Kd.R_ne HO_13.out BK416.out (by decide))); replace BK417 := (zw BK417 hg (Kd.R_ne HO_13.out BK417.out (by decide))); replace HB := za (hb); clear HO_13 ho hb hg hat))
                 go_roundg k4
                 case measure => have := HJ5.out; have := HJ36.out; have := HK3.out; have := HK4.out; omega
                 case rel => exact ⟨(y435), (wrap64 (x14_3 + 1)), q11b, H', ⟨by have := HJ5.out; have := HJ36.out; have := HK3.out; have := HK4.out; omega⟩, ⟨by (with_reducible repeat (first | apply Kd.R_alloc | apply Kd.R_drewN | apply Kd.R_drew)); exact HO_12.out⟩, ⟨by (with_reducible repeat (first | apply Kd.R_alloc | apply Kd.R_drewN | apply Kd.R_drew)); exact Kd.R_mono HO437.out (fun _ hk => trivial)⟩, ⟨q11a⟩, ⟨q11a⟩, ⟨q11a⟩, ⟨zm HB⟩⟩
                ·rw [if_neg c73] at H
                 exact absurd H (by simp)
           ·rw [if_neg c54] at H
            have c54b0 : decide (x14_3 < (l0_2.length : Int)) = false := decide_eq_false c54
            clear c54
            simp only [Option.some.injEq, Prod.mk.injEq] at H
            obtain ⟨rfl, rfl⟩ := H
            have hnb76 := NB415_416.out
            have hnc76 := NB416_415.out
            have hnb77 := NB415_417.out
            have hnc77 := NB417_415.out
            obtain ⟨hcz78_0, hcz78_1, hcz78_2, hfz78_0, hfz78_1, hfz78_2⟩ := z3 BK415
            go_wp2
            go_ret2
            exact ⟨_, zf, by (with_reducible repeat (first | apply Kd.R_alloc | apply Kd.R_drewN | apply Kd.R_drew)); exact HO_13.out, zm HB⟩
        ·replace c46 := Bool.eq_false_iff.mpr c46
         subst c46
         have H1 : (some (([] : List Int), 2)) = some (r1, r2) := by rw [if_neg (show ¬ (false = true) by decide)] at H; exact H
         clear H; have H := H1; clear H1
         simp only [Option.some.injEq, Prod.mk.injEq] at H
         obtain ⟨rfl, rfl⟩ := H
         have hnb79 := NB415_416.out
         have hnc79 := NB416_415.out
         have hnb80 := NB415_417.out
         have hnc80 := NB417_415.out
         obtain ⟨hcz81_0, hcz81_1, hcz81_2, hfz81_0, hfz81_1, hfz81_2⟩ := z3 BK415
         have hnb82 := NB416_417.out
         have hnc82 := NB417_416.out
         obtain ⟨hcz83_0, hfz83_0⟩ := z1 BK416
         go_wp2_with (first | ((with_reducible refine gate_callee (f := 31) rfl ?_); refine zL (some 44) Try.func31 #[.agg #[.int .i64 a0_0, .int .i64 a0_1, .slice A0_2 l0_2.length c0_2], .agg #[.slice A1_0 l1_0.length c1_0], .int .i64 a3] ?_; (with_reducible refine (awardingbodyref12_Fields.calls kj36 a0_0 a0_1 _ _ l0_2 _ _ l1_0 a3 t421 _ ?side1 ?side2 ?side3 ?side4 A43.out).mono ?_); (case side1 => exact zC HR0_2 HB); (case side2 => exact HC0_2.out); (case side3 => exact zC HR1_0 HB); (case side4 => exact HC1_0.out); rintro e w84 ⟨v422, rfl, ho0, hb⟩; refine ⟨_, rfl, ?_⟩; have HO423 := za (Kd.R_lower ho0 (below_size (zm HB))); replace BK415 := zb BK415 hb; replace BK416 := zb BK416 hb; replace BK417 := zb BK417 hb; replace HB := zs HB hb; (try clear hb); (try clear hb2); (try clear hk); (try clear hi); (try clear ho0); obtain ⟨Ao85, co85, eo85⟩ := Kd.R_slice HO423.out; subst eo85) | ((with_reducible refine gate_callee (f := 44) rfl ?_); refine zL (some 51) Try.func44 #[.slice A4 l4.length c4] ?_; (with_reducible refine (awardingbodyref20_Dark.calls kj36 _ _ l4 false _ ?side1 ?side2 A45.out).mono ?_); (case side1 => exact zC HR4 HB); (case side2 => exact HC4.out); rintro e w' ⟨rfl, ⟨nd, rfl⟩⟩; refine ⟨_, rfl, ?_⟩))
         go_ret2
         exact ⟨_, zf, by first | exact Kd.R_nil _ _ _ _ _ | exact Kd.N_nil _ _ _ _ _ | exact Kd.V_nil _ _ _ _ _ | exact Kd.Q_nil _ _ _ _ _ | exact Kd.S_nil _ _ _ _ _, zm HB⟩
       ·rw [if_neg c44] at H
        have c44b0 : ((l4.length : Int) == (t421.length : Int)) = false := beq_eq_false_iff_ne.mpr c44
        have c44b1 : ((l4.length : Int) != (t421.length : Int)) = true := bne_iff_ne.mpr c44
        have c44b2 : (l4.length == t421.length) = false := by first | simpa using c44 | (simp at c44 ⊢; omega)
        simp only [Option.some.injEq, Prod.mk.injEq] at H
        obtain ⟨rfl, rfl⟩ := H
        have hnb86 := NB415_416.out
        have hnc86 := NB416_415.out
        have hnb87 := NB415_417.out
        have hnc87 := NB417_415.out
        obtain ⟨hcz88_0, hcz88_1, hcz88_2, hfz88_0, hfz88_1, hfz88_2⟩ := z3 BK415
        have hnb89 := NB416_417.out
        have hnc89 := NB417_416.out
        obtain ⟨hcz90_0, hfz90_0⟩ := z1 BK416
        go_wp2_with (first | ((with_reducible refine gate_callee (f := 31) rfl ?_); refine zL (some 44) Try.func31 #[.agg #[.int .i64 a0_0, .int .i64 a0_1, .slice A0_2 l0_2.length c0_2], .agg #[.slice A1_0 l1_0.length c1_0], .int .i64 a3] ?_; (with_reducible refine (awardingbodyref12_Fields.calls kj36 a0_0 a0_1 _ _ l0_2 _ _ l1_0 a3 t421 _ ?side1 ?side2 ?side3 ?side4 A43.out).mono ?_); (case side1 => exact zC HR0_2 HB); (case side2 => exact HC0_2.out); (case side3 => exact zC HR1_0 HB); (case side4 => exact HC1_0.out); rintro e w91 ⟨v422, rfl, ho0, hb⟩; refine ⟨_, rfl, ?_⟩; have HO423 := za (Kd.R_lower ho0 (below_size (zm HB))); replace BK415 := zb BK415 hb; replace BK416 := zb BK416 hb; replace BK417 := zb BK417 hb; replace HB := zs HB hb; (try clear hb); (try clear hb2); (try clear hk); (try clear hi); (try clear ho0); obtain ⟨Ao92, co92, eo92⟩ := Kd.R_slice HO423.out; subst eo92))
        go_ret2
        exact ⟨_, zf, by first | exact Kd.R_nil _ _ _ _ _ | exact Kd.N_nil _ _ _ _ _ | exact Kd.V_nil _ _ _ _ _ | exact Kd.Q_nil _ _ _ _ _ | exact Kd.S_nil _ _ _ _ _, zm HB⟩

end Go.Proofs.Ythbmpjglkbhhgaa.Print
