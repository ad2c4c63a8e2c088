-- Printed by a program of this session (wip/own_print.py) out of the translation; Lean checks it.
import Derived.Test.YthbmpjglkbhhgaaShort
import Derived.LoopN
import Derived.Test.YthbmpjglkbhhgaaPrint0
import Derived.Test.YthbmpjglkbhhgaaPrint2
import Derived.Test.YthbmpjglkbhhgaaPrint3
import Derived.Test.YthbmpjglkbhhgaaPrint6
import Derived.Test.YthbmpjglkbhhgaaPrint7
import Derived.Test.YthbmpjglkbhhgaaPrint9
import Derived.Test.YthbmpjglkbhhgaaPrint11
namespace Go.Proofs.Ythbmpjglkbhhgaa.Print
open Go.RowKit Go.Proofs.YthbmpjglkbhhgaaW.PrintWords Go.Proofs.YthbmpjglkbhhgaaW.PrintLast Go.Proofs.YthbmpjglkbhhgaaW.PrintMore
attribute [local go_sem] max2_int min2_int max_two min_two max_three min_three max_four min_four   -- for this text's walks alone
set_option linter.unusedVariables false
set_option linter.unusedSimpArgs false

/-! ### awardingbodylaw20_BubblePages: function 9 -/
mutual
def awardingbodylaw20_BubblePages.j0 : Nat → Int → List Int → Bool → List Int → Int → Int → Int → List (S65) → List (List Int) → Option (Bool)
  | 0, _, _, _, _, _, _, _, _, _ => none
  | k + 1, x1, x2, x36, x441000, x441001, x448000, x448001, x448002, x453000 => if x36 = true then (if 1 ≤ (x453000.length : Int) then (awardingbodylaw20_BubblePages.j1 k x1 x2 x441000 x441001 x448000 x448001 x448002 (x453000.drop (1 : Int).toNat)) else (none)) else (awardingbodylaw20_BubblePages.j1 k x1 x2 x441000 x441001 x448000 x448001 x448002 x453000)
def awardingbodylaw20_BubblePages.j1 : Nat → Int → List Int → List Int → Int → Int → Int → List (S65) → List (List Int) → Option (Bool)
  | 0, _, _, _, _, _, _, _, _ => none
  | k + 1, x1, x2, x441000, x441001, x448000, x448001, x448002, x453000 => (awardingbodymake_Tape_Threshold.f x441000 x441001 12).bind fun bt458 => ((awardingbodymake_Tape_Range.f x441000 bt458.2.2.2 0 4).bind fun bt463 => ((awardingbodyref12_Fields.f k x448000 x448001 x448002 x453000 bt463.1).bind fun t465 => (awardingbodylaw20_BubblePages.l0 k x1 x2 bt463.1 ([] : List Int) (t465.length : Int) x441000 bt463.2 x448000 x448001 x448002 x453000 bt458.1 bt458.2.1 bt458.2.2.1)))
def awardingbodylaw20_BubblePages.l0 : Nat → Int → List Int → Int → List Int → Int → List Int → Int → Int → Int → List (S65) → List (List Int) → Int → Int → Int → Option (Bool)
  | 0, _, _, _, _, _, _, _, _, _, _, _, _, _, _ => none
  | k + 1, x1, x2, x12, x13, x14, x441000, x441001, x448000, x448001, x448002, x453000, x463000, x463001, x463002 => if x14 > 0 then ((awardingbodymake_Tape_Pick.f x441000 x441001 (([0, 0, 9, 8, 4, 1] : List Int))).bind fun bt471 => (if x13.length < 17592186044416 then (awardingbodylaw20_BubblePages.l0 k x1 x2 x12 (x13 ++ [bt471.1]) (wrap64 (x14 - 1)) x441000 bt471.2 x448000 x448001 x448002 x453000 x463000 x463001 x463002) else (none))) else ((awardingbodymake_Tape_One.f x441000 x441001 10).bind fun bt476 => (if bt476.1 = true then ((awardingbodymake_Tape_Range.f x441000 bt476.2 0 10).bind fun bt478 => (if x13.length < 17592186044416 then (awardingbodylaw20_BubblePages.j3 k x1 x2 x12 (x13 ++ [bt478.1]) x448000 x448001 x448002 x453000 x463000 x463001 x463002) else (none))) else (awardingbodylaw20_BubblePages.j3 k x1 x2 x12 x13 x448000 x448001 x448002 x453000 x463000 x463001 x463002)))
def awardingbodylaw20_BubblePages.j3 : Nat → Int → List Int → Int → List Int → Int → Int → List (S65) → List (List Int) → Int → Int → Int → Option (Bool)
  | 0, _, _, _, _, _, _, _, _, _, _, _ => none
  | k + 1, x1, x2, x12, x13, x448000, x448001, x448002, x453000, x463000, x463001, x463002 => if (x2.length : Int) > 60 then (some true) else ((bubble_Page.f k x448000 x448001 x448002 x453000 x463000 x463001 x463002 x12 x13).bind fun bt483 => ((awardingbodyref20_Page.f k x448000 x448001 x448002 x453000 x463000 x463001 x463002 x12 x13).bind fun bt487 => ((awardingbodyref06_Ints.f k bt483.1 bt487.1).bind fun t491 => (if t491 = true then (if bt483.2 = bt487.2 then ((bubble_Page.f k x448000 x448001 x448002 x453000 x463000 x463001 x463002 x1 x2).bind fun bt492 => ((awardingbodyref20_Page.f k x448000 x448001 x448002 x453000 x463000 x463001 x463002 x1 x2).bind fun bt496 => ((awardingbodyref06_Ints.f k bt492.1 bt496.1).bind fun t500 => (if t500 = true then (if bt492.2 = bt496.2 then ((awardingbodylaw20_awake.f k).bind fun t501 => (some t501)) else (none)) else (none))))) else (none)) else (none)))))
end
def awardingbodylaw20_BubblePages.f (k : Nat) (l0 : List Int) (a1 : Int) (l2 : List Int) : Option (Bool) := (awardingbodymake_New.f l0).bind fun bt438 => ((awardingbodymake_Tape_LoosePaper.f k bt438.1 bt438.2 12).bind fun bt441 => ((awardingbodyref12_Make.f k bt441.1 bt441.2.1 bt441.2.2.1).bind fun bt448 => ((awardingbodymake_Tape_One.f bt438.1 bt441.2.2.2 12).bind fun bt453 => (if bt453.1 = true then (awardingbodylaw20_BubblePages.j0 k a1 l2 (decide ((bt448.1.length : Int) > 0)) bt438.1 bt453.2 bt441.1 bt441.2.1 bt441.2.2.1 bt448.1) else (awardingbodylaw20_BubblePages.j0 k a1 l2 false bt438.1 bt453.2 bt441.1 bt441.2.1 bt441.2.2.1 bt448.1)))))
theorem awardingbodylaw20_BubblePages.mono_l : ∀ k, (∀ y0 y1 y2 y3 y4 y5 y6 y7 y8, LeO (awardingbodylaw20_BubblePages.j0 k y0 y1 y2 y3 y4 y5 y6 y7 y8) (awardingbodylaw20_BubblePages.j0 (k + 1) y0 y1 y2 y3 y4 y5 y6 y7 y8)) ∧ (∀ y0 y1 y2 y3 y4 y5 y6 y7, LeO (awardingbodylaw20_BubblePages.j1 k y0 y1 y2 y3 y4 y5 y6 y7) (awardingbodylaw20_BubblePages.j1 (k + 1) y0 y1 y2 y3 y4 y5 y6 y7)) ∧ (∀ y0 y1 y2 y3 y4 y5 y6 y7 y8 y9 y10 y11 y12 y13, LeO (awardingbodylaw20_BubblePages.l0 k y0 y1 y2 y3 y4 y5 y6 y7 y8 y9 y10 y11 y12 y13) (awardingbodylaw20_BubblePages.l0 (k + 1) y0 y1 y2 y3 y4 y5 y6 y7 y8 y9 y10 y11 y12 y13)) ∧ (∀ y0 y1 y2 y3 y4 y5 y6 y7 y8 y9 y10, LeO (awardingbodylaw20_BubblePages.j3 k y0 y1 y2 y3 y4 y5 y6 y7 y8 y9 y10) (awardingbodylaw20_BubblePages.j3 (k + 1) y0 y1 y2 y3 y4 y5 y6 y7 y8 y9 y10))
  | 0 => ⟨fun _ _ _ _ _ _ _ _ _ r h => by simp [awardingbodylaw20_BubblePages.j0] at h, fun _ _ _ _ _ _ _ _ r h => by simp [awardingbodylaw20_BubblePages.j1] at h, fun _ _ _ _ _ _ _ _ _ _ _ _ _ _ r h => by simp [awardingbodylaw20_BubblePages.l0] at h, fun _ _ _ _ _ _ _ _ _ _ _ r h => by simp [awardingbodylaw20_BubblePages.j3] at h⟩
  | k + 1 => by
    obtain ⟨ih0, ih1, ih2, ih3⟩ := awardingbodylaw20_BubblePages.mono_l k
    refine ⟨?_, ?_, ?_, ?_⟩
    · intro y0 y1 y2 y3 y4 y5 y6 y7 y8
      unfold awardingbodylaw20_BubblePages.j0
      repeat' first
      | (with_reducible exact ih0 _ _ _ _ _ _ _ _ _)
      | (with_reducible exact ih1 _ _ _ _ _ _ _ _)
      | (with_reducible exact ih2 _ _ _ _ _ _ _ _ _ _ _ _ _ _)
      | (with_reducible exact ih3 _ _ _ _ _ _ _ _ _ _ _)
      | (with_reducible exact awardingbodylaw20_awake.mono _)
      | (with_reducible exact awardingbodymake_Tape_LoosePaper.mono _ _ _ _)
      | (with_reducible exact awardingbodyref06_Ints.mono _ _ _)
      | (with_reducible exact awardingbodyref12_Fields.mono _ _ _ _ _ _)
      | (with_reducible exact awardingbodyref12_Make.mono _ _ _ _)
      | (with_reducible exact awardingbodyref20_Page.mono _ _ _ _ _ _ _ _ _ _)
      | (with_reducible exact bubble_Page.mono _ _ _ _ _ _ _ _ _ _)
      | (with_reducible exact LeO.refl _)
      | (with_reducible exact LeO.none _)
      | (with_reducible refine LeO.ite ?_ ?_)
      | (with_reducible refine LeO.bind ?_ (fun _ => ?_))
      | exact ih0 _ _ _ _ _ _ _ _ _
      | exact ih1 _ _ _ _ _ _ _ _
      | exact ih2 _ _ _ _ _ _ _ _ _ _ _ _ _ _
      | exact ih3 _ _ _ _ _ _ _ _ _ _ _
      | exact awardingbodylaw20_awake.mono _
      | exact awardingbodymake_Tape_LoosePaper.mono _ _ _ _
      | exact awardingbodyref06_Ints.mono _ _ _
      | exact awardingbodyref12_Fields.mono _ _ _ _ _ _
      | exact awardingbodyref12_Make.mono _ _ _ _
      | exact awardingbodyref20_Page.mono _ _ _ _ _ _ _ _ _ _
      | exact bubble_Page.mono _ _ _ _ _ _ _ _ _ _
      | exact LeO.none _
      | refine LeO.ite ?_ ?_
      | refine LeO.bind ?_ (fun _ => ?_)
    · intro y0 y1 y2 y3 y4 y5 y6 y7
      unfold awardingbodylaw20_BubblePages.j1
      repeat' first
      | (with_reducible exact ih0 _ _ _ _ _ _ _ _ _)
      | (with_reducible exact ih1 _ _ _ _ _ _ _ _)
      | (with_reducible exact ih2 _ _ _ _ _ _ _ _ _ _ _ _ _ _)
      | (with_reducible exact ih3 _ _ _ _ _ _ _ _ _ _ _)
      | (with_reducible exact awardingbodylaw20_awake.mono _)
      | (with_reducible exact awardingbodymake_Tape_LoosePaper.mono _ _ _ _)
      | (with_reducible exact awardingbodyref06_Ints.mono _ _ _)
      | (with_reducible exact awardingbodyref12_Fields.mono _ _ _ _ _ _)
      | (with_reducible exact awardingbodyref12_Make.mono _ _ _ _)
      | (with_reducible exact awardingbodyref20_Page.mono _ _ _ _ _ _ _ _ _ _)
      | (with_reducible exact bubble_Page.mono _ _ _ _ _ _ _ _ _ _)
      | (with_reducible exact LeO.refl _)
      | (with_reducible exact LeO.none _)
      | (with_reducible refine LeO.ite ?_ ?_)
      | (with_reducible refine LeO.bind ?_ (fun _ => ?_))
      | exact ih0 _ _ _ _ _ _ _ _ _
      | exact ih1 _ _ _ _ _ _ _ _
      | exact ih2 _ _ _ _ _ _ _ _ _ _ _ _ _ _
      | exact ih3 _ _ _ _ _ _ _ _ _ _ _
      | exact awardingbodylaw20_awake.mono _
      | exact awardingbodymake_Tape_LoosePaper.mono _ _ _ _
      | exact awardingbodyref06_Ints.mono _ _ _
      | exact awardingbodyref12_Fields.mono _ _ _ _ _ _
      | exact awardingbodyref12_Make.mono _ _ _ _
      | exact awardingbodyref20_Page.mono _ _ _ _ _ _ _ _ _ _
      | exact bubble_Page.mono _ _ _ _ _ _ _ _ _ _
      | exact LeO.none _
      | refine LeO.ite ?_ ?_
      | refine LeO.bind ?_ (fun _ => ?_)
    · intro y0 y1 y2 y3 y4 y5 y6 y7 y8 y9 y10 y11 y12 y13
      unfold awardingbodylaw20_BubblePages.l0
      repeat' first
      | (with_reducible exact ih0 _ _ _ _ _ _ _ _ _)
      | (with_reducible exact ih1 _ _ _ _ _ _ _ _)
      | (with_reducible exact ih2 _ _ _ _ _ _ _ _ _ _ _ _ _ _)
      | (with_reducible exact ih3 _ _ _ _ _ _ _ _ _ _ _)
      | (with_reducible exact awardingbodylaw20_awake.mono _)
      | (with_reducible exact awardingbodymake_Tape_LoosePaper.mono _ _ _ _)
      | (with_reducible exact awardingbodyref06_Ints.mono _ _ _)
      | (with_reducible exact awardingbodyref12_Fields.mono _ _ _ _ _ _)
      | (with_reducible exact awardingbodyref12_Make.mono _ _ _ _)
      | (with_reducible exact awardingbodyref20_Page.mono _ _ _ _ _ _ _ _ _ _)
      | (with_reducible exact bubble_Page.mono _ _ _ _ _ _ _ _ _ _)
      | (with_reducible exact LeO.refl _)
      | (with_reducible exact LeO.none _)
      | (with_reducible refine LeO.ite ?_ ?_)
      | (with_reducible refine LeO.bind ?_ (fun _ => ?_))
      | exact ih0 _ _ _ _ _ _ _ _ _
      | exact ih1 _ _ _ _ _ _ _ _
      | exact ih2 _ _ _ _ _ _ _ _ _ _ _ _ _ _
      | exact ih3 _ _ _ _ _ _ _ _ _ _ _
      | exact awardingbodylaw20_awake.mono _
      | exact awardingbodymake_Tape_LoosePaper.mono _ _ _ _
      | exact awardingbodyref06_Ints.mono _ _ _
      | exact awardingbodyref12_Fields.mono _ _ _ _ _ _
      | exact awardingbodyref12_Make.mono _ _ _ _
      | exact awardingbodyref20_Page.mono _ _ _ _ _ _ _ _ _ _
      | exact bubble_Page.mono _ _ _ _ _ _ _ _ _ _
      | exact LeO.none _
      | refine LeO.ite ?_ ?_
      | refine LeO.bind ?_ (fun _ => ?_)
    · intro y0 y1 y2 y3 y4 y5 y6 y7 y8 y9 y10
      unfold awardingbodylaw20_BubblePages.j3
      repeat' first
      | (with_reducible exact ih0 _ _ _ _ _ _ _ _ _)
      | (with_reducible exact ih1 _ _ _ _ _ _ _ _)
      | (with_reducible exact ih2 _ _ _ _ _ _ _ _ _ _ _ _ _ _)
      | (with_reducible exact ih3 _ _ _ _ _ _ _ _ _ _ _)
      | (with_reducible exact awardingbodylaw20_awake.mono _)
      | (with_reducible exact awardingbodymake_Tape_LoosePaper.mono _ _ _ _)
      | (with_reducible exact awardingbodyref06_Ints.mono _ _ _)
      | (with_reducible exact awardingbodyref12_Fields.mono _ _ _ _ _ _)
      | (with_reducible exact awardingbodyref12_Make.mono _ _ _ _)
      | (with_reducible exact awardingbodyref20_Page.mono _ _ _ _ _ _ _ _ _ _)
      | (with_reducible exact bubble_Page.mono _ _ _ _ _ _ _ _ _ _)
      | (with_reducible exact LeO.refl _)
      | (with_reducible exact LeO.none _)
      | (with_reducible refine LeO.ite ?_ ?_)
      | (with_reducible refine LeO.bind ?_ (fun _ => ?_))
      | exact ih0 _ _ _ _ _ _ _ _ _
      | exact ih1 _ _ _ _ _ _ _ _
      | exact ih2 _ _ _ _ _ _ _ _ _ _ _ _ _ _
      | exact ih3 _ _ _ _ _ _ _ _ _ _ _
      | exact awardingbodylaw20_awake.mono _
      | exact awardingbodymake_Tape_LoosePaper.mono _ _ _ _
      | exact awardingbodyref06_Ints.mono _ _ _
      | exact awardingbodyref12_Fields.mono _ _ _ _ _ _
      | exact awardingbodyref12_Make.mono _ _ _ _
      | exact awardingbodyref20_Page.mono _ _ _ _ _ _ _ _ _ _
      | exact bubble_Page.mono _ _ _ _ _ _ _ _ _ _
      | exact LeO.none _
      | refine LeO.ite ?_ ?_
      | refine LeO.bind ?_ (fun _ => ?_)
theorem awardingbodylaw20_BubblePages.mono : ∀ a0 a1 a2 k, LeO (awardingbodylaw20_BubblePages.f k a0 a1 a2) (awardingbodylaw20_BubblePages.f (k + 1) a0 a1 a2) := by
  intro a0 a1 a2 k
  obtain ⟨ih0, ih1, ih2, ih3⟩ := awardingbodylaw20_BubblePages.mono_l k
  unfold awardingbodylaw20_BubblePages.f
  repeat' first
      | (with_reducible exact ih0 _ _ _ _ _ _ _ _ _)
      | (with_reducible exact ih1 _ _ _ _ _ _ _ _)
      | (with_reducible exact ih2 _ _ _ _ _ _ _ _ _ _ _ _ _ _)
      | (with_reducible exact ih3 _ _ _ _ _ _ _ _ _ _ _)
      | (with_reducible exact awardingbodylaw20_awake.mono _)
      | (with_reducible exact awardingbodymake_Tape_LoosePaper.mono _ _ _ _)
      | (with_reducible exact awardingbodyref06_Ints.mono _ _ _)
      | (with_reducible exact awardingbodyref12_Fields.mono _ _ _ _ _ _)
      | (with_reducible exact awardingbodyref12_Make.mono _ _ _ _)
      | (with_reducible exact awardingbodyref20_Page.mono _ _ _ _ _ _ _ _ _ _)
      | (with_reducible exact bubble_Page.mono _ _ _ _ _ _ _ _ _ _)
      | (with_reducible exact LeO.refl _)
      | (with_reducible exact LeO.none _)
      | (with_reducible refine LeO.ite ?_ ?_)
      | (with_reducible refine LeO.bind ?_ (fun _ => ?_))
      | exact ih0 _ _ _ _ _ _ _ _ _
      | exact ih1 _ _ _ _ _ _ _ _
      | exact ih2 _ _ _ _ _ _ _ _ _ _ _ _ _ _
      | exact ih3 _ _ _ _ _ _ _ _ _ _ _
      | exact awardingbodylaw20_awake.mono _
      | exact awardingbodymake_Tape_LoosePaper.mono _ _ _ _
      | exact awardingbodyref06_Ints.mono _ _ _
      | exact awardingbodyref12_Fields.mono _ _ _ _ _ _
      | exact awardingbodyref12_Make.mono _ _ _ _
      | exact awardingbodyref20_Page.mono _ _ _ _ _ _ _ _ _ _
      | exact bubble_Page.mono _ _ _ _ _ _ _ _ _ _
      | exact LeO.none _
      | refine LeO.ite ?_ ?_
      | refine LeO.bind ?_ (fun _ => ?_)
theorem q12a {p : Prop} (h : p := by ((repeat (first | (with_reducible first | exact HI440.out | apply IsS68.alloc | apply IsS68.drewN | apply IsS68.drew | apply IsS68.set_1 | refine IsS68.far ?_ NB440_447.out _ | refine IsS68.far ?_ NB440_452.out _ | refine IsS68.far ?_ NB440_462.out _) | exact HI440.out)); done)) : p := h
theorem q12b {p : Prop} (h : p := by (((repeat (first | (with_reducible first | refine blk_drewN ?_ _ | refine blk_drew ?_ | refine blk_alloc ?_ _) | refine blk_far ?_ (Aside0.out (by assumption)) _)); first | (with_reducible exact (Aside0.out (by assumption))) | exact (Aside0.out (by assumption))); done)) : p := h
theorem q12c {p : Prop} (h : p := by (((with_reducible repeat (first | apply Kd.R_alloc | apply Kd.R_drewN | apply Kd.R_drew)); exact HO_13.out); done)) : p := h
theorem q12d {p : Prop} (h : p := by (((with_reducible repeat (first | apply Kd.Q_alloc | apply Kd.Q_drewN | apply Kd.Q_drew)); exact HO_453000.out); done)) : p := h
theorem q12e {p : Prop} (h : p := by (((with_reducible repeat (first | apply Kd.R_alloc | apply Kd.R_drewN | apply Kd.R_drew)); exact HO_448002.out); done)) : p := h
theorem q12f {p : Prop} (h : p := by (((with_reducible repeat (first | apply Kd.R_alloc | apply Kd.R_drewN | apply Kd.R_drew)); exact HO485.out); done)) : p := h
theorem q12g {p : Prop} (h : p := by (((with_reducible repeat (first | apply Kd.R_alloc | apply Kd.R_drewN | apply Kd.R_drew)); exact (Kd.R_mono (Kd.R_far (p := ⟨gb447, 2, none⟩) (Kd.R_far (p := ⟨gb447, 1, none⟩) (Kd.R_far (p := ⟨gb447, 0, none⟩) (Kd.R_types HO445.out BK447.out (by decide)) (fun _ hk => hk.2) (.int .i64 t441)) (fun _ hk => hk.2) (.int .i64 t442)) (fun _ hk => hk.2) (.slice Ao13 t443.length co13)) (fun _ h_ => h_.1))); done)) : p := h
theorem q12h {p : Prop} (h : p := by (((with_reducible repeat (first | apply Kd.R_alloc | apply Kd.R_drewN | apply Kd.R_drew)); exact HO489.out); done)) : p := h
theorem q12i {p : Prop} (h : p := by (((with_reducible repeat (first | refine blk_drewN ?_ _ | refine blk_drew ?_ | refine blk_alloc ?_ _)); refine blk_put (cs := #[.slice none 0 0]) ?_ 0 _ rfl; (with_reducible repeat (first | refine blk_drewN ?_ _ | refine blk_drew ?_ | refine blk_alloc ?_ _)); exact BK452.out); done)) : p := h
theorem q12j {p : Prop} (h : p := by (((with_reducible repeat (first | apply Kd.R_alloc | apply Kd.R_drewN | apply Kd.R_drew)); exact (Kd.R_mono (Kd.R_far (p := ⟨gb452, 0, none⟩) (Kd.R_types HO445.out BK452.out (by decide)) (fun _ hk => hk.2) (.slice Ao16 t448.length co16)) (fun _ h_ => h_.1))); done)) : p := h
theorem q12k {p : Prop} (h : p := by (((with_reducible repeat (first | apply Kd.S_alloc | apply Kd.S_drewN | apply Kd.S_drew)); exact (Kd.S_mono (Kd.S_far (p := ⟨gb452, 0, none⟩) (Kd.S_types HO450.out BK452.out (by decide)) (fun _ hk => hk.2) (.slice Ao16 t448.length co16)) (fun _ h_ => h_.1))); done)) : p := h
theorem q12l {p : Prop} (h : p := by (((with_reducible repeat (first | apply Kd.R_alloc | apply Kd.R_drewN | apply Kd.R_drew)); exact HO470.out); done)) : p := h
theorem q12m {p : Prop} (h : p := by ((first | rfl | (simp; done) | (simp [*]; done)); done)) : p := h
theorem q12n {p : Prop} (h : p := by ((first | (rw [hy_]; with_reducible exact H) | (have H2_ := (Option.bind_some _ _).symm.trans H; rw [hy_]; with_reducible exact H2_) | (have H2_ := (Option.bind_some _ _).symm.trans H; with_reducible exact H2_) | with_reducible exact H | (rw [hy_]; exact H) | exact H); done)) : p := h
set_option maxHeartbeats 8000000 in
set_option maxRecDepth 100000 in
theorem awardingbodylaw20_BubblePages.calls (k : Nat) (A0 : Option Addr) (c0 : Nat) (l0 : List Int) (a1 : Int) (A2 : Option Addr) (c2 : Nat) (l2 : List Int) (r : Bool) (w : World) (hr0 : Kd.C (Kd.int .i64) w A0 l0.length l0) (hc0 : l0.length ≤ c0) (hr2 : Kd.C (Kd.int .i64) w A2 l2.length l2) (hc2 : l2.length ≤ c2) (h : awardingbodylaw20_BubblePages.f k l0 a1 l2 = some r) :
    Calls Try.prog 9 #[.slice A0 l0.length c0, .int .i64 a1, .slice A2 l2.length c2] w fun e w' => e = .returned (.bool r) ∧ Below w.heap.size w w' := by
 have hu53 := Try.underlying53
 have hu56 := Try.underlying56
 have hu23 := Try.underlying23
 have HR0 := za hr0; have HC0 := za hc0; clear hr0 hc0; have HR2 := za hr2; have HC2 := za hc2; clear hr2 hc2
 have HB := za (Below.refl w.heap.size w)
 have H : ((awardingbodymake_New.f l0).bind fun bt438 => ((awardingbodymake_Tape_LoosePaper.f k bt438.1 bt438.2 12).bind fun bt441 => ((awardingbodyref12_Make.f k bt441.1 bt441.2.1 bt441.2.2.1).bind fun bt448 => ((awardingbodymake_Tape_One.f bt438.1 bt441.2.2.2 12).bind fun bt453 => (if bt453.1 = true then (awardingbodylaw20_BubblePages.j0 k a1 l2 (decide ((bt448.1.length : Int) > 0)) bt438.1 bt453.2 bt441.1 bt441.2.1 bt441.2.2.1 bt448.1) else (awardingbodylaw20_BubblePages.j0 k a1 l2 false bt438.1 bt453.2 bt441.1 bt441.2.1 bt441.2.2.1 bt448.1)))))) = some r := h
 clear h
 replace H := Option.bind_eq_some_iff.mp H
 obtain ⟨⟨t438, t439⟩, A40, H⟩ := H
 replace H : ((awardingbodymake_Tape_LoosePaper.f k t438 t439 12).bind fun bt441 => ((awardingbodyref12_Make.f k bt441.1 bt441.2.1 bt441.2.2.1).bind fun bt448 => ((awardingbodymake_Tape_One.f t438 bt441.2.2.2 12).bind fun bt453 => (if bt453.1 = true then (awardingbodylaw20_BubblePages.j0 k a1 l2 (decide ((bt448.1.length : Int) > 0)) t438 bt453.2 bt441.1 bt441.2.1 bt441.2.2.1 bt448.1) else (awardingbodylaw20_BubblePages.j0 k a1 l2 false t438 bt453.2 bt441.1 bt441.2.1 bt441.2.2.1 bt448.1))))) = some r := H
 have A4 := za A40; clear A40
 replace H := Option.bind_eq_some_iff.mp H
 obtain ⟨⟨t441, t442, t443, t446⟩, A50, H⟩ := H
 replace H : ((awardingbodyref12_Make.f k t441 t442 t443).bind fun bt448 => ((awardingbodymake_Tape_One.f t438 t446 12).bind fun bt453 => (if bt453.1 = true then (awardingbodylaw20_BubblePages.j0 k a1 l2 (decide ((bt448.1.length : Int) > 0)) t438 bt453.2 t441 t442 t443 bt448.1) else (awardingbodylaw20_BubblePages.j0 k a1 l2 false t438 bt453.2 t441 t442 t443 bt448.1)))) = some r := H
 have A5 := za A50; clear A50
 replace H := Option.bind_eq_some_iff.mp H
 obtain ⟨⟨t448, t451⟩, A60, H⟩ := H
 replace H : ((awardingbodymake_Tape_One.f t438 t446 12).bind fun bt453 => (if bt453.1 = true then (awardingbodylaw20_BubblePages.j0 k a1 l2 (decide ((t448.length : Int) > 0)) t438 bt453.2 t441 t442 t443 t448) else (awardingbodylaw20_BubblePages.j0 k a1 l2 false t438 bt453.2 t441 t442 t443 t448))) = some r := H
 have A6 := za A60; clear A60; have HC7 := za H; clear H
 go_enter Try.func9, Try.ntmps9
 go_upto_region 4 with (first | ((with_reducible refine gate_callee (f := 15) rfl ?_); refine zL (some 21) Try.func15 #[.slice A0 l0.length c0] ?_; (with_reducible refine (awardingbodymake_New.calls _ _ l0 t438 t439 w _ ?side1 ?side2 ?side3 A4.out).mono ?_); (case side1 => repeat (first | (with_reducible first | exact HB.out | apply below_alloc | apply pw_below_drewN | apply below_drew1) | exact HB.out)); (case side2 => exact HR0.out); (case side3 => exact HC0.out); rintro e w8 ⟨g440, rfl, hi, hb, hb2⟩; refine ⟨_, rfl, ?_⟩; have HI440 := za (hi); replace HB := za (hb); (try clear hb); (try clear hb2); (try clear hk); (try clear hi)) | ((with_reducible refine gate_callee (f := 28) rfl ?_); refine zL (some 23) Try.func28 #[.pointer (some ⟨g440, 0, none⟩), .int .i64 12] ?_; (with_reducible refine (awardingbodymake_Tape_LoosePaper.calls k g440 t438 t439 12 t441 t442 t443 t446 w _ ?side1 ?side2 A5.out).mono ?_); (case side1 => repeat (first | (with_reducible first | exact HI440.out | apply IsS68.alloc | apply IsS68.drewN | apply IsS68.drew | apply IsS68.set_1) | exact HI440.out)); (case side2 => repeat (first | (with_reducible first | exact HB.out | apply below_alloc | apply pw_below_drewN | apply below_drew1 | refine below_set ?_ (IsS68.ge HI440.out)) | exact HB.out)); rintro e w9 ⟨v444, rfl, ho0, hi, hb, hk⟩; refine ⟨_, rfl, ?_⟩; have HO445 := za (Kd.R_lower ho0 (below_size (zm HB))); replace HB := za (hb); replace HI440 := za (hi); (try clear hb); (try clear hb2); (try clear hk); (try clear hi); (try clear ho0)) | ((with_reducible refine gate_dst (N := 8) rfl ?_); (try (refine gate_guard (by rfl) ?_; dsimp only)); refine zE 8 #[.int .i64 0, .int .i64 0, .slice none 0 0] 53 ?_; intro gb447 hg w10 hbox hb; have BK447 := za (hbox); have GW447 := zg HB hg; have GE447 := zg HB hg; have NB440_447 := za ((by rw [hg]; exact Nat.ne_of_lt (IsS68.lt (show IsS68 w _ g440 t438 t446 from q12a)) : g440 ≠ gb447)); have NB447_440 := za ((by rw [hg]; exact Nat.ne_of_gt (IsS68.lt (show IsS68 w _ g440 t438 t446 from q12a)) : gb447 ≠ g440)); replace HO445 := zR HO445 hb; replace HI440 := za (IsS68.below (q12a) hb); replace HB := zs HB hb; clear hb hbox hg; have hnb11 := NB447_440.out; have hnc11 := NB440_447.out; obtain ⟨hcz12_0, hcz12_1, hcz12_2, hfz12_0, hfz12_1, hfz12_2⟩ := z3 BK447; obtain ⟨Ao13, co13, eo13⟩ := Kd.R_slice HO445.out; subst eo13) | ((with_reducible refine gate_callee (f := 29) rfl ?_); refine zL (some 26) Try.func29 #[.agg #[.int .i64 t441, .int .i64 t442, .slice Ao13 t443.length co13]] ?_; (with_reducible refine (awardingbodyref12_Make.calls k t441 t442 _ _ t443 t448 t451 _ ?side1 ?side2 A6.out).mono ?_); (case side1 => refine (Kd.R_reads' (e := 65) (base := w.heap.size) (ok := fun k_ => True) (n := t443.length) (c := co13) ?_).2.2; exact q12g); (case side2 => exact (Kd.R_reads' HO445.out).2.1); rintro e w14 ⟨v449, rfl, ho0, hb⟩; refine ⟨_, rfl, ?_⟩; have HO450 := za (Kd.S_lower ho0 (below_size (zm HB))); replace HO445 := za (Kd.R_below q12g hb); replace HI440 := za (IsS68.below (show IsS68 w (((w10.setCell ⟨gb447, 0, none⟩ (.int .i64 t441)).setCell ⟨gb447, 1, none⟩ (.int .i64 t442)).setCell ⟨gb447, 2, none⟩ (.slice Ao13 t443.length co13)) g440 t438 t446 from q12a) hb); replace BK447 := za (blk_below (g := gb447) (o := .cells #[.int .i64 t441, .int .i64 t442, .slice Ao13 t443.length co13] 53 (0, 0)) (by (with_reducible repeat (first | refine blk_drewN ?_ _ | refine blk_drew ?_ | refine blk_alloc ?_ _)); refine blk_put (cs := #[.int .i64 t441, .int .i64 t442, .slice none 0 0]) ?_ 2 _ rfl; (with_reducible repeat (first | refine blk_drewN ?_ _ | refine blk_drew ?_ | refine blk_alloc ?_ _)); refine blk_put (cs := #[.int .i64 t441, .int .i64 0, .slice none 0 0]) ?_ 1 _ rfl; (with_reducible repeat (first | refine blk_drewN ?_ _ | refine blk_drew ?_ | refine blk_alloc ?_ _)); refine blk_put (cs := #[.int .i64 0, .int .i64 0, .slice none 0 0]) ?_ 0 _ rfl; (with_reducible repeat (first | refine blk_drewN ?_ _ | refine blk_drew ?_ | refine blk_alloc ?_ _)); exact BK447.out) hb); replace HB := zs HB hb; (try clear hb); (try clear hb2); (try clear hk); (try clear hi); (try clear ho0)) | ((with_reducible refine gate_dst (N := 9) rfl ?_); (try (refine gate_guard (by rfl) ?_; dsimp only)); refine zE 9 #[.slice none 0 0] 56 ?_; intro gb452 hg w15 hbox hb; have BK452 := za (hbox); have GW452 := zg HB hg; have GE452 := zg HB hg; have NB447_452 := zl BK447 hg; have NB452_447 := zr BK447 hg; have NB440_452 := za ((by rw [hg]; exact Nat.ne_of_lt (IsS68.lt (show IsS68 w _ g440 t438 t446 from q12a)) : g440 ≠ gb452)); have NB452_440 := za ((by rw [hg]; exact Nat.ne_of_gt (IsS68.lt (show IsS68 w _ g440 t438 t446 from q12a)) : gb452 ≠ g440)); replace HO445 := zR HO445 hb; replace HO450 := zS HO450 hb; replace HI440 := za (IsS68.below (q12a) hb); replace BK447 := zb BK447 hb; replace HB := zs HB hb; clear hb hbox hg; obtain ⟨Ao16, co16, eo16⟩ := Kd.S_slice HO450.out; subst eo16; have hnb17 := NB452_447.out; have hnc17 := NB447_452.out; have hnb18 := NB452_440.out; have hnc18 := NB440_452.out; obtain ⟨hcz19_0, hfz19_0⟩ := z1 BK452))
 (try simp only [Act.put, List.setIfInBounds_toArray, List.set_cons_zero, List.set_cons_succ])
 go_cut [36] (fun v36 wc => ∃ (kq : Nat) (x36_6 : Bool) (x441001_6 : Int), v36 = .bool x36_6 ∧ Aside0 (awardingbodylaw20_BubblePages.j0 kq a1 l2 x36_6 t438 x441001_6 t441 t442 t443 t448 = some r) ∧ Aside0 (kq ≤ k) ∧ Aside0 (Kd.R k65 65 wc w.heap.size (fun _ => True) (.slice Ao13 t443.length co13) t443) ∧ Aside0 (Kd.Q (Kd.slice 3 (Kd.int .i64)) 28 wc w.heap.size (fun _ => True) (.slice Ao16 t448.length co16) t448) ∧ Aside0 (wc.heap[gb447]? = some (.cells #[.int .i64 t441, .int .i64 t442, (.slice Ao13 t443.length co13)] 53 (0, 0))) ∧ Aside0 (wc.heap[gb452]? = some (.cells #[(.slice Ao16 t448.length co16)] 56 (0, 0))) ∧ Aside0 (IsS68 w wc g440 t438 x441001_6) ∧ Aside0 (Below w.heap.size w wc))
 case first =>
  have H := HC7.out
  clear HC7
  replace H := Option.bind_eq_some_iff.mp H
  obtain ⟨⟨t453, t454⟩, A200, H⟩ := H
  replace H : (if t453 = true then (awardingbodylaw20_BubblePages.j0 k a1 l2 (decide ((t448.length : Int) > 0)) t438 t454 t441 t442 t443 t448) else (awardingbodylaw20_BubblePages.j0 k a1 l2 false t438 t454 t441 t442 t443 t448)) = some r := H
  have A20 := za A200; clear A200
  by_cases c21 : t453 = true
  ·subst c21
   have H1 : (awardingbodylaw20_BubblePages.j0 k a1 l2 (decide ((t448.length : Int) > 0)) t438 t454 t441 t442 t443 t448) = some r := by rw [if_pos rfl] at H; exact H
   clear H; have H := H1; clear H1; have H' := za H; clear H
   go_wp2_with (first | ((with_reducible refine gate_callee (f := 18) rfl ?_); refine zL (some 30) Try.func18 #[.pointer (some ⟨g440, 0, none⟩), .int .i64 12] ?_; (with_reducible refine (awardingbodymake_Tape_One.calls g440 t438 t446 12 true t454 w _ ?side1 ?side2 A20.out).mono ?_); (case side1 => repeat (first | (with_reducible first | exact HI440.out | apply IsS68.alloc | apply IsS68.drewN | apply IsS68.drew | apply IsS68.set_1 | refine IsS68.far ?_ NB440_447.out _ | refine IsS68.far ?_ NB440_452.out _) | exact HI440.out)); (case side2 => repeat (first | (with_reducible first | exact HB.out | apply below_alloc | apply pw_below_drewN | apply below_drew1 | refine below_set ?_ (IsS68.ge HI440.out) | refine below_set ?_ GE447.out | refine below_set ?_ GE452.out) | exact HB.out)); rintro e w22 ⟨rfl, hi, hb, hk⟩; refine ⟨_, rfl, ?_⟩; replace HO445 := za (Kd.R_mono (Kd.R_keep (IsS68.apart (show IsS68 w _ g440 t438 t446 from q12a) q12j (by decide)) hk (fun _ h => h.2)) (fun _ h => h.1)); replace BK447 := zk hk BK447 NB447_440; replace HO450 := za (Kd.S_mono (Kd.S_keep (IsS68.apartS (show IsS68 w _ g440 t438 t446 from q12a) q12k (by decide)) hk (fun _ h => h.2)) (fun _ h => h.1)); replace BK452 := za (KeepBut.blk hk (g' := gb452) (o := .cells #[.slice Ao16 t448.length co16] 56 (0, 0)) q12i NB452_440.out (by simp)); replace HB := za (hb); replace HI440 := za (hi); (try clear hb); (try clear hb2); (try clear hk); (try clear hi); have hnb23 := NB452_447.out; have hnc23 := NB447_452.out; have hnb24 := NB452_440.out; have hnc24 := NB440_452.out; obtain ⟨hcz25_0, hfz25_0⟩ := z1 BK452))
   go_meet
   case rel => exact ⟨_, (decide ((t448.length : Int) > 0)), (t454), q12m, H', ⟨by first | omega | exact Nat.le_refl _⟩, ⟨by (with_reducible repeat (first | apply Kd.R_alloc | apply Kd.R_drewN | apply Kd.R_drew)); exact HO445.out⟩, ⟨Kd.Q_of_R ((Kd.S_R (by (with_reducible repeat (first | apply Kd.S_alloc | apply Kd.S_drewN | apply Kd.S_drew)); exact HO450.out)))⟩, ⟨q12b⟩, ⟨q12b⟩, ⟨q12a⟩, ⟨zm HB⟩⟩
  ·replace c21 := Bool.eq_false_iff.mpr c21
   subst c21
   have H1 : (awardingbodylaw20_BubblePages.j0 k a1 l2 false t438 t454 t441 t442 t443 t448) = some r := by rw [if_neg (show ¬ (false = true) by decide)] at H; exact H
   clear H; have H := H1; clear H1; have H' := za H; clear H
   go_wp2_with (first | ((with_reducible refine gate_callee (f := 18) rfl ?_); refine zL (some 30) Try.func18 #[.pointer (some ⟨g440, 0, none⟩), .int .i64 12] ?_; (with_reducible refine (awardingbodymake_Tape_One.calls g440 t438 t446 12 false t454 w _ ?side1 ?side2 A20.out).mono ?_); (case side1 => repeat (first | (with_reducible first | exact HI440.out | apply IsS68.alloc | apply IsS68.drewN | apply IsS68.drew | apply IsS68.set_1 | refine IsS68.far ?_ NB440_447.out _ | refine IsS68.far ?_ NB440_452.out _) | exact HI440.out)); (case side2 => repeat (first | (with_reducible first | exact HB.out | apply below_alloc | apply pw_below_drewN | apply below_drew1 | refine below_set ?_ (IsS68.ge HI440.out) | refine below_set ?_ GE447.out | refine below_set ?_ GE452.out) | exact HB.out)); rintro e w26 ⟨rfl, hi, hb, hk⟩; refine ⟨_, rfl, ?_⟩; replace HO445 := za (Kd.R_mono (Kd.R_keep (IsS68.apart (show IsS68 w _ g440 t438 t446 from q12a) q12j (by decide)) hk (fun _ h => h.2)) (fun _ h => h.1)); replace BK447 := zk hk BK447 NB447_440; replace HO450 := za (Kd.S_mono (Kd.S_keep (IsS68.apartS (show IsS68 w _ g440 t438 t446 from q12a) q12k (by decide)) hk (fun _ h => h.2)) (fun _ h => h.1)); replace BK452 := za (KeepBut.blk hk (g' := gb452) (o := .cells #[.slice Ao16 t448.length co16] 56 (0, 0)) q12i NB452_440.out (by simp)); replace HB := za (hb); replace HI440 := za (hi); (try clear hb); (try clear hb2); (try clear hk); (try clear hi)))
   go_meet
   case rel => exact ⟨_, (false), (t454), q12m, H', ⟨by first | omega | exact Nat.le_refl _⟩, ⟨by (with_reducible repeat (first | apply Kd.R_alloc | apply Kd.R_drewN | apply Kd.R_drew)); exact HO445.out⟩, ⟨Kd.Q_of_R ((Kd.S_R (by (with_reducible repeat (first | apply Kd.S_alloc | apply Kd.S_drewN | apply Kd.S_drew)); exact HO450.out)))⟩, ⟨q12b⟩, ⟨q12b⟩, ⟨q12a⟩, ⟨zm HB⟩⟩
 case rest =>
  clear HC7; (try clear c1); (try clear c2); (try clear p2); (try clear c9); (try clear c11); (try clear c15); (try clear c17); (try clear c18); (try clear c21); (try clear c23); (try clear c24); (try clear hcz12_0); (try clear hcz12_1); (try clear hcz12_2); (try clear hcz19_0); (try clear hcz25_0); (try clear hfz12_0); (try clear hfz12_1); (try clear hfz12_2); (try clear hfz19_0); (try clear hfz25_0)
  obtain ⟨kq, x36_6, x441001_6, rfl, HA, HJ6, HO_448002, HO_453000, BK447, BK452, HI440, HB⟩ := hcut
  cases kq with
  | zero => exact absurd HA.out (by simp [awardingbodylaw20_BubblePages.j0])
  | succ kj6 =>
   have H := HA.out
   clear HA
   simp only [awardingbodylaw20_BubblePages.j0] at H
   have HC27 := za H; clear H
   go_upto_if 36 with (fail)
   go_cut [] (fun wc => ∃ (kq : Nat) (x453000_26 : List (List Int)) (u453000 : Value), Aside0 (awardingbodylaw20_BubblePages.j1 kq a1 l2 t438 x441001_6 t441 t442 t443 x453000_26 = some r) ∧ Aside0 (kq ≤ kj6) ∧ Aside0 (Kd.R k65 65 wc w.heap.size (fun _ => True) (.slice Ao13 t443.length co13) t443) ∧ Aside0 (Kd.Q (Kd.slice 3 (Kd.int .i64)) 28 wc w.heap.size (fun _ => True) u453000 x453000_26) ∧ Aside0 (wc.heap[gb447]? = some (.cells #[.int .i64 t441, .int .i64 t442, (.slice Ao13 t443.length co13)] 53 (0, 0))) ∧ Aside0 (wc.heap[gb452]? = some (.cells #[u453000] 56 (0, 0))) ∧ Aside0 (IsS68 w wc g440 t438 x441001_6) ∧ Aside0 (Below w.heap.size w wc))
   case first =>
    have H := HC27.out
    clear HC27
    by_cases c28 : x36_6 = true
    ·subst c28
     have H1 : (if 1 ≤ (t448.length : Int) then (awardingbodylaw20_BubblePages.j1 kj6 a1 l2 t438 x441001_6 t441 t442 t443 (t448.drop (1 : Int).toNat)) else (none)) = some r := by rw [if_pos rfl] at H; exact H
     clear H; have H := H1; clear H1
     by_cases c29 : 1 ≤ (t448.length : Int)
     ·rw [if_pos c29] at H
      have c29b0 := eq_true c29
      have c29b1 : decide (1 ≤ (t448.length : Int)) = true := decide_eq_true c29
      clear c29
      obtain ⟨y455, hy_⟩ : ∃ y_ : List (List Int), y_ = (t448.drop (1 : Int).toNat) := ⟨_, rfl⟩
      replace H : (awardingbodylaw20_BubblePages.j1 kj6 a1 l2 t438 x441001_6 t441 t442 t443 y455) = some r := q12n
      have Ny455 := za hy_; clear hy_; have H' := za H; clear H
      have hnb30 := NB452_447.out
      have hnc30 := NB447_452.out
      have hnb31 := NB452_440.out
      have hnc31 := NB440_452.out
      obtain ⟨hcz32_0, hfz32_0⟩ := z1 BK452
      have q33 : (1 : Int) ≤ ((t448.length : Int) : Int) := of_decide_eq_true (by first | (with_reducible assumption) | assumption)
      obtain ⟨i033, hi033, _, hsz33, _⟩ := info_parts info28
      have hcut33 := cut_from (P := Try.prog) 47 28 .i64 Try.underlying47 hi033 1 hsz33 Ao16 t448.length co16 1 (by omega) q33
      have hr33 := Kd.Q_drop (k := (1 : Int).toNat) HO_453000.out (by omega)
      obtain ⟨A33, hA33⟩ : ∃ A1, A1 = (if co16 = (1 : Int).toNat then Ao16 else (Ao16 : Option Addr).map (·.add ((1 : Int).toNat * 1))) := ⟨_, rfl⟩
      obtain ⟨c33, hc33⟩ : ∃ c1, c1 = co16 - (1 : Int).toNat := ⟨_, rfl⟩
      have hy_ : y455.length = t448.length - (1 : Int).toNat := (by rw [Ny455.out, List.length_drop])
      rw [← Ny455.out] at hr33
      rw [← hy_, ← hA33, ← hc33] at hcut33
      replace hr33 : Kd.Q (Kd.slice 3 (Kd.int .i64)) 28 wc w.heap.size (fun _ => True) (.slice A33 y455.length c33) y455 := (by rw [hA33, hc33, hy_]; exact hr33)
      have HE33 : Aside0 ((Value.slice A33 y455.length c33).ownBlock = (.slice Ao16 t448.length co16 : Value).ownBlock) := ⟨by rw [hA33]; split <;> (cases (Ao16 : Option Addr) <;> first | rfl | (show some (Addr.add _ _).block = some _; unfold Addr.add; split <;> rfl))⟩
      clear hy_ hi033 hsz33 HO_453000 hA33 hc33; have HO457 := za hr33; clear hr33
      replace q33 := eq_true q33
      go_wp2
      go_meet
      case rel => exact ⟨_, (y455), (.slice A33 y455.length c33), H', ⟨by have := HJ6.out; first | omega | exact Nat.le_refl _⟩, ⟨by (with_reducible repeat (first | apply Kd.R_alloc | apply Kd.R_drewN | apply Kd.R_drew)); exact Kd.R_mono (Kd.R_far (p := ⟨gb452, 0, none⟩) (Kd.R_types HO_448002.out BK452.out (by decide)) (fun _ hk => hk.2) (.slice A33 y455.length c33)) (fun _ hk => trivial)⟩, ⟨by (with_reducible repeat (first | apply Kd.Q_alloc | apply Kd.Q_drewN | apply Kd.Q_drew)); exact Kd.Q_mono (Kd.Q_far (p := ⟨gb452, 0, none⟩) (Kd.Q_types HO457.out BK452.out (by decide)) (fun _ hk => hk.2) (.slice A33 y455.length c33)) (fun _ hk => trivial)⟩, ⟨q12b⟩, ⟨by (with_reducible repeat (first | refine blk_drewN ?_ _ | refine blk_drew ?_ | refine blk_alloc ?_ _)); refine blk_put (cs := #[.slice Ao16 t448.length co16]) ?_ 0 _ rfl; (with_reducible repeat (first | refine blk_drewN ?_ _ | refine blk_drew ?_ | refine blk_alloc ?_ _)); exact BK452.out⟩, ⟨q12a⟩, ⟨zm HB⟩⟩
     ·rw [if_neg c29] at H
      exact absurd H (by simp)
    ·replace c28 := Bool.eq_false_iff.mpr c28
     subst c28
     have H1 : (awardingbodylaw20_BubblePages.j1 kj6 a1 l2 t438 x441001_6 t441 t442 t443 t448) = some r := by rw [if_neg (show ¬ (false = true) by decide)] at H; exact H
     clear H; have H := H1; clear H1; have H' := za H; clear H
     go_wp2
     go_meet
     case rel => exact ⟨_, (t448), (.slice Ao16 t448.length co16), H', ⟨by have := HJ6.out; first | omega | exact Nat.le_refl _⟩, ⟨by (with_reducible repeat (first | apply Kd.R_alloc | apply Kd.R_drewN | apply Kd.R_drew)); exact HO_448002.out⟩, ⟨by (with_reducible repeat (first | apply Kd.Q_alloc | apply Kd.Q_drewN | apply Kd.Q_drew)); exact HO_453000.out⟩, ⟨q12b⟩, ⟨q12b⟩, ⟨q12a⟩, ⟨zm HB⟩⟩
   case rest =>
    clear HC27; (try clear c1); (try clear c2); (try clear p2); (try clear c3); (try clear q3); (try clear c9); (try clear c11); (try clear c15); (try clear c17); (try clear c18); (try clear c21); (try clear c23); (try clear c24); (try clear c28); (try clear c29); (try clear c29b0); (try clear c29b1); (try clear c30); (try clear c31); (try clear c33); (try clear q33); (try clear hcz12_0); (try clear hcz12_1); (try clear hcz12_2); (try clear hcz19_0); (try clear hcz25_0); (try clear hcz32_0); (try clear hfz12_0); (try clear hfz12_1); (try clear hfz12_2); (try clear hfz19_0); (try clear hfz25_0); (try clear hfz32_0); (try clear p2); (try clear q33)
    obtain ⟨kq, x453000_26, u453000, HA, HJ26, HO_448002, HO_453000, BK447, BK452, HI440, HB⟩ := hcut
    cases kq with
    | zero => exact absurd HA.out (by simp [awardingbodylaw20_BubblePages.j1])
    | succ kj26 =>
     have H := HA.out
     clear HA
     simp only [awardingbodylaw20_BubblePages.j1] at H
     replace H := Option.bind_eq_some_iff.mp H
     obtain ⟨⟨t458, t459, t460, t461⟩, A340, H⟩ := H
     replace H : ((awardingbodymake_Tape_Range.f t438 t461 0 4).bind fun bt463 => ((awardingbodyref12_Fields.f kj26 t441 t442 t443 x453000_26 bt463.1).bind fun t465 => (awardingbodylaw20_BubblePages.l0 kj26 a1 l2 bt463.1 ([] : List Int) (t465.length : Int) t438 bt463.2 t441 t442 t443 x453000_26 t458 t459 t460))) = some r := H
     have A34 := za A340; clear A340
     replace H := Option.bind_eq_some_iff.mp H
     obtain ⟨⟨t463, t464⟩, A350, H⟩ := H
     replace H : ((awardingbodyref12_Fields.f kj26 t441 t442 t443 x453000_26 t463).bind fun t465 => (awardingbodylaw20_BubblePages.l0 kj26 a1 l2 t463 ([] : List Int) (t465.length : Int) t438 t464 t441 t442 t443 x453000_26 t458 t459 t460)) = some r := H
     have A35 := za A350; clear A350
     replace H := Option.bind_eq_some_iff.mp H
     obtain ⟨t465, A360, H⟩ := H
     replace H : (awardingbodylaw20_BubblePages.l0 kj26 a1 l2 t463 ([] : List Int) (t465.length : Int) t438 t464 t441 t442 t443 x453000_26 t458 t459 t460) = some r := H
     have A36 := za A360; clear A360; have H' := za H; clear H
     go_wp2_with (first | ((with_reducible refine gate_callee (f := 16) rfl ?_); refine zL (some 42) Try.func16 #[.pointer (some ⟨g440, 0, none⟩), .int .i64 12] ?_; (with_reducible refine (awardingbodymake_Tape_Threshold.calls g440 t438 x441001_6 12 t458 t459 t460 t461 w _ ?side1 ?side2 A34.out).mono ?_); (case side1 => repeat (first | (with_reducible first | exact HI440.out | apply IsS68.alloc | apply IsS68.drewN | apply IsS68.drew | apply IsS68.set_1 | refine IsS68.far ?_ NB440_447.out _ | refine IsS68.far ?_ NB440_452.out _) | exact HI440.out)); (case side2 => repeat (first | (with_reducible first | exact HB.out | apply below_alloc | apply pw_below_drewN | apply below_drew1 | refine below_set ?_ (IsS68.ge HI440.out) | refine below_set ?_ GE447.out | refine below_set ?_ GE452.out) | exact HB.out)); rintro e w37 ⟨rfl, hi, hb, hk⟩; refine ⟨_, rfl, ?_⟩; replace HO_448002 := za (Kd.R_mono (Kd.R_keep (IsS68.apart (show IsS68 w _ g440 t438 x441001_6 from q12a) q12e (by decide)) hk (fun _ h => h.2)) (fun _ h => h.1)); replace HO_453000 := za (Kd.Q_mono (Kd.Q_keep (IsS68.apartQ (show IsS68 w _ g440 t438 x441001_6 from q12a) q12d (by decide)) hk (fun _ h => h.2)) (fun _ h => h.1)); replace BK447 := zk hk BK447 NB447_440; replace BK452 := zk hk BK452 NB452_440; replace HB := za (hb); replace HI440 := za (hi); (try clear hb); (try clear hb2); (try clear hk); (try clear hi)) | ((with_reducible refine gate_dst (N := 11) rfl ?_); (try (refine gate_guard (by rfl) ?_; dsimp only)); refine zE 11 #[.int .i64 0, .int .i64 0, .int .i64 0] 23 ?_; intro gb462 hg w38 hbox hb; have BK462 := za (hbox); have GW462 := zg HB hg; have GE462 := zg HB hg; have NB447_462 := zl BK447 hg; have NB462_447 := zr BK447 hg; have NB452_462 := zl BK452 hg; have NB462_452 := zr BK452 hg; have NB440_462 := za ((by rw [hg]; exact Nat.ne_of_lt (IsS68.lt (show IsS68 w _ g440 t438 t461 from q12a)) : g440 ≠ gb462)); have NB462_440 := za ((by rw [hg]; exact Nat.ne_of_gt (IsS68.lt (show IsS68 w _ g440 t438 t461 from q12a)) : gb462 ≠ g440)); replace HO_448002 := zR HO_448002 hb; replace HO_453000 := za (Kd.Q_below q12d hb); replace BK447 := zb BK447 hb; replace BK452 := zb BK452 hb; replace HI440 := za (IsS68.below (q12a) hb); replace HB := zs HB hb; clear hb hbox hg; have hnb39 := NB462_447.out; have hnc39 := NB447_462.out; have hnb40 := NB462_452.out; have hnc40 := NB452_462.out; have hnb41 := NB462_440.out; have hnc41 := NB440_462.out; obtain ⟨hcz42_0, hcz42_1, hcz42_2, hfz42_0, hfz42_1, hfz42_2⟩ := z3 BK462) | ((with_reducible refine gate_callee (f := 30) rfl ?_); refine zL (some 44) Try.func30 #[.pointer (some ⟨g440, 0, none⟩), .int .i64 0, .int .i64 4] ?_; (with_reducible refine (awardingbodymake_Tape_Range.calls g440 t438 t461 0 4 t463 t464 w _ ?side1 ?side2 A35.out).mono ?_); (case side1 => repeat (first | (with_reducible first | exact HI440.out | apply IsS68.alloc | apply IsS68.drewN | apply IsS68.drew | apply IsS68.set_1 | refine IsS68.far ?_ NB440_447.out _ | refine IsS68.far ?_ NB440_452.out _ | refine IsS68.far ?_ NB440_462.out _) | exact HI440.out)); (case side2 => repeat (first | (with_reducible first | exact HB.out | apply below_alloc | apply pw_below_drewN | apply below_drew1 | refine below_set ?_ (IsS68.ge HI440.out) | refine below_set ?_ GE447.out | refine below_set ?_ GE452.out | refine below_set ?_ GE462.out) | exact HB.out)); rintro e w43 ⟨rfl, hi, hb, hk⟩; refine ⟨_, rfl, ?_⟩; replace HO_448002 := za (Kd.R_mono (Kd.R_keep (IsS68.apart (show IsS68 w _ g440 t438 t461 from q12a) (by (with_reducible repeat (first | apply Kd.R_alloc | apply Kd.R_drewN | apply Kd.R_drew)); exact (Kd.R_mono (Kd.R_far (p := ⟨gb462, 2, none⟩) (Kd.R_far (p := ⟨gb462, 1, none⟩) (Kd.R_far (p := ⟨gb462, 0, none⟩) (Kd.R_types HO_448002.out BK462.out (by decide)) (fun _ hk => hk.2) (.int .i64 t458)) (fun _ hk => hk.2) (.int .i64 t459)) (fun _ hk => hk.2) (.int .i64 t460)) (fun _ h_ => h_.1))) (by decide)) hk (fun _ h => h.2)) (fun _ h => h.1)); replace HO_453000 := za (Kd.Q_mono (Kd.Q_keep (IsS68.apartQ (show IsS68 w _ g440 t438 t461 from q12a) (by (with_reducible repeat (first | apply Kd.Q_alloc | apply Kd.Q_drewN | apply Kd.Q_drew)); exact (Kd.Q_mono (Kd.Q_far (p := ⟨gb462, 2, none⟩) (Kd.Q_far (p := ⟨gb462, 1, none⟩) (Kd.Q_far (p := ⟨gb462, 0, none⟩) (Kd.Q_types HO_453000.out BK462.out (by decide)) (fun _ hk => hk.2) (.int .i64 t458)) (fun _ hk => hk.2) (.int .i64 t459)) (fun _ hk => hk.2) (.int .i64 t460)) (fun _ h_ => h_.1))) (by decide)) hk (fun _ h => h.2)) (fun _ h => h.1)); replace BK447 := zk hk BK447 NB447_440; replace BK452 := zk hk BK452 NB452_440; replace BK462 := za (KeepBut.blk hk (g' := gb462) (o := .cells #[.int .i64 t458, .int .i64 t459, .int .i64 t460] 23 (0, 0)) (by (with_reducible repeat (first | refine blk_drewN ?_ _ | refine blk_drew ?_ | refine blk_alloc ?_ _)); refine blk_put (cs := #[.int .i64 t458, .int .i64 t459, .int .i64 0]) ?_ 2 _ rfl; (with_reducible repeat (first | refine blk_drewN ?_ _ | refine blk_drew ?_ | refine blk_alloc ?_ _)); refine blk_put (cs := #[.int .i64 t458, .int .i64 0, .int .i64 0]) ?_ 1 _ rfl; (with_reducible repeat (first | refine blk_drewN ?_ _ | refine blk_drew ?_ | refine blk_alloc ?_ _)); refine blk_put (cs := #[.int .i64 0, .int .i64 0, .int .i64 0]) ?_ 0 _ rfl; (with_reducible repeat (first | refine blk_drewN ?_ _ | refine blk_drew ?_ | refine blk_alloc ?_ _)); exact BK462.out) NB462_440.out (by simp)); replace HB := za (hb); replace HI440 := za (hi); (try clear hb); (try clear hb2); (try clear hk); (try clear hi); have hnb44 := NB447_452.out; have hnc44 := NB452_447.out; have hnb45 := NB447_440.out; have hnc45 := NB440_447.out; obtain ⟨hcz46_0, hcz46_1, hcz46_2, hfz46_0, hfz46_1, hfz46_2⟩ := z3 BK447; have hnb47 := NB452_440.out; have hnc47 := NB440_452.out; obtain ⟨hcz48_0, hfz48_0⟩ := z1 BK452; obtain ⟨Ao49, co49, eo49, _⟩ := Kd.Q_slice HO_453000.out; subst eo49) | ((with_reducible refine gate_callee (f := 31) rfl ?_); refine zL (some 48) Try.func31 #[.agg #[.int .i64 t441, .int .i64 t442, .slice Ao13 t443.length co13], .agg #[.slice Ao49 x453000_26.length co49], .int .i64 t463] ?_; (with_reducible refine (awardingbodyref12_Fields.calls kj26 t441 t442 _ _ t443 _ _ x453000_26 t463 t465 _ ?side1 ?side2 ?side3 ?side4 A36.out).mono ?_); (case side1 => exact zD HO_448002); (case side2 => exact (Kd.R_reads' HO_448002.out).2.1); (case side3 => repeat (first | exact (Kd.Q_reads' HO_453000.out).2.2 | (with_reducible refine Kd.C_alloc ?_ _) | (with_reducible refine Kd.C_drewN ?_ _) | (with_reducible refine Kd.C_drew ?_))); (case side4 => exact (Kd.Q_reads' HO_453000.out).2.1); rintro e w50 ⟨v466, rfl, ho0, hb⟩; refine ⟨_, rfl, ?_⟩; have HO467 := za (Kd.R_lower ho0 (below_size (zm HB))); replace HO_448002 := zR HO_448002 hb; replace HO_453000 := za (Kd.Q_below q12d hb); replace BK447 := zb BK447 hb; replace BK452 := zb BK452 hb; replace HI440 := za (IsS68.below (q12a) hb); replace BK462 := zb BK462 hb; replace HB := zs HB hb; (try clear hb); (try clear hb2); (try clear hk); (try clear hi); (try clear ho0); obtain ⟨Ao51, co51, eo51⟩ := Kd.R_slice HO467.out; subst eo51))
     go_loopg [13, 14] kj26 (fun kq v13 v14 w' => ∃ (x13_3 : List Int) (x14_3 : Int) (x441001_3 : Int), v14 = .int .i64 x14_3 ∧ Aside0 (awardingbodylaw20_BubblePages.l0 kq a1 l2 t463 x13_3 x14_3 t438 x441001_3 t441 t442 t443 x453000_26 t458 t459 t460 = some r) ∧ Aside0 (kq ≤ kj26) ∧ Aside0 (Kd.R (Kd.int .i64) 3 w' w.heap.size (fun _ => True) v13 x13_3) ∧ Aside0 (Kd.R k65 65 w' w.heap.size (fun _ => True) (.slice Ao13 t443.length co13) t443) ∧ Aside0 (Kd.Q (Kd.slice 3 (Kd.int .i64)) 28 w' w.heap.size (fun k_ => some k_ ≠ (v13 : Value).ownBlock) (.slice Ao49 x453000_26.length co49) x453000_26) ∧ Aside0 (w'.heap[gb447]? = some (.cells #[.int .i64 t441, .int .i64 t442, (.slice Ao13 t443.length co13)] 53 (0, 0))) ∧ Aside0 (w'.heap[gb452]? = some (.cells #[(.slice Ao49 x453000_26.length co49)] 56 (0, 0))) ∧ Aside0 (w'.heap[gb462]? = some (.cells #[.int .i64 t458, .int .i64 t459, .int .i64 t460] 23 (0, 0))) ∧ Aside0 (IsS68 w w' g440 t438 x441001_3) ∧ Aside0 (Below w.heap.size w w'))
     case atStart => exact ⟨(([] : List Int)), ((t465.length : Int)), (t464), q12m, H', ⟨Nat.le_refl _⟩, ⟨by first | exact Kd.R_nil _ _ _ _ _ | exact Kd.N_nil _ _ _ _ _ | exact Kd.V_nil _ _ _ _ _ | exact Kd.Q_nil _ _ _ _ _ | exact Kd.S_nil _ _ _ _ _⟩, ⟨by (with_reducible repeat (first | apply Kd.R_alloc | apply Kd.R_drewN | apply Kd.R_drew)); exact HO_448002.out⟩, ⟨by (with_reducible repeat (first | apply Kd.Q_alloc | apply Kd.Q_drewN | apply Kd.Q_drew)); exact Kd.Q_mono HO_453000.out (fun _ hk => (by simp [Value.ownBlock]))⟩, ⟨q12b⟩, ⟨q12b⟩, ⟨q12b⟩, ⟨q12a⟩, ⟨zm HB⟩⟩
     case round =>
      clear H'; (try clear c1); (try clear c2); (try clear p2); (try clear c3); (try clear q3); (try clear c4); (try clear c9); (try clear c11); (try clear c15); (try clear c16); (try clear c17); (try clear c18); (try clear c21); (try clear c23); (try clear c24); (try clear c28); (try clear c29); (try clear c29b0); (try clear c29b1); (try clear c30); (try clear c31); (try clear c33); (try clear q33); (try clear c39); (try clear c40); (try clear c41); (try clear c44); (try clear c45); (try clear c47); (try clear hcz12_0); (try clear hcz12_1); (try clear hcz12_2); (try clear hcz19_0); (try clear hcz25_0); (try clear hcz32_0); (try clear hcz42_0); (try clear hcz42_1); (try clear hcz42_2); (try clear hcz46_0); (try clear hcz46_1); (try clear hcz46_2); (try clear hcz48_0); (try clear hfz12_0); (try clear hfz12_1); (try clear hfz12_2); (try clear hfz19_0); (try clear hfz25_0); (try clear hfz32_0); (try clear hfz42_0); (try clear hfz42_1); (try clear hfz42_2); (try clear hfz46_0); (try clear hfz46_1); (try clear hfz46_2); (try clear hfz48_0); (try clear p2); (try clear q3); (try clear q33)
      obtain ⟨x13_3, x14_3, x441001_3, rfl, HA, HK3, HO_13, HO_448002, HO_453000, BK447, BK452, BK462, HI440, HB⟩ := hrel
      cases gk with
      | zero => exact absurd HA.out (by simp [awardingbodylaw20_BubblePages.l0])
      | succ k3 =>
       have H := HA.out
       clear HA
       simp only [awardingbodylaw20_BubblePages.l0] at H
       by_cases c52 : x14_3 > 0
       ·rw [if_pos c52] at H
        have c52b0 : decide (0 < x14_3) = true := decide_eq_true c52
        clear c52
        obtain ⟨y468, hy_⟩ : ∃ y_ : List Int, y_ = (([0, 0, 9, 8, 4, 1] : List Int)) := ⟨_, rfl⟩
        replace H : ((awardingbodymake_Tape_Pick.f t438 x441001_3 y468).bind fun bt471 => (if x13_3.length < 17592186044416 then (awardingbodylaw20_BubblePages.l0 k3 a1 l2 t463 (x13_3 ++ [bt471.1]) (wrap64 (x14_3 - 1)) t438 bt471.2 t441 t442 t443 x453000_26 t458 t459 t460) else (none))) = some r := q12n
        have Ny468 := za hy_; clear hy_
        replace H := Option.bind_eq_some_iff.mp H
        obtain ⟨⟨t471, t472⟩, A530, H⟩ := H
        replace H : (if x13_3.length < 17592186044416 then (awardingbodylaw20_BubblePages.l0 k3 a1 l2 t463 (x13_3 ++ [t471]) (wrap64 (x14_3 - 1)) t438 t472 t441 t442 t443 x453000_26 t458 t459 t460) else (none)) = some r := H
        have A53 := za A530; clear A530
        by_cases c54 : x13_3.length < 17592186044416
        ·rw [if_pos c54] at H
         have LMc54 := za c54; clear c54
         obtain ⟨y473, hy_⟩ : ∃ y_ : List Int, y_ = (x13_3 ++ [t471]) := ⟨_, rfl⟩
         replace H : (awardingbodylaw20_BubblePages.l0 k3 a1 l2 t463 y473 (wrap64 (x14_3 - 1)) t438 t472 t441 t442 t443 x453000_26 t458 t459 t460) = some r := q12n
         have Ny473 := za hy_; clear hy_; have H' := za H; clear H
         go_wp2_with (first | ((with_reducible refine gate_dst (N := 56) rfl ?_); (try (refine gate_guard (by rfl) ?_; dsimp only)); refine Kd.R_lit (Kd.int .i64) _ 3 ?hg (N := 56) ?hd (xs := ([0, 0, 9, 8, 4, 1] : List Int)) (inner := [.int .i64 0, .int .i64 0, .int .i64 9, .int .i64 8, .int .i64 4, .int .i64 1]) (ok := fun _ => True) (okp := fun _ => True) ?hr ?hp (fun _ hk => hk) trivial (Below.refl _ _) (Nat.le_refl _) (by simp) ?_; (case hd => rfl); (case hg => rfl); (case hr => first | (go_simp; done) | (go_simp; rfl)); (case hp => exact (Reps.one (show Kd.M (Kd.int .i64) _ _ _ 0 [.int .i64 0] from rfl) (Reps.one (show Kd.M (Kd.int .i64) _ _ _ 0 [.int .i64 0] from rfl) (Reps.one (show Kd.M (Kd.int .i64) _ _ _ 9 [.int .i64 9] from rfl) (Reps.one (show Kd.M (Kd.int .i64) _ _ _ 8 [.int .i64 8] from rfl) (Reps.one (show Kd.M (Kd.int .i64) _ _ _ 4 [.int .i64 4] from rfl) (Reps.one (show Kd.M (Kd.int .i64) _ _ _ 1 [.int .i64 1] from rfl) (Reps.none _ _)))))))); intro v469 w55 ho56 hb hg_ hnew_; clear hg_ hnew_; (first | rw [← Ny468.out] at ho56 | (simp only [Int.reduceToNat] at ho56; rw [← Ny468.out] at ho56)); have HO470 := za (Kd.R_lower (Kd.R_new' ho56 (Kd.R_lt q12c)) (below_size (zm HB))); replace HO_13 := za (Kd.R_elder' q12c (Kd.R_base ho56) hb); replace HO_448002 := zR HO_448002 hb; replace HO_453000 := za (Kd.Q_elder' q12d (Kd.R_base ho56) hb); replace BK447 := zb BK447 hb; replace BK452 := zb BK452 hb; replace BK462 := zb BK462 hb; replace HI440 := za (IsS68.below (q12a) hb); replace HB := zs HB hb; clear hb ho56; obtain ⟨Ao57, co57, eo57⟩ := Kd.R_slice HO470.out; subst eo57) | ((with_reducible refine gate_callee (f := 19) rfl ?_); refine zL (some 57) Try.func19 #[.pointer (some ⟨g440, 0, none⟩), .slice Ao57 y468.length co57] ?_; (with_reducible refine (awardingbodymake_Tape_Pick.calls g440 t438 x441001_3 _ _ y468 t471 t472 w _ ?side1 ?side2 ?side3 ?side4 ?side5 A53.out).mono ?_); (case side1 => repeat (first | (with_reducible first | exact HI440.out | apply IsS68.alloc | apply IsS68.drewN | apply IsS68.drew | apply IsS68.set_1 | refine IsS68.far ?_ NB440_447.out _ | refine IsS68.far ?_ NB440_452.out _ | refine IsS68.far ?_ NB440_462.out _) | exact HI440.out)); (case side2 => repeat (first | (with_reducible first | exact HB.out | apply below_alloc | apply pw_below_drewN | apply below_drew1 | refine below_set ?_ (IsS68.ge HI440.out) | refine below_set ?_ GE447.out | refine below_set ?_ GE452.out | refine below_set ?_ GE462.out) | exact HB.out)); (case side3 => exact zD HO470); (case side4 => exact (Kd.R_reads' HO470.out).2.1); (case side5 => exact far_slice (IsS68.own_ne HI440.out HO470.out (by decide))); rintro e w58 ⟨rfl, hi, hb, hk⟩; refine ⟨_, rfl, ?_⟩; replace HO_13 := za (Kd.R_mono (Kd.R_keep (IsS68.apart (show IsS68 w _ g440 t438 x441001_3 from q12a) q12c (by decide)) hk (fun _ h => h.2)) (fun _ h => h.1)); replace HO_448002 := za (Kd.R_mono (Kd.R_keep (IsS68.apart (show IsS68 w _ g440 t438 x441001_3 from q12a) q12e (by decide)) hk (fun _ h => h.2)) (fun _ h => h.1)); replace HO_453000 := za (Kd.Q_mono (Kd.Q_keep (IsS68.apartQ (show IsS68 w _ g440 t438 x441001_3 from q12a) q12d (by decide)) hk (fun _ h => h.2)) (fun _ h => h.1)); replace BK447 := zk hk BK447 NB447_440; replace BK452 := zk hk BK452 NB452_440; replace BK462 := zk hk BK462 NB462_440; replace HO470 := za (Kd.R_mono (Kd.R_keep (IsS68.apart (show IsS68 w _ g440 t438 x441001_3 from q12a) q12l (by decide)) hk (fun _ h => h.2)) (fun _ h => h.1)); replace HB := za (hb); replace HI440 := za (hi); (try clear hb); (try clear hb2); (try clear hk); (try clear hi)) | ((with_reducible refine gate_builtin (b := .append) (xs := #[.tmp 54, .tmp 58]) rfl ?_); (try (refine gate_guard (by rfl) ?_; dsimp only)); at_builtin; refine Kd.R_append (Kd.int .i64) (w0 := w) w.heap.size rfl (.tmp 54) (.tmp 58) 28 3 (.int .i64 0) 8 rfl Try.underlying28 info3 rfl (by decide) (by omega) u13 x13_3 t471 [.int .i64 t471] (fun k_ => some k_ ≠ (.slice Ao57 y468.length co57 : Value).ownBlock) (fun _ => False) rfl rfl ?aP (fun _ hk => hk.elim) ?aF ?aO ?aB ?aS ?aL ?_; (case aP => exact rfl); (case aB => exact (zm HB)); (case aF => exact (fun k_ hk => Kd.fresh' (Kd.R_lt q12l) k_ hk)); (case aO => exact (by (with_reducible repeat (first | apply Kd.R_alloc | apply Kd.R_drewN | apply Kd.R_drew)); exact Kd.R_mono HO_13.out (fun _ hk => hk.2))); (case aS => exact (below_size (zm HB))); (case aL => have := LMc54.out; omega); intro v474 w59 ho hb hg hat; rw [← Ny473.out] at ho; have HO475 := za (ho); replace HO_448002 := za (Kd.R_over' q12e (Kd.R_typed q12c) (by decide) hg); replace HO_453000 := za (Kd.Q_after (ok := (fun k_ => some k_ ≠ (.slice Ao57 y468.length co57 : Value).ownBlock)) (by (with_reducible repeat (first | apply Kd.Q_alloc | apply Kd.Q_drewN | apply Kd.Q_drew)); exact Kd.Q_mono HO_453000.out (fun _ hk => ⟨hk.2, hk.1⟩)) hg hat); replace BK447 := (zw BK447 hg (Kd.R_ne HO_13.out BK447.out (by decide))); replace BK452 := (zw BK452 hg (Kd.R_ne HO_13.out BK452.out (by decide))); replace BK462 := (zw BK462 hg (Kd.R_ne HO_13.out BK462.out (by decide))); replace HI440 := za (IsS68.grown (q12a) hg (IsS68.own_ne HI440.out HO_13.out (by decide))); replace HO470 := za (Kd.R_after (ok := (fun _ => True)) q12l hg hat); replace HB := za (hb); clear HO_13 ho hb hg hat))
         go_roundg k3
         case measure => have := HJ6.out; have := HJ26.out; have := HK3.out; omega
         case rel => exact ⟨(y473), (wrap64 (x14_3 - 1)), (t472), q12m, H', ⟨by have := HJ6.out; have := HJ26.out; have := HK3.out; omega⟩, ⟨by (with_reducible repeat (first | apply Kd.R_alloc | apply Kd.R_drewN | apply Kd.R_drew)); exact Kd.R_mono HO475.out (fun _ hk => trivial)⟩, ⟨by (with_reducible repeat (first | apply Kd.R_alloc | apply Kd.R_drewN | apply Kd.R_drew)); exact HO_448002.out⟩, ⟨by (with_reducible repeat (first | apply Kd.Q_alloc | apply Kd.Q_drewN | apply Kd.Q_drew)); exact Kd.Q_mono HO_453000.out (fun _ hk => hk.2)⟩, ⟨q12b⟩, ⟨q12b⟩, ⟨q12b⟩, ⟨q12a⟩, ⟨zm HB⟩⟩
        ·rw [if_neg c54] at H
         exact absurd H (by simp)
       ·rw [if_neg c52] at H
        have c52b0 : decide (0 < x14_3) = false := decide_eq_false c52
        clear c52
        replace H := Option.bind_eq_some_iff.mp H
        obtain ⟨⟨t476, t477⟩, A600, H⟩ := H
        replace H : (if t476 = true then ((awardingbodymake_Tape_Range.f t438 t477 0 10).bind fun bt478 => (if x13_3.length < 17592186044416 then (awardingbodylaw20_BubblePages.j3 k3 a1 l2 t463 (x13_3 ++ [bt478.1]) t441 t442 t443 x453000_26 t458 t459 t460) else (none))) else (awardingbodylaw20_BubblePages.j3 k3 a1 l2 t463 x13_3 t441 t442 t443 x453000_26 t458 t459 t460)) = some r := H
        have A60 := za A600; clear A600; have HC61 := za H; clear H
        go_upto_if 61 with (first | ((with_reducible refine gate_callee (f := 18) rfl ?_); refine zL (some 61) Try.func18 #[.pointer (some ⟨g440, 0, none⟩), .int .i64 10] ?_; (with_reducible refine (awardingbodymake_Tape_One.calls g440 t438 x441001_3 10 t476 t477 w _ ?side1 ?side2 A60.out).mono ?_); (case side1 => repeat (first | (with_reducible first | exact HI440.out | apply IsS68.alloc | apply IsS68.drewN | apply IsS68.drew | apply IsS68.set_1 | refine IsS68.far ?_ NB440_447.out _ | refine IsS68.far ?_ NB440_452.out _ | refine IsS68.far ?_ NB440_462.out _) | exact HI440.out)); (case side2 => repeat (first | (with_reducible first | exact HB.out | apply below_alloc | apply pw_below_drewN | apply below_drew1 | refine below_set ?_ (IsS68.ge HI440.out) | refine below_set ?_ GE447.out | refine below_set ?_ GE452.out | refine below_set ?_ GE462.out) | exact HB.out)); rintro e w62 ⟨rfl, hi, hb, hk⟩; refine ⟨_, rfl, ?_⟩; replace HO_13 := za (Kd.R_mono (Kd.R_keep (IsS68.apart (show IsS68 w _ g440 t438 x441001_3 from q12a) q12c (by decide)) hk (fun _ h => h.2)) (fun _ h => h.1)); replace HO_448002 := za (Kd.R_mono (Kd.R_keep (IsS68.apart (show IsS68 w _ g440 t438 x441001_3 from q12a) q12e (by decide)) hk (fun _ h => h.2)) (fun _ h => h.1)); replace HO_453000 := za (Kd.Q_mono (Kd.Q_keep (IsS68.apartQ (show IsS68 w _ g440 t438 x441001_3 from q12a) q12d (by decide)) hk (fun _ h => h.2)) (fun _ h => h.1)); replace BK447 := zk hk BK447 NB447_440; replace BK452 := zk hk BK452 NB452_440; replace BK462 := zk hk BK462 NB462_440; replace HB := za (hb); replace HI440 := za (hi); (try clear hb); (try clear hb2); (try clear hk); (try clear hi)))
        (try simp only [Act.put, List.setIfInBounds_toArray, List.set_cons_zero, List.set_cons_succ])
        go_cut [13] (fun v13 wc => ∃ (kq : Nat) (x13_60 : List Int), Aside0 (awardingbodylaw20_BubblePages.j3 kq a1 l2 t463 x13_60 t441 t442 t443 x453000_26 t458 t459 t460 = some r) ∧ Aside0 (kq ≤ k3) ∧ Aside0 (Kd.R (Kd.int .i64) 3 wc w.heap.size (fun _ => True) v13 x13_60) ∧ Aside0 (Kd.R k65 65 wc w.heap.size (fun _ => True) (.slice Ao13 t443.length co13) t443) ∧ Aside0 (Kd.Q (Kd.slice 3 (Kd.int .i64)) 28 wc w.heap.size (fun k_ => some k_ ≠ (v13 : Value).ownBlock) (.slice Ao49 x453000_26.length co49) x453000_26) ∧ Aside0 (wc.heap[gb447]? = some (.cells #[.int .i64 t441, .int .i64 t442, (.slice Ao13 t443.length co13)] 53 (0, 0))) ∧ Aside0 (wc.heap[gb452]? = some (.cells #[(.slice Ao49 x453000_26.length co49)] 56 (0, 0))) ∧ Aside0 (wc.heap[gb462]? = some (.cells #[.int .i64 t458, .int .i64 t459, .int .i64 t460] 23 (0, 0))) ∧ Aside0 (Below w.heap.size w wc))
        case first =>
         have H := HC61.out
         clear HC61
         by_cases c63 : t476 = true
         ·subst c63
          have H1 : ((awardingbodymake_Tape_Range.f t438 t477 0 10).bind fun bt478 => (if x13_3.length < 17592186044416 then (awardingbodylaw20_BubblePages.j3 k3 a1 l2 t463 (x13_3 ++ [bt478.1]) t441 t442 t443 x453000_26 t458 t459 t460) else (none))) = some r := by rw [if_pos rfl] at H; exact H
          clear H; have H := H1; clear H1
          replace H := Option.bind_eq_some_iff.mp H
          obtain ⟨⟨t478, t479⟩, A640, H⟩ := H
          replace H : (if x13_3.length < 17592186044416 then (awardingbodylaw20_BubblePages.j3 k3 a1 l2 t463 (x13_3 ++ [t478]) t441 t442 t443 x453000_26 t458 t459 t460) else (none)) = some r := H
          have A64 := za A640; clear A640
          by_cases c65 : x13_3.length < 17592186044416
          ·rw [if_pos c65] at H
           have LMc65 := za c65; clear c65
           obtain ⟨y480, hy_⟩ : ∃ y_ : List Int, y_ = (x13_3 ++ [t478]) := ⟨_, rfl⟩
           replace H : (awardingbodylaw20_BubblePages.j3 k3 a1 l2 t463 y480 t441 t442 t443 x453000_26 t458 t459 t460) = some r := q12n
           have Ny480 := za hy_; clear hy_; have H' := za H; clear H
           go_wp2_with (first | ((with_reducible refine gate_callee (f := 30) rfl ?_); refine zL (some 64) Try.func30 #[.pointer (some ⟨g440, 0, none⟩), .int .i64 0, .int .i64 10] ?_; (with_reducible refine (awardingbodymake_Tape_Range.calls g440 t438 t477 0 10 t478 t479 w _ ?side1 ?side2 A64.out).mono ?_); (case side1 => repeat (first | (with_reducible first | exact HI440.out | apply IsS68.alloc | apply IsS68.drewN | apply IsS68.drew | apply IsS68.set_1 | refine IsS68.far ?_ NB440_447.out _ | refine IsS68.far ?_ NB440_452.out _ | refine IsS68.far ?_ NB440_462.out _) | exact HI440.out)); (case side2 => repeat (first | (with_reducible first | exact HB.out | apply below_alloc | apply pw_below_drewN | apply below_drew1 | refine below_set ?_ (IsS68.ge HI440.out) | refine below_set ?_ GE447.out | refine below_set ?_ GE452.out | refine below_set ?_ GE462.out) | exact HB.out)); rintro e w66 ⟨rfl, hi, hb, hk⟩; refine ⟨_, rfl, ?_⟩; replace HO_13 := za (Kd.R_mono (Kd.R_keep (IsS68.apart (show IsS68 w _ g440 t438 t477 from q12a) q12c (by decide)) hk (fun _ h => h.2)) (fun _ h => h.1)); replace HO_448002 := za (Kd.R_mono (Kd.R_keep (IsS68.apart (show IsS68 w _ g440 t438 t477 from q12a) q12e (by decide)) hk (fun _ h => h.2)) (fun _ h => h.1)); replace HO_453000 := za (Kd.Q_mono (Kd.Q_keep (IsS68.apartQ (show IsS68 w _ g440 t438 t477 from q12a) q12d (by decide)) hk (fun _ h => h.2)) (fun _ h => h.1)); replace BK447 := zk hk BK447 NB447_440; replace BK452 := zk hk BK452 NB452_440; replace BK462 := zk hk BK462 NB462_440; replace HB := za (hb); replace HI440 := za (hi); (try clear hb); (try clear hb2); (try clear hk); (try clear hi)) | ((with_reducible refine gate_builtin (b := .append) (xs := #[.tmp 62, .tmp 65]) rfl ?_); (try (refine gate_guard (by rfl) ?_; dsimp only)); at_builtin; refine Kd.R_append (Kd.int .i64) (w0 := w) w.heap.size rfl (.tmp 62) (.tmp 65) 28 3 (.int .i64 0) 8 rfl Try.underlying28 info3 rfl (by decide) (by omega) u13 x13_3 t478 [.int .i64 t478] (fun _ => True) (fun _ => False) rfl rfl ?aP (fun _ hk => hk.elim) ?aF ?aO ?aB ?aS ?aL ?_; (case aP => exact rfl); (case aB => exact (zm HB)); (case aF => exact (fun _ _ => trivial)); (case aO => exact q12c); (case aS => exact (below_size (zm HB))); (case aL => have := LMc65.out; omega); intro v481 w67 ho hb hg hat; rw [← Ny480.out] at ho; have HO482 := za (ho); replace HO_448002 := za (Kd.R_over' q12e (Kd.R_typed q12c) (by decide) hg); replace HO_453000 := za (Kd.Q_after (ok := (fun _ => True)) (by (with_reducible repeat (first | apply Kd.Q_alloc | apply Kd.Q_drewN | apply Kd.Q_drew)); exact Kd.Q_mono HO_453000.out (fun _ hk => ⟨trivial, hk⟩)) hg hat); replace BK447 := (zw BK447 hg (Kd.R_ne HO_13.out BK447.out (by decide))); replace BK452 := (zw BK452 hg (Kd.R_ne HO_13.out BK452.out (by decide))); replace BK462 := (zw BK462 hg (Kd.R_ne HO_13.out BK462.out (by decide))); replace HI440 := za (IsS68.grown (q12a) hg (IsS68.own_ne HI440.out HO_13.out (by decide))); replace HB := za (hb); clear HO_13 ho hb hg hat))
           go_meet
           case rel => exact ⟨_, (y480), H', ⟨by have := HJ6.out; have := HJ26.out; have := HK3.out; first | omega | exact Nat.le_refl _⟩, ⟨by (with_reducible repeat (first | apply Kd.R_alloc | apply Kd.R_drewN | apply Kd.R_drew)); exact HO482.out⟩, ⟨by (with_reducible repeat (first | apply Kd.R_alloc | apply Kd.R_drewN | apply Kd.R_drew)); exact HO_448002.out⟩, ⟨by (with_reducible repeat (first | apply Kd.Q_alloc | apply Kd.Q_drewN | apply Kd.Q_drew)); exact Kd.Q_mono HO_453000.out (fun _ hk => hk.2)⟩, ⟨q12b⟩, ⟨q12b⟩, ⟨q12b⟩, ⟨zm HB⟩⟩
          ·rw [if_neg c65] at H
           exact absurd H (by simp)
         ·replace c63 := Bool.eq_false_iff.mpr c63
          subst c63
          have H1 : (awardingbodylaw20_BubblePages.j3 k3 a1 l2 t463 x13_3 t441 t442 t443 x453000_26 t458 t459 t460) = some r := by rw [if_neg (show ¬ (false = true) by decide)] at H; exact H
          clear H; have H := H1; clear H1; have H' := za H; clear H
          go_wp2
          go_meet
          case rel => exact ⟨_, (x13_3), H', ⟨by have := HJ6.out; have := HJ26.out; have := HK3.out; first | omega | exact Nat.le_refl _⟩, ⟨by (with_reducible repeat (first | apply Kd.R_alloc | apply Kd.R_drewN | apply Kd.R_drew)); exact HO_13.out⟩, ⟨by (with_reducible repeat (first | apply Kd.R_alloc | apply Kd.R_drewN | apply Kd.R_drew)); exact HO_448002.out⟩, ⟨by (with_reducible repeat (first | apply Kd.Q_alloc | apply Kd.Q_drewN | apply Kd.Q_drew)); exact HO_453000.out⟩, ⟨q12b⟩, ⟨q12b⟩, ⟨q12b⟩, ⟨zm HB⟩⟩
        case rest =>
         clear HC61; (try clear c1); (try clear c2); (try clear p2); (try clear c3); (try clear q3); (try clear c4); (try clear c5); (try clear c6); (try clear p6); (try clear c9); (try clear c11); (try clear c15); (try clear c16); (try clear c17); (try clear c18); (try clear c19); (try clear c21); (try clear c23); (try clear c24); (try clear c28); (try clear c29); (try clear c29b0); (try clear c29b1); (try clear c30); (try clear c31); (try clear c33); (try clear q33); (try clear c39); (try clear c40); (try clear c41); (try clear c44); (try clear c45); (try clear c47); (try clear c52); (try clear c52b0); (try clear c54); (try clear c63); (try clear p64); (try clear c65); (try clear hcz12_0); (try clear hcz12_1); (try clear hcz12_2); (try clear hcz19_0); (try clear hcz25_0); (try clear hcz32_0); (try clear hcz42_0); (try clear hcz42_1); (try clear hcz42_2); (try clear hcz46_0); (try clear hcz46_1); (try clear hcz46_2); (try clear hcz48_0); (try clear hfz12_0); (try clear hfz12_1); (try clear hfz12_2); (try clear hfz19_0); (try clear hfz25_0); (try clear hfz32_0); (try clear hfz42_0); (try clear hfz42_1); (try clear hfz42_2); (try clear hfz46_0); (try clear hfz46_1); (try clear hfz46_2); (try clear hfz48_0); (try clear p2); (try clear q3); (try clear q33)
         obtain ⟨kq, x13_60, HA, HJ60, HO_13, HO_448002, HO_453000, BK447, BK452, BK462, HB⟩ := hcut
         cases kq with
         | zero => exact absurd HA.out (by simp [awardingbodylaw20_BubblePages.j3])
         | succ kj60 =>
          have H := HA.out
          clear HA
          simp only [awardingbodylaw20_BubblePages.j3] at H
          by_cases c68 : (l2.length : Int) > 60
          ·rw [if_pos c68] at H
           have c68b0 : decide (60 < (l2.length : Int)) = true := decide_eq_true c68
           have c68b1 : decide (60 < l2.length) = true := decide_eq_true (by omega)
           clear c68
           obtain rfl := Option.some.inj H
           go_wp2
           go_ret
           exact ⟨zf, zm HB⟩
          ·rw [if_neg c68] at H
           have c68b0 : decide (60 < (l2.length : Int)) = false := decide_eq_false c68
           have c68b1 : decide (60 < l2.length) = false := decide_eq_false (by omega)
           clear c68
           replace H := Option.bind_eq_some_iff.mp H
           obtain ⟨⟨t483, t486⟩, A690, H⟩ := H
           replace H : ((awardingbodyref20_Page.f kj60 t441 t442 t443 x453000_26 t458 t459 t460 t463 x13_60).bind fun bt487 => ((awardingbodyref06_Ints.f kj60 t483 bt487.1).bind fun t491 => (if t491 = true then (if t486 = bt487.2 then ((bubble_Page.f kj60 t441 t442 t443 x453000_26 t458 t459 t460 a1 l2).bind fun bt492 => ((awardingbodyref20_Page.f kj60 t441 t442 t443 x453000_26 t458 t459 t460 a1 l2).bind fun bt496 => ((awardingbodyref06_Ints.f kj60 bt492.1 bt496.1).bind fun t500 => (if t500 = true then (if bt492.2 = bt496.2 then ((awardingbodylaw20_awake.f kj60).bind fun t501 => (some t501)) else (none)) else (none))))) else (none)) else (none)))) = some r := H
           have A69 := za A690; clear A690
           replace H := Option.bind_eq_some_iff.mp H
           obtain ⟨⟨t487, t490⟩, A700, H⟩ := H
           replace H : ((awardingbodyref06_Ints.f kj60 t483 t487).bind fun t491 => (if t491 = true then (if t486 = t490 then ((bubble_Page.f kj60 t441 t442 t443 x453000_26 t458 t459 t460 a1 l2).bind fun bt492 => ((awardingbodyref20_Page.f kj60 t441 t442 t443 x453000_26 t458 t459 t460 a1 l2).bind fun bt496 => ((awardingbodyref06_Ints.f kj60 bt492.1 bt496.1).bind fun t500 => (if t500 = true then (if bt492.2 = bt496.2 then ((awardingbodylaw20_awake.f kj60).bind fun t501 => (some t501)) else (none)) else (none))))) else (none)) else (none))) = some r := H
           have A70 := za A700; clear A700
           replace H := Option.bind_eq_some_iff.mp H
           obtain ⟨t491, A710, H⟩ := H
           replace H : (if t491 = true then (if t486 = t490 then ((bubble_Page.f kj60 t441 t442 t443 x453000_26 t458 t459 t460 a1 l2).bind fun bt492 => ((awardingbodyref20_Page.f kj60 t441 t442 t443 x453000_26 t458 t459 t460 a1 l2).bind fun bt496 => ((awardingbodyref06_Ints.f kj60 bt492.1 bt496.1).bind fun t500 => (if t500 = true then (if bt492.2 = bt496.2 then ((awardingbodylaw20_awake.f kj60).bind fun t501 => (some t501)) else (none)) else (none))))) else (none)) else (none)) = some r := H
           have A71 := za A710; clear A710
           by_cases c72 : t491 = true
           ·subst c72
            have H1 : (if t486 = t490 then ((bubble_Page.f kj60 t441 t442 t443 x453000_26 t458 t459 t460 a1 l2).bind fun bt492 => ((awardingbodyref20_Page.f kj60 t441 t442 t443 x453000_26 t458 t459 t460 a1 l2).bind fun bt496 => ((awardingbodyref06_Ints.f kj60 bt492.1 bt496.1).bind fun t500 => (if t500 = true then (if bt492.2 = bt496.2 then ((awardingbodylaw20_awake.f kj60).bind fun t501 => (some t501)) else (none)) else (none))))) else (none)) = some r := by rw [if_pos rfl] at H; exact H
            clear H; have H := H1; clear H1
            by_cases c73 : t486 = t490
            ·rw [if_pos c73] at H
             have c73b0 : (t486 == t490) = true := beq_iff_eq.mpr c73
             have c73b1 : (t486 != t490) = false := bne_eq_false_iff_eq.mpr c73
             clear c73
             replace H := Option.bind_eq_some_iff.mp H
             obtain ⟨⟨t492, t495⟩, A740, H⟩ := H
             replace H : ((awardingbodyref20_Page.f kj60 t441 t442 t443 x453000_26 t458 t459 t460 a1 l2).bind fun bt496 => ((awardingbodyref06_Ints.f kj60 t492 bt496.1).bind fun t500 => (if t500 = true then (if t495 = bt496.2 then ((awardingbodylaw20_awake.f kj60).bind fun t501 => (some t501)) else (none)) else (none)))) = some r := H
             have A74 := za A740; clear A740
             replace H := Option.bind_eq_some_iff.mp H
             obtain ⟨⟨t496, t499⟩, A750, H⟩ := H
             replace H : ((awardingbodyref06_Ints.f kj60 t492 t496).bind fun t500 => (if t500 = true then (if t495 = t499 then ((awardingbodylaw20_awake.f kj60).bind fun t501 => (some t501)) else (none)) else (none))) = some r := H
             have A75 := za A750; clear A750
             replace H := Option.bind_eq_some_iff.mp H
             obtain ⟨t500, A760, H⟩ := H
             replace H : (if t500 = true then (if t495 = t499 then ((awardingbodylaw20_awake.f kj60).bind fun t501 => (some t501)) else (none)) else (none)) = some r := H
             have A76 := za A760; clear A760
             by_cases c77 : t500 = true
             ·subst c77
              have H1 : (if t495 = t499 then ((awardingbodylaw20_awake.f kj60).bind fun t501 => (some t501)) else (none)) = some r := by rw [if_pos rfl] at H; exact H
              clear H; have H := H1; clear H1
              by_cases c78 : t495 = t499
              ·rw [if_pos c78] at H
               have c78b0 : (t495 == t499) = true := beq_iff_eq.mpr c78
               have c78b1 : (t495 != t499) = false := bne_eq_false_iff_eq.mpr c78
               clear c78
               replace H := Option.bind_eq_some_iff.mp H
               obtain ⟨t501, A790, H⟩ := H
               replace H : (some t501) = some r := H
               have A79 := za A790; clear A790
               obtain rfl := Option.some.inj H
               have hnb80 := NB447_452.out
               have hnc80 := NB452_447.out
               have hnb81 := NB447_462.out
               have hnc81 := NB462_447.out
               obtain ⟨hcz82_0, hcz82_1, hcz82_2, hfz82_0, hfz82_1, hfz82_2⟩ := z3 BK447
               have hnb83 := NB452_462.out
               have hnc83 := NB462_452.out
               obtain ⟨hcz84_0, hfz84_0⟩ := z1 BK452
               obtain ⟨hcz85_0, hcz85_1, hcz85_2, hfz85_0, hfz85_1, hfz85_2⟩ := z3 BK462
               obtain ⟨Ao86, co86, eo86⟩ := Kd.R_slice HO_13.out
               subst eo86
               go_wp2
               refine wp_loop_rounds 3 ?_
               iterate 3 (rw [rounds_succ]; go_wp2_with (first | ((with_reducible refine gate_callee (f := 32) rfl ?_); refine zL (some 80) Try.func32 #[.agg #[.int .i64 t441, .int .i64 t442, .slice Ao13 t443.length co13], .agg #[.slice Ao49 x453000_26.length co49], .agg #[.int .i64 t458, .int .i64 t459, .int .i64 t460], .int .i64 t463, .slice Ao86 x13_60.length co86] ?_; (with_reducible refine (bubble_Page.calls kj60 t441 t442 _ _ t443 _ _ x453000_26 t458 t459 t460 t463 _ _ x13_60 t483 t486 _ ?side1 ?side2 ?side3 ?side4 ?side5 ?side6 A69.out).mono ?_); (case side1 => exact zD HO_448002); (case side2 => exact (Kd.R_reads' HO_448002.out).2.1); (case side3 => repeat (first | exact (Kd.Q_reads' HO_453000.out).2.2 | (with_reducible refine Kd.C_alloc ?_ _) | (with_reducible refine Kd.C_drewN ?_ _) | (with_reducible refine Kd.C_drew ?_))); (case side4 => exact (Kd.Q_reads' HO_453000.out).2.1); (case side5 => exact zD HO_13); (case side6 => exact (Kd.R_reads' HO_13.out).2.1); rintro e w87 ⟨v484, rfl, ho0, hb⟩; refine ⟨_, rfl, ?_⟩; have HO485 := za (Kd.R_lower (Kd.R_new' ho0 (Kd.R_lt q12c)) (below_size (zm HB))); replace HO_13 := za (Kd.R_elder' q12c (Kd.R_base ho0) hb); replace HO_448002 := zR HO_448002 hb; replace HO_453000 := za (Kd.Q_elder' q12d (Kd.R_base ho0) hb); replace BK447 := zb BK447 hb; replace BK452 := zb BK452 hb; replace BK462 := zb BK462 hb; replace HB := zs HB hb; (try clear hb); (try clear hb2); (try clear hk); (try clear hi); (try clear ho0); obtain ⟨hcz88_0, hcz88_1, hcz88_2, hfz88_0, hfz88_1, hfz88_2⟩ := z3 BK447; obtain ⟨hcz89_0, hfz89_0⟩ := z1 BK452; obtain ⟨hcz90_0, hcz90_1, hcz90_2, hfz90_0, hfz90_1, hfz90_2⟩ := z3 BK462) | ((with_reducible refine gate_callee (f := 33) rfl ?_); refine zL (some 89) Try.func33 #[.agg #[.int .i64 t441, .int .i64 t442, .slice Ao13 t443.length co13], .agg #[.slice Ao49 x453000_26.length co49], .agg #[.int .i64 t458, .int .i64 t459, .int .i64 t460], .int .i64 t463, .slice Ao86 x13_60.length co86] ?_; (with_reducible refine (awardingbodyref20_Page.calls kj60 t441 t442 _ _ t443 _ _ x453000_26 t458 t459 t460 t463 _ _ x13_60 t487 t490 _ ?side1 ?side2 ?side3 ?side4 ?side5 ?side6 A70.out).mono ?_); (case side1 => exact zD HO_448002); (case side2 => exact (Kd.R_reads' HO_448002.out).2.1); (case side3 => repeat (first | exact (Kd.Q_reads' HO_453000.out).2.2 | (with_reducible refine Kd.C_alloc ?_ _) | (with_reducible refine Kd.C_drewN ?_ _) | (with_reducible refine Kd.C_drew ?_))); (case side4 => exact (Kd.Q_reads' HO_453000.out).2.1); (case side5 => exact zD HO_13); (case side6 => exact (Kd.R_reads' HO_13.out).2.1); rintro e w91 ⟨v488, rfl, ho0, hb⟩; refine ⟨_, rfl, ?_⟩; have HO489 := za (Kd.R_lower (Kd.R_new' (Kd.R_new' ho0 (Kd.R_lt q12c)) (Kd.R_lt q12f)) (below_size (zm HB))); replace HO_13 := za (Kd.R_elder' q12c (Kd.R_base ho0) hb); replace HO_448002 := zR HO_448002 hb; replace HO_453000 := za (Kd.Q_elder' q12d (Kd.R_base ho0) hb); replace HO485 := za (Kd.R_elder' q12f (Kd.R_base ho0) hb); replace BK447 := zb BK447 hb; replace BK452 := zb BK452 hb; replace BK462 := zb BK462 hb; replace HB := zs HB hb; (try clear hb); (try clear hb2); (try clear hk); (try clear hi); (try clear ho0); obtain ⟨Ao92, co92, eo92⟩ := Kd.R_slice HO485.out; subst eo92; obtain ⟨Ao93, co93, eo93⟩ := Kd.R_slice HO489.out; subst eo93) | ((with_reducible refine gate_callee (f := 27) rfl ?_); refine zL (some 94) Try.func27 #[.slice Ao92 t483.length co92, .slice Ao93 t487.length co93] ?_; (with_reducible refine (awardingbodyref06_Ints.calls kj60 _ _ t483 _ _ t487 true _ ?side1 ?side2 ?side3 ?side4 A71.out).mono ?_); (case side1 => exact zD HO485); (case side2 => exact (Kd.R_reads' HO485.out).2.1); (case side3 => exact zD HO489); (case side4 => exact (Kd.R_reads' HO489.out).2.1); rintro e w' ⟨rfl, ⟨nd, rfl⟩⟩; refine ⟨_, rfl, ?_⟩; obtain ⟨hcz94_0, hcz94_1, hcz94_2, hfz94_0, hfz94_1, hfz94_2⟩ := z3 BK447; obtain ⟨hcz95_0, hfz95_0⟩ := z1 BK452; obtain ⟨hcz96_0, hcz96_1, hcz96_2, hfz96_0, hfz96_1, hfz96_2⟩ := z3 BK462) | ((with_reducible refine gate_callee (f := 32) rfl ?_); refine zL (some 80) Try.func32 #[.agg #[.int .i64 t441, .int .i64 t442, .slice Ao13 t443.length co13], .agg #[.slice Ao49 x453000_26.length co49], .agg #[.int .i64 t458, .int .i64 t459, .int .i64 t460], .int .i64 a1, .slice A2 l2.length c2] ?_; (with_reducible refine (bubble_Page.calls kj60 t441 t442 _ _ t443 _ _ x453000_26 t458 t459 t460 a1 _ _ l2 t492 t495 _ ?side1 ?side2 ?side3 ?side4 ?side5 ?side6 A74.out).mono ?_); (case side1 => exact zD HO_448002); (case side2 => exact (Kd.R_reads' HO_448002.out).2.1); (case side3 => repeat (first | exact (Kd.Q_reads' HO_453000.out).2.2 | (with_reducible refine Kd.C_alloc ?_ _) | (with_reducible refine Kd.C_drewN ?_ _) | (with_reducible refine Kd.C_drew ?_))); (case side4 => exact (Kd.Q_reads' HO_453000.out).2.1); (case side5 => repeat (first | exact (Kd.C_below HR2.out (zm HB)) | (with_reducible refine Kd.C_alloc ?_ _) | (with_reducible refine Kd.C_drewN ?_ _) | (with_reducible refine Kd.C_drew ?_))); (case side6 => exact HC2.out); rintro e w97 ⟨v493, rfl, ho0, hb⟩; refine ⟨_, rfl, ?_⟩; have HO494 := za (Kd.R_lower (Kd.R_new' (Kd.R_new' (Kd.R_new' ho0 (Kd.R_lt q12c)) (Kd.R_lt q12f)) (Kd.R_lt q12h)) (below_size (zm HB))); replace HO_13 := za (Kd.R_elder' q12c (Kd.R_base ho0) hb); replace HO_448002 := zR HO_448002 hb; replace HO_453000 := za (Kd.Q_elder' q12d (Kd.R_base ho0) hb); replace HO485 := za (Kd.R_elder' q12f (Kd.R_base ho0) hb); replace HO489 := za (Kd.R_elder' q12h (Kd.R_base ho0) hb); replace BK447 := zb BK447 hb; replace BK452 := zb BK452 hb; replace BK462 := zb BK462 hb; replace HB := zs HB hb; (try clear hb); (try clear hb2); (try clear hk); (try clear hi); (try clear ho0); obtain ⟨hcz98_0, hcz98_1, hcz98_2, hfz98_0, hfz98_1, hfz98_2⟩ := z3 BK447; obtain ⟨hcz99_0, hfz99_0⟩ := z1 BK452; obtain ⟨hcz100_0, hcz100_1, hcz100_2, hfz100_0, hfz100_1, hfz100_2⟩ := z3 BK462) | ((with_reducible refine gate_callee (f := 33) rfl ?_); refine zL (some 89) Try.func33 #[.agg #[.int .i64 t441, .int .i64 t442, .slice Ao13 t443.length co13], .agg #[.slice Ao49 x453000_26.length co49], .agg #[.int .i64 t458, .int .i64 t459, .int .i64 t460], .int .i64 a1, .slice A2 l2.length c2] ?_; (with_reducible refine (awardingbodyref20_Page.calls kj60 t441 t442 _ _ t443 _ _ x453000_26 t458 t459 t460 a1 _ _ l2 t496 t499 _ ?side1 ?side2 ?side3 ?side4 ?side5 ?side6 A75.out).mono ?_); (case side1 => exact zD HO_448002); (case side2 => exact (Kd.R_reads' HO_448002.out).2.1); (case side3 => repeat (first | exact (Kd.Q_reads' HO_453000.out).2.2 | (with_reducible refine Kd.C_alloc ?_ _) | (with_reducible refine Kd.C_drewN ?_ _) | (with_reducible refine Kd.C_drew ?_))); (case side4 => exact (Kd.Q_reads' HO_453000.out).2.1); (case side5 => exact zC HR2 HB); (case side6 => exact HC2.out); rintro e w101 ⟨v497, rfl, ho0, hb⟩; refine ⟨_, rfl, ?_⟩; have HO498 := za (Kd.R_lower (Kd.R_new' (Kd.R_new' (Kd.R_new' (Kd.R_new' ho0 (Kd.R_lt q12c)) (Kd.R_lt q12f)) (Kd.R_lt q12h)) (Kd.R_lt (by (with_reducible repeat (first | apply Kd.R_alloc | apply Kd.R_drewN | apply Kd.R_drew)); exact HO494.out))) (below_size (zm HB))); replace HO_13 := za (Kd.R_elder' q12c (Kd.R_base ho0) hb); replace HO_448002 := zR HO_448002 hb; replace HO_453000 := za (Kd.Q_elder' q12d (Kd.R_base ho0) hb); replace HO485 := za (Kd.R_elder' q12f (Kd.R_base ho0) hb); replace HO489 := za (Kd.R_elder' q12h (Kd.R_base ho0) hb); replace HO494 := za (Kd.R_elder' (by (with_reducible repeat (first | apply Kd.R_alloc | apply Kd.R_drewN | apply Kd.R_drew)); exact HO494.out) (Kd.R_base ho0) hb); replace BK447 := zb BK447 hb; replace BK452 := zb BK452 hb; replace BK462 := zb BK462 hb; replace HB := zs HB hb; (try clear hb); (try clear hb2); (try clear hk); (try clear hi); (try clear ho0); obtain ⟨Ao102, co102, eo102⟩ := Kd.R_slice HO494.out; subst eo102; obtain ⟨Ao103, co103, eo103⟩ := Kd.R_slice HO498.out; subst eo103) | ((with_reducible refine gate_callee (f := 27) rfl ?_); refine zL (some 94) Try.func27 #[.slice Ao102 t492.length co102, .slice Ao103 t496.length co103] ?_; (with_reducible refine (awardingbodyref06_Ints.calls kj60 _ _ t492 _ _ t496 true _ ?side1 ?side2 ?side3 ?side4 A76.out).mono ?_); (case side1 => exact zD HO494); (case side2 => exact (Kd.R_reads' HO494.out).2.1); (case side3 => exact zD HO498); (case side4 => exact (Kd.R_reads' HO498.out).2.1); rintro e w' ⟨rfl, ⟨nd, rfl⟩⟩; refine ⟨_, rfl, ?_⟩) | ((with_reducible refine gate_callee (f := 14) rfl ?_); refine zL (some 103) Try.func14 #[] ?_; (with_reducible refine (awardingbodylaw20_awake.calls kj60  t501 _ A79.out).mono ?_); rintro e w104 ⟨rfl, hb⟩; refine ⟨_, rfl, ?_⟩; replace HO_13 := zR HO_13 hb; replace HO_448002 := zR HO_448002 hb; replace HO_453000 := za (Kd.Q_below q12d hb); replace HO485 := zR HO485 hb; replace HO489 := zR HO489 hb; replace HO494 := zR HO494 hb; replace HO498 := zR HO498 hb; replace BK447 := zb BK447 hb; replace BK452 := zb BK452 hb; replace BK462 := zb BK462 hb; replace HB := zs HB hb; (try clear hb); (try clear hb2); (try clear hk); (try clear hi))))
               go_ret
               exact ⟨zf, zm HB⟩
              ·rw [if_neg c78] at H
               exact absurd H (by simp)
             ·replace c77 := Bool.eq_false_iff.mpr c77
              subst c77
              have H1 : (none) = some r := by rw [if_neg (show ¬ (false = true) by decide)] at H; exact H
              clear H; have H := H1; clear H1
              exact absurd H (by simp)
            ·rw [if_neg c73] at H
             exact absurd H (by simp)
           ·replace c72 := Bool.eq_false_iff.mpr c72
            subst c72
            have H1 : (none) = some r := by rw [if_neg (show ¬ (false = true) by decide)] at H; exact H
            clear H; have H := H1; clear H1
            exact absurd H (by simp)

/-- THE ONE PURE STATEMENT of awardingbodylaw20_BubblePages: yours. -/
def awardingbodylaw20_BubblePages.Pure : Prop := ∀ (l0 : List Int) (a1 : Int) (l2 : List Int), l0.length ≤ maxLen → l0.length * 8 ≤ 140737488351232 → (∀ x ∈ l0, (Lit.int .i64 x).wf = true) → (Lit.int .i64 a1).wf = true → l2.length ≤ maxLen → l2.length * 8 ≤ 140737488351232 → (∀ x ∈ l2, (Lit.int .i64 x).wf = true) → ∃ k, awardingbodylaw20_BubblePages.f k l0 a1 l2 = some true
theorem awardingbodylaw20_BubblePages.walk (P : awardingbodylaw20_BubblePages.Pure) (a0 : Option Addr) (len0 cap0 : Nat) (z0 : List Int) (a1 : Int) (a2 : Option Addr) (len2 cap2 : Nat) (z2 : List Int) (w : World) (w0 : (a0 = none ∧ len0 = 0 ∧ cap0 = 0 ∧ z0 = []) ∨ ∃ x, a0 = some x ∧ len0 ≤ cap0 ∧ cap0 ≤ maxLen ∧ z0.length = cap0 ∧ (∀ i, i < z0.length → w.cell? (x.add i) = some (.int .i64 (z0.getD i 0))) ∧ ∀ n ∈ z0, (Lit.int .i64 n).wf = true) (y0 : len0 * 8 ≤ 140737488351232) (w1 : (Lit.int .i64 a1).wf = true) (w2 : (a2 = none ∧ len2 = 0 ∧ cap2 = 0 ∧ z2 = []) ∨ ∃ x, a2 = some x ∧ len2 ≤ cap2 ∧ cap2 ≤ maxLen ∧ z2.length = cap2 ∧ (∀ i, i < z2.length → w.cell? (x.add i) = some (.int .i64 (z2.getD i 0))) ∧ ∀ n ∈ z2, (Lit.int .i64 n).wf = true) (y2 : len2 * 8 ≤ 140737488351232) :
  Calls Try.prog 9 #[.slice a0 len0 cap0, .int .i64 a1, .slice a2 len2 cap2] w fun e w' => e = .returned (.bool true) ∧ Below w.heap.size w w' := by
 obtain ⟨l0, rfl, hr0, hm0, hw0, hc0⟩ := ReadsInt.ofRowC w0
 obtain ⟨l2, rfl, hr2, hm2, hw2, hc2⟩ := ReadsInt.ofRowC w2
 obtain ⟨k, h⟩ := P l0 a1 l2 hm0 y0 hw0 w1 hm2 y2 hw2
 refine (awardingbodylaw20_BubblePages.calls k _ _ l0 a1 _ _ l2 true w (Kd.C_of_reads (d := (0 : Int)) (h1 := fun _ => rfl) hr0) hc0 (Kd.C_of_reads (d := (0 : Int)) (h1 := fun _ => rfl) hr2) hc2 h).mono ?_
 rintro e w' ⟨rfl, hd⟩
 exact ⟨rfl, hd⟩

end Go.Proofs.Ythbmpjglkbhhgaa.Print
