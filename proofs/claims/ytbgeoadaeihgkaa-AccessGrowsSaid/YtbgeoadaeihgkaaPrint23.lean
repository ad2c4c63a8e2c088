-- Printed by a program of this session (wip/own_print.py) out of the translation; Lean checks it.
import Derived.Test.YtbgeoadaeihgkaaClip
import Derived.Test.YtbgeoadaeihgkaaPrint0
import Derived.Test.YtbgeoadaeihgkaaPrint2
import Derived.Test.YtbgeoadaeihgkaaPrint3
import Derived.Test.YtbgeoadaeihgkaaPrint6
import Derived.Test.YtbgeoadaeihgkaaPrint7
import Derived.Test.YtbgeoadaeihgkaaPrint8
import Derived.Test.YtbgeoadaeihgkaaPrint9
import Derived.Test.YtbgeoadaeihgkaaPrint12
import Derived.Test.YtbgeoadaeihgkaaPrint22
namespace Go.Proofs.Ytbgeoadaeihgkaa.Print
open Go.RowKit Go.Proofs.YtbgeoadaeihgkaaW.PrintWords Go.Proofs.YtbgeoadaeihgkaaW.PrintLast Go.Proofs.YtbgeoadaeihgkaaW.PrintMore
attribute [local go_sem] max2_int min2_int max_two min_two max_three min_three max_four min_four   -- for this text's walks alone
set_option linter.unusedVariables false
set_option linter.unusedSimpArgs false

/-! ### awardingbodylaw14_AccessGrows: function 8 -/
def awardingbodylaw14_AccessGrows.l0 : Nat → Int → Int → Int → Int → Int → Int → Int → List Int → List Int → Int → Int → Int → Int → Int → Option (Bool)
  | 0, _, _, _, _, _, _, _, _, _, _, _, _, _, _ => none
  | k + 1, x2, x12, x14, x15, x16, x17, x18, x19, x20, x21, x462000, x462001, x466000, x466001 => if x21 < (x19.length : Int) then (if 0 ≤ x21 then ((awardingbodyref06_Has.f k x20 (rd x19 x21)).bind fun t477 => (if t477 = true then (awardingbodylaw14_AccessGrows.l0 k x2 x12 x14 x15 x16 x17 x18 x19 x20 (wrap64 (x21 + 1)) x462000 x462001 x466000 x466001) else (none))) else (none)) else (if x12 = 0 then (if x14 = 0 then (if x16 = 0 then (if x18 = 0 then (if x462000 ≤ x466000 then (if (Go.bits .andNot .i64 x462001 x466001) = 0 then (if x15 ≤ x17 then (if x15 ≥ x2 then ((awardingbodylaw14_awake.f k).bind fun t478 => (some t478)) else (none)) else (none)) else (none)) else (none)) else (none)) else (none)) else (none)) else (none))
def awardingbodylaw14_AccessGrows.f (k : Nat) (l0 : List Int) (a1 : Int) (a2 : Int) : Option (Bool) := (awardingbodymake_New.f l0).bind fun bt433 => ((awardingbodymake_Tape_Rules.f k bt433.1 bt433.2 0).bind fun bt436 => ((awardingbodymake_Tape_Evidence.f k bt433.1 bt436.2).bind fun bt440 => (if 0 ≤ (bt440.1.length : Int) then (if (bt440.1.length : Int) ≤ (bt440.1.length : Int) then ((some (bt440.1.take ((bt440.1.length : Int) : Int).toNat : List (S49))).bind fun y444 => ((awardingbodymake_Tape_Evidence.f k bt433.1 bt440.2).bind fun bt449 => (if y444.length + bt449.1.length < 3518437208883 then ((some (y444 ++ bt449.1 : List (S49))).bind fun y453 => ((awardingbodymake_Cut.f a1 30).bind fun t456 => ((awardingbodymake_Cut.f a2 600).bind fun t457 => ((access_Grant.f k bt436.1 bt440.1 1 t456).bind fun bt458 => ((access_Grant.f k bt436.1 y453 1 t456).bind fun bt462 => ((access_Minutes.f k (wrap64 (1 + t457)) bt458.1 bt458.2.1).bind fun bt466 => ((access_Minutes.f k (wrap64 (1 + t457)) bt462.1 bt462.2.1).bind fun bt468 => ((access_Reasons.f k bt436.1 bt440.1 1 t456).bind fun t470 => ((access_Reasons.f k bt436.1 y453 1 t456).bind fun t473 => (awardingbodylaw14_AccessGrows.l0 k (wrap64 (1 + t457)) bt458.2.2 bt462.2.2 bt466.1 bt466.2 bt468.1 bt468.2 t470 t473 0 bt458.1 bt458.2.1 bt462.1 bt462.2.1)))))))))) else (none)))) else (none)) else (none))))
theorem awardingbodylaw14_AccessGrows.mono_l : ∀ k, (∀ y0 y1 y2 y3 y4 y5 y6 y7 y8 y9 y10 y11 y12 y13, LeO (awardingbodylaw14_AccessGrows.l0 k y0 y1 y2 y3 y4 y5 y6 y7 y8 y9 y10 y11 y12 y13) (awardingbodylaw14_AccessGrows.l0 (k + 1) y0 y1 y2 y3 y4 y5 y6 y7 y8 y9 y10 y11 y12 y13))
  | 0 => fun _ _ _ _ _ _ _ _ _ _ _ _ _ _ r h => by simp [awardingbodylaw14_AccessGrows.l0] at h
  | k + 1 => by
    have ih0 := awardingbodylaw14_AccessGrows.mono_l k
    · intro y0 y1 y2 y3 y4 y5 y6 y7 y8 y9 y10 y11 y12 y13
      unfold awardingbodylaw14_AccessGrows.l0
      repeat' first
      | (with_reducible exact ih0 _ _ _ _ _ _ _ _ _ _ _ _ _ _)
      | (with_reducible exact access_Grant.mono _ _ _ _ _)
      | (with_reducible exact access_Minutes.mono _ _ _ _)
      | (with_reducible exact access_Reasons.mono _ _ _ _ _)
      | (with_reducible exact awardingbodylaw14_awake.mono _)
      | (with_reducible exact awardingbodymake_Tape_Evidence.mono _ _ _)
      | (with_reducible exact awardingbodymake_Tape_Rules.mono _ _ _ _)
      | (with_reducible exact awardingbodyref06_Has.mono _ _ _)
      | (with_reducible exact LeO.refl _)
      | (with_reducible exact LeO.none _)
      | (with_reducible refine LeO.ite ?_ ?_)
      | (with_reducible refine LeO.bind ?_ (fun _ => ?_))
      | exact ih0 _ _ _ _ _ _ _ _ _ _ _ _ _ _
      | exact access_Grant.mono _ _ _ _ _
      | exact access_Minutes.mono _ _ _ _
      | exact access_Reasons.mono _ _ _ _ _
      | exact awardingbodylaw14_awake.mono _
      | exact awardingbodymake_Tape_Evidence.mono _ _ _
      | exact awardingbodymake_Tape_Rules.mono _ _ _ _
      | exact awardingbodyref06_Has.mono _ _ _
      | exact LeO.none _
      | refine LeO.ite ?_ ?_
      | refine LeO.bind ?_ (fun _ => ?_)
theorem awardingbodylaw14_AccessGrows.mono : ∀ a0 a1 a2 k, LeO (awardingbodylaw14_AccessGrows.f k a0 a1 a2) (awardingbodylaw14_AccessGrows.f (k + 1) a0 a1 a2) := by
  intro a0 a1 a2 k
  have ih0 := awardingbodylaw14_AccessGrows.mono_l k
  unfold awardingbodylaw14_AccessGrows.f
  repeat' first
      | (with_reducible exact ih0 _ _ _ _ _ _ _ _ _ _ _ _ _ _)
      | (with_reducible exact access_Grant.mono _ _ _ _ _)
      | (with_reducible exact access_Minutes.mono _ _ _ _)
      | (with_reducible exact access_Reasons.mono _ _ _ _ _)
      | (with_reducible exact awardingbodylaw14_awake.mono _)
      | (with_reducible exact awardingbodymake_Tape_Evidence.mono _ _ _)
      | (with_reducible exact awardingbodymake_Tape_Rules.mono _ _ _ _)
      | (with_reducible exact awardingbodyref06_Has.mono _ _ _)
      | (with_reducible exact LeO.refl _)
      | (with_reducible exact LeO.none _)
      | (with_reducible refine LeO.ite ?_ ?_)
      | (with_reducible refine LeO.bind ?_ (fun _ => ?_))
      | exact ih0 _ _ _ _ _ _ _ _ _ _ _ _ _ _
      | exact access_Grant.mono _ _ _ _ _
      | exact access_Minutes.mono _ _ _ _
      | exact access_Reasons.mono _ _ _ _ _
      | exact awardingbodylaw14_awake.mono _
      | exact awardingbodymake_Tape_Evidence.mono _ _ _
      | exact awardingbodymake_Tape_Rules.mono _ _ _ _
      | exact awardingbodyref06_Has.mono _ _ _
      | exact LeO.none _
      | refine LeO.ite ?_ ?_
      | refine LeO.bind ?_ (fun _ => ?_)
def awardingbodylaw14_AccessGrows.T3 : Bool × List (List Nat × List Nat) := (true, [([], []), ([], []), ([1], [1]), ([], []), ([3], [3]), ([0, 2, 4], [0, 2, 4]), ([], []), ([6], [6]), ([5, 7, 7], [5, 7]), ([8, 8, 0, 1, 2, 3, 4, 5, 6, 7, 8], [8])])
def awardingbodylaw14_AccessGrows.B3 : List Nat := [0, 0, 2, 0, 8, 31, 0, 64, 255, 511]
theorem awardingbodylaw14_AccessGrows.tab3 : rtab .any (opsOf Try.f8 3) = awardingbodylaw14_AccessGrows.T3 := by kernel_rfl
theorem awardingbodylaw14_AccessGrows.bits3 : waitsOk awardingbodylaw14_AccessGrows.T3.2 awardingbodylaw14_AccessGrows.B3 = true := by kernel_rfl
set_option maxHeartbeats 8000000 in
set_option maxRecDepth 100000 in
theorem awardingbodylaw14_AccessGrows.calls (k : Nat) (A0 : Option Addr) (c0 : Nat) (l0 : List Int) (a1 : Int) (a2 : Int) (r : Bool) (w : World) (hr0 : Kd.C (Kd.int .i64) w A0 l0.length l0) (hc0 : l0.length ≤ c0) (h : awardingbodylaw14_AccessGrows.f k l0 a1 a2 = some r) :
    Calls Try.prog 8 #[.slice A0 l0.length c0, .int .i64 a1, .int .i64 a2] w fun e w' => e = .returned (.bool r) ∧ Below w.heap.size w w' := by
 have hu38 := Try.underlying38
 have HR0 := Aside0.mk hr0
 have HC0 := Aside0.mk hc0
 clear hr0 hc0
 have HB := Aside0.mk (Below.refl w.heap.size w)
 have H : ((awardingbodymake_New.f l0).bind fun bt433 => ((awardingbodymake_Tape_Rules.f k bt433.1 bt433.2 0).bind fun bt436 => ((awardingbodymake_Tape_Evidence.f k bt433.1 bt436.2).bind fun bt440 => (if 0 ≤ (bt440.1.length : Int) then (if (bt440.1.length : Int) ≤ (bt440.1.length : Int) then ((some (bt440.1.take ((bt440.1.length : Int) : Int).toNat : List (S49))).bind fun y444 => ((awardingbodymake_Tape_Evidence.f k bt433.1 bt440.2).bind fun bt449 => (if y444.length + bt449.1.length < 3518437208883 then ((some (y444 ++ bt449.1 : List (S49))).bind fun y453 => ((awardingbodymake_Cut.f a1 30).bind fun t456 => ((awardingbodymake_Cut.f a2 600).bind fun t457 => ((access_Grant.f k bt436.1 bt440.1 1 t456).bind fun bt458 => ((access_Grant.f k bt436.1 y453 1 t456).bind fun bt462 => ((access_Minutes.f k (wrap64 (1 + t457)) bt458.1 bt458.2.1).bind fun bt466 => ((access_Minutes.f k (wrap64 (1 + t457)) bt462.1 bt462.2.1).bind fun bt468 => ((access_Reasons.f k bt436.1 bt440.1 1 t456).bind fun t470 => ((access_Reasons.f k bt436.1 y453 1 t456).bind fun t473 => (awardingbodylaw14_AccessGrows.l0 k (wrap64 (1 + t457)) bt458.2.2 bt462.2.2 bt466.1 bt466.2 bt468.1 bt468.2 t470 t473 0 bt458.1 bt458.2.1 bt462.1 bt462.2.1)))))))))) else (none)))) else (none)) else (none))))) = some r := h
 clear h
 replace H := Option.bind_eq_some_iff.mp H
 obtain ⟨⟨t433, t434⟩, A40, H⟩ := H
 replace H : ((awardingbodymake_Tape_Rules.f k t433 t434 0).bind fun bt436 => ((awardingbodymake_Tape_Evidence.f k t433 bt436.2).bind fun bt440 => (if 0 ≤ (bt440.1.length : Int) then (if (bt440.1.length : Int) ≤ (bt440.1.length : Int) then ((some (bt440.1.take ((bt440.1.length : Int) : Int).toNat : List (S49))).bind fun y444 => ((awardingbodymake_Tape_Evidence.f k t433 bt440.2).bind fun bt449 => (if y444.length + bt449.1.length < 3518437208883 then ((some (y444 ++ bt449.1 : List (S49))).bind fun y453 => ((awardingbodymake_Cut.f a1 30).bind fun t456 => ((awardingbodymake_Cut.f a2 600).bind fun t457 => ((access_Grant.f k bt436.1 bt440.1 1 t456).bind fun bt458 => ((access_Grant.f k bt436.1 y453 1 t456).bind fun bt462 => ((access_Minutes.f k (wrap64 (1 + t457)) bt458.1 bt458.2.1).bind fun bt466 => ((access_Minutes.f k (wrap64 (1 + t457)) bt462.1 bt462.2.1).bind fun bt468 => ((access_Reasons.f k bt436.1 bt440.1 1 t456).bind fun t470 => ((access_Reasons.f k bt436.1 y453 1 t456).bind fun t473 => (awardingbodylaw14_AccessGrows.l0 k (wrap64 (1 + t457)) bt458.2.2 bt462.2.2 bt466.1 bt466.2 bt468.1 bt468.2 t470 t473 0 bt458.1 bt458.2.1 bt462.1 bt462.2.1)))))))))) else (none)))) else (none)) else (none)))) = some r := H
 have A4 := Aside0.mk A40
 clear A40
 replace H := Option.bind_eq_some_iff.mp H
 obtain ⟨⟨t436, t439⟩, A50, H⟩ := H
 replace H : ((awardingbodymake_Tape_Evidence.f k t433 t439).bind fun bt440 => (if 0 ≤ (bt440.1.length : Int) then (if (bt440.1.length : Int) ≤ (bt440.1.length : Int) then ((some (bt440.1.take ((bt440.1.length : Int) : Int).toNat : List (S49))).bind fun y444 => ((awardingbodymake_Tape_Evidence.f k t433 bt440.2).bind fun bt449 => (if y444.length + bt449.1.length < 3518437208883 then ((some (y444 ++ bt449.1 : List (S49))).bind fun y453 => ((awardingbodymake_Cut.f a1 30).bind fun t456 => ((awardingbodymake_Cut.f a2 600).bind fun t457 => ((access_Grant.f k t436 bt440.1 1 t456).bind fun bt458 => ((access_Grant.f k t436 y453 1 t456).bind fun bt462 => ((access_Minutes.f k (wrap64 (1 + t457)) bt458.1 bt458.2.1).bind fun bt466 => ((access_Minutes.f k (wrap64 (1 + t457)) bt462.1 bt462.2.1).bind fun bt468 => ((access_Reasons.f k t436 bt440.1 1 t456).bind fun t470 => ((access_Reasons.f k t436 y453 1 t456).bind fun t473 => (awardingbodylaw14_AccessGrows.l0 k (wrap64 (1 + t457)) bt458.2.2 bt462.2.2 bt466.1 bt466.2 bt468.1 bt468.2 t470 t473 0 bt458.1 bt458.2.1 bt462.1 bt462.2.1)))))))))) else (none)))) else (none)) else (none))) = some r := H
 have A5 := Aside0.mk A50
 clear A50
 replace H := Option.bind_eq_some_iff.mp H
 obtain ⟨⟨t440, t443⟩, A60, H⟩ := H
 replace H : (if 0 ≤ (t440.length : Int) then (if (t440.length : Int) ≤ (t440.length : Int) then ((some (t440.take ((t440.length : Int) : Int).toNat : List (S49))).bind fun y444 => ((awardingbodymake_Tape_Evidence.f k t433 t443).bind fun bt449 => (if y444.length + bt449.1.length < 3518437208883 then ((some (y444 ++ bt449.1 : List (S49))).bind fun y453 => ((awardingbodymake_Cut.f a1 30).bind fun t456 => ((awardingbodymake_Cut.f a2 600).bind fun t457 => ((access_Grant.f k t436 t440 1 t456).bind fun bt458 => ((access_Grant.f k t436 y453 1 t456).bind fun bt462 => ((access_Minutes.f k (wrap64 (1 + t457)) bt458.1 bt458.2.1).bind fun bt466 => ((access_Minutes.f k (wrap64 (1 + t457)) bt462.1 bt462.2.1).bind fun bt468 => ((access_Reasons.f k t436 t440 1 t456).bind fun t470 => ((access_Reasons.f k t436 y453 1 t456).bind fun t473 => (awardingbodylaw14_AccessGrows.l0 k (wrap64 (1 + t457)) bt458.2.2 bt462.2.2 bt466.1 bt466.2 bt468.1 bt468.2 t470 t473 0 bt458.1 bt458.2.1 bt462.1 bt462.2.1)))))))))) else (none)))) else (none)) else (none)) = some r := H
 have A6 := Aside0.mk A60
 clear A60
 by_cases c7 : 0 ≤ (t440.length : Int)
 ·rw [if_pos c7] at H
  have c7b0 := eq_true c7
  have c7b1 : decide (0 ≤ (t440.length : Int)) = true := decide_eq_true c7
  clear c7
  by_cases c8 : (t440.length : Int) ≤ (t440.length : Int)
  ·rw [if_pos c8] at H
   have c8b0 := eq_true c8
   have c8b1 : decide ((t440.length : Int) ≤ (t440.length : Int)) = true := decide_eq_true c8
   clear c8
   obtain ⟨y444, hy444⟩ : ∃ y_ : List (S49), y_ = (t440.take ((t440.length : Int) : Int).toNat) := ⟨_, rfl⟩
   replace H : ((awardingbodymake_Tape_Evidence.f k t433 t443).bind fun bt449 => (if y444.length + bt449.1.length < 3518437208883 then ((some (y444 ++ bt449.1 : List (S49))).bind fun y453 => ((awardingbodymake_Cut.f a1 30).bind fun t456 => ((awardingbodymake_Cut.f a2 600).bind fun t457 => ((access_Grant.f k t436 t440 1 t456).bind fun bt458 => ((access_Grant.f k t436 y453 1 t456).bind fun bt462 => ((access_Minutes.f k (wrap64 (1 + t457)) bt458.1 bt458.2.1).bind fun bt466 => ((access_Minutes.f k (wrap64 (1 + t457)) bt462.1 bt462.2.1).bind fun bt468 => ((access_Reasons.f k t436 t440 1 t456).bind fun t470 => ((access_Reasons.f k t436 y453 1 t456).bind fun t473 => (awardingbodylaw14_AccessGrows.l0 k (wrap64 (1 + t457)) bt458.2.2 bt462.2.2 bt466.1 bt466.2 bt468.1 bt468.2 t470 t473 0 bt458.1 bt458.2.1 bt462.1 bt462.2.1)))))))))) else (none))) = some r := by first | (rw [hy444]; with_reducible exact H) | (have H2_ := (Option.bind_some _ _).symm.trans H; rw [hy444]; with_reducible exact H2_) | (have H2_ := (Option.bind_some _ _).symm.trans H; with_reducible exact H2_) | with_reducible exact H | (rw [hy444]; exact H) | exact H
   have Ny444 := Aside0.mk hy444
   clear hy444
   replace H := Option.bind_eq_some_iff.mp H
   obtain ⟨⟨t449, t452⟩, A90, H⟩ := H
   replace H : (if y444.length + t449.length < 3518437208883 then ((some (y444 ++ t449 : List (S49))).bind fun y453 => ((awardingbodymake_Cut.f a1 30).bind fun t456 => ((awardingbodymake_Cut.f a2 600).bind fun t457 => ((access_Grant.f k t436 t440 1 t456).bind fun bt458 => ((access_Grant.f k t436 y453 1 t456).bind fun bt462 => ((access_Minutes.f k (wrap64 (1 + t457)) bt458.1 bt458.2.1).bind fun bt466 => ((access_Minutes.f k (wrap64 (1 + t457)) bt462.1 bt462.2.1).bind fun bt468 => ((access_Reasons.f k t436 t440 1 t456).bind fun t470 => ((access_Reasons.f k t436 y453 1 t456).bind fun t473 => (awardingbodylaw14_AccessGrows.l0 k (wrap64 (1 + t457)) bt458.2.2 bt462.2.2 bt466.1 bt466.2 bt468.1 bt468.2 t470 t473 0 bt458.1 bt458.2.1 bt462.1 bt462.2.1)))))))))) else (none)) = some r := H
   have A9 := Aside0.mk A90
   clear A90
   by_cases c10 : y444.length + t449.length < 3518437208883
   ·rw [if_pos c10] at H
    have LMc10 := Aside0.mk c10
    clear c10
    obtain ⟨y453, hy453⟩ : ∃ y_ : List (S49), y_ = (y444 ++ t449) := ⟨_, rfl⟩
    replace H : ((awardingbodymake_Cut.f a1 30).bind fun t456 => ((awardingbodymake_Cut.f a2 600).bind fun t457 => ((access_Grant.f k t436 t440 1 t456).bind fun bt458 => ((access_Grant.f k t436 y453 1 t456).bind fun bt462 => ((access_Minutes.f k (wrap64 (1 + t457)) bt458.1 bt458.2.1).bind fun bt466 => ((access_Minutes.f k (wrap64 (1 + t457)) bt462.1 bt462.2.1).bind fun bt468 => ((access_Reasons.f k t436 t440 1 t456).bind fun t470 => ((access_Reasons.f k t436 y453 1 t456).bind fun t473 => (awardingbodylaw14_AccessGrows.l0 k (wrap64 (1 + t457)) bt458.2.2 bt462.2.2 bt466.1 bt466.2 bt468.1 bt468.2 t470 t473 0 bt458.1 bt458.2.1 bt462.1 bt462.2.1))))))))) = some r := by first | (rw [hy453]; with_reducible exact H) | (have H2_ := (Option.bind_some _ _).symm.trans H; rw [hy453]; with_reducible exact H2_) | (have H2_ := (Option.bind_some _ _).symm.trans H; with_reducible exact H2_) | with_reducible exact H | (rw [hy453]; exact H) | exact H
    have Ny453 := Aside0.mk hy453
    clear hy453
    replace H := Option.bind_eq_some_iff.mp H
    obtain ⟨t456, A110, H⟩ := H
    replace H : ((awardingbodymake_Cut.f a2 600).bind fun t457 => ((access_Grant.f k t436 t440 1 t456).bind fun bt458 => ((access_Grant.f k t436 y453 1 t456).bind fun bt462 => ((access_Minutes.f k (wrap64 (1 + t457)) bt458.1 bt458.2.1).bind fun bt466 => ((access_Minutes.f k (wrap64 (1 + t457)) bt462.1 bt462.2.1).bind fun bt468 => ((access_Reasons.f k t436 t440 1 t456).bind fun t470 => ((access_Reasons.f k t436 y453 1 t456).bind fun t473 => (awardingbodylaw14_AccessGrows.l0 k (wrap64 (1 + t457)) bt458.2.2 bt462.2.2 bt466.1 bt466.2 bt468.1 bt468.2 t470 t473 0 bt458.1 bt458.2.1 bt462.1 bt462.2.1)))))))) = some r := H
    have A11 := Aside0.mk A110
    clear A110
    replace H := Option.bind_eq_some_iff.mp H
    obtain ⟨t457, A120, H⟩ := H
    replace H : ((access_Grant.f k t436 t440 1 t456).bind fun bt458 => ((access_Grant.f k t436 y453 1 t456).bind fun bt462 => ((access_Minutes.f k (wrap64 (1 + t457)) bt458.1 bt458.2.1).bind fun bt466 => ((access_Minutes.f k (wrap64 (1 + t457)) bt462.1 bt462.2.1).bind fun bt468 => ((access_Reasons.f k t436 t440 1 t456).bind fun t470 => ((access_Reasons.f k t436 y453 1 t456).bind fun t473 => (awardingbodylaw14_AccessGrows.l0 k (wrap64 (1 + t457)) bt458.2.2 bt462.2.2 bt466.1 bt466.2 bt468.1 bt468.2 t470 t473 0 bt458.1 bt458.2.1 bt462.1 bt462.2.1))))))) = some r := H
    have A12 := Aside0.mk A120
    clear A120
    replace H := Option.bind_eq_some_iff.mp H
    obtain ⟨⟨t458, t459, t460⟩, A130, H⟩ := H
    replace H : ((access_Grant.f k t436 y453 1 t456).bind fun bt462 => ((access_Minutes.f k (wrap64 (1 + t457)) t458 t459).bind fun bt466 => ((access_Minutes.f k (wrap64 (1 + t457)) bt462.1 bt462.2.1).bind fun bt468 => ((access_Reasons.f k t436 t440 1 t456).bind fun t470 => ((access_Reasons.f k t436 y453 1 t456).bind fun t473 => (awardingbodylaw14_AccessGrows.l0 k (wrap64 (1 + t457)) t460 bt462.2.2 bt466.1 bt466.2 bt468.1 bt468.2 t470 t473 0 t458 t459 bt462.1 bt462.2.1)))))) = some r := H
    have A13 := Aside0.mk A130
    clear A130
    replace H := Option.bind_eq_some_iff.mp H
    obtain ⟨⟨t462, t463, t464⟩, A140, H⟩ := H
    replace H : ((access_Minutes.f k (wrap64 (1 + t457)) t458 t459).bind fun bt466 => ((access_Minutes.f k (wrap64 (1 + t457)) t462 t463).bind fun bt468 => ((access_Reasons.f k t436 t440 1 t456).bind fun t470 => ((access_Reasons.f k t436 y453 1 t456).bind fun t473 => (awardingbodylaw14_AccessGrows.l0 k (wrap64 (1 + t457)) t460 t464 bt466.1 bt466.2 bt468.1 bt468.2 t470 t473 0 t458 t459 t462 t463))))) = some r := H
    have A14 := Aside0.mk A140
    clear A140
    replace H := Option.bind_eq_some_iff.mp H
    obtain ⟨⟨t466, t467⟩, A150, H⟩ := H
    replace H : ((access_Minutes.f k (wrap64 (1 + t457)) t462 t463).bind fun bt468 => ((access_Reasons.f k t436 t440 1 t456).bind fun t470 => ((access_Reasons.f k t436 y453 1 t456).bind fun t473 => (awardingbodylaw14_AccessGrows.l0 k (wrap64 (1 + t457)) t460 t464 t466 t467 bt468.1 bt468.2 t470 t473 0 t458 t459 t462 t463)))) = some r := H
    have A15 := Aside0.mk A150
    clear A150
    replace H := Option.bind_eq_some_iff.mp H
    obtain ⟨⟨t468, t469⟩, A160, H⟩ := H
    replace H : ((access_Reasons.f k t436 t440 1 t456).bind fun t470 => ((access_Reasons.f k t436 y453 1 t456).bind fun t473 => (awardingbodylaw14_AccessGrows.l0 k (wrap64 (1 + t457)) t460 t464 t466 t467 t468 t469 t470 t473 0 t458 t459 t462 t463))) = some r := H
    have A16 := Aside0.mk A160
    clear A160
    replace H := Option.bind_eq_some_iff.mp H
    obtain ⟨t470, A170, H⟩ := H
    replace H : ((access_Reasons.f k t436 y453 1 t456).bind fun t473 => (awardingbodylaw14_AccessGrows.l0 k (wrap64 (1 + t457)) t460 t464 t466 t467 t468 t469 t470 t473 0 t458 t459 t462 t463)) = some r := H
    have A17 := Aside0.mk A170
    clear A170
    replace H := Option.bind_eq_some_iff.mp H
    obtain ⟨t473, A180, H⟩ := H
    replace H : (awardingbodylaw14_AccessGrows.l0 k (wrap64 (1 + t457)) t460 t464 t466 t467 t468 t469 t470 t473 0 t458 t459 t462 t463) = some r := H
    have A18 := Aside0.mk A180
    clear A180
    have H' := Aside0.mk H
    clear H
    go_enter Try.func8, Try.ntmps8
    try go_wp2_with (first | ((with_reducible refine gate_callee (f := 12) rfl ?_); refine goesL_ (some 23) rfl rfl Try.func12 (by kernel_rfl) rfl #[.slice A0 l0.length c0] rfl (by (try simp only [List.map_toArray, List.map_cons, List.map_nil]); first | done | rfl | (simp only [List.length_drop, List.length_take]; rfl)) ?_; (with_reducible refine (awardingbodymake_New.calls _ _ l0 t433 t434 w _ ?side1 ?side2 ?side3 A4.out).mono ?_); (case side1 => repeat (first | (with_reducible first | exact HB.out | apply below_alloc | apply pw_below_drewN | apply below_drew1) | exact HB.out)); (case side2 => exact HR0.out); (case side3 => exact HC0.out); rintro e w19 ⟨g435, rfl, hi, hb, hb2⟩; refine ⟨_, rfl, ?_⟩; have n0_ := Aside0.mk (hb); have n1_ := Aside0.mk (hi); clear HB; have HB := n0_; have HI435 := n1_; clear n0_ n1_; (try clear hb); (try clear hb2); (try clear hk); (try clear hi)) | ((with_reducible refine gate_callee (f := 13) rfl ?_); refine goesL_ (some 25) rfl rfl Try.func13 (by kernel_rfl) rfl #[.pointer (some ⟨g435, 0, none⟩), .int .i64 0] rfl (by (try simp only [List.map_toArray, List.map_cons, List.map_nil]); first | done | rfl | (simp only [List.length_drop, List.length_take]; rfl)) ?_; (with_reducible refine (awardingbodymake_Tape_Rules.calls k g435 t433 t434 0 t436 t439 w _ ?side1 ?side2 A5.out).mono ?_); (case side1 => repeat (first | (with_reducible first | exact HI435.out | apply IsS57.alloc | apply IsS57.drewN | apply IsS57.drew | apply IsS57.set_1) | exact HI435.out)); (case side2 => repeat (first | (with_reducible first | exact HB.out | apply below_alloc | apply pw_below_drewN | apply below_drew1 | refine below_set ?_ (IsS57.ge HI435.out)) | exact HB.out)); rintro e w20 ⟨v437, rfl, ho0, hi, hb, hk⟩; refine ⟨_, rfl, ?_⟩; have n0_ := Aside0.mk (Kd.R_lower ho0 (below_size (by repeat (first | (with_reducible first | exact HB.out | apply below_alloc | apply pw_below_drewN | apply below_drew1 | refine below_set ?_ (IsS57.ge HI435.out)) | exact HB.out)))); have n1_ := Aside0.mk (hb); have n2_ := Aside0.mk (hi); clear HB HI435; have HO438 := n0_; have HB := n1_; have HI435 := n2_; clear n0_ n1_ n2_; (try clear hb); (try clear hb2); (try clear hk); (try clear hi); (try clear ho0)) | ((with_reducible refine gate_callee (f := 18) rfl ?_); refine goesL_ (some 27) rfl rfl Try.func18 (by kernel_rfl) rfl #[.pointer (some ⟨g435, 0, none⟩)] rfl (by (try simp only [List.map_toArray, List.map_cons, List.map_nil]); first | done | rfl | (simp only [List.length_drop, List.length_take]; rfl)) ?_; (with_reducible refine (awardingbodymake_Tape_Evidence.calls k g435 t433 t439 t440 t443 w _ ?side1 ?side2 A6.out).mono ?_); (case side1 => repeat (first | (with_reducible first | exact HI435.out | apply IsS57.alloc | apply IsS57.drewN | apply IsS57.drew | apply IsS57.set_1) | exact HI435.out)); (case side2 => repeat (first | (with_reducible first | exact HB.out | apply below_alloc | apply pw_below_drewN | apply below_drew1 | refine below_set ?_ (IsS57.ge HI435.out)) | exact HB.out)); rintro e w21 ⟨v441, rfl, ho0, hi, hb, hk⟩; refine ⟨_, rfl, ?_⟩; have n0_ := Aside0.mk (Kd.R_mono (Kd.R_keep (IsS57.apart (show IsS57 w _ g435 t433 t439 from by repeat (first | (with_reducible first | exact HI435.out | apply IsS57.alloc | apply IsS57.drewN | apply IsS57.drew | apply IsS57.set_1) | exact HI435.out)) (by (with_reducible repeat (first | apply Kd.R_alloc | apply Kd.R_drewN | apply Kd.R_drew)); exact HO438.out) (by decide)) hk (fun _ h => h.2)) (fun _ h => h.1)); have n1_ := Aside0.mk (Kd.R_lower ho0 (below_size (by repeat (first | (with_reducible first | exact HB.out | apply below_alloc | apply pw_below_drewN | apply below_drew1 | refine below_set ?_ (IsS57.ge HI435.out)) | exact HB.out)))); have n2_ := Aside0.mk (hb); have n3_ := Aside0.mk (hi); clear HO438 HB HI435; have HO438 := n0_; have HO442 := n1_; have HB := n2_; have HI435 := n3_; clear n0_ n1_ n2_ n3_; (try clear hb); (try clear hb2); (try clear hk); (try clear hi); (try clear ho0)))
    have n0_ := Aside0.mk (Kd.R_drew HO438.out)
    have n1_ := Aside0.mk (Kd.R_drew HO442.out)
    have n2_ := Aside0.mk (IsS57.drew HI435.out)
    have n3_ := Aside0.mk (below_drew1 HB.out)
    clear HO438 HO442 HI435 HB
    have HO438 := n0_
    have HO442 := n1_
    have HI435 := n2_
    have HB := n3_
    clear n0_ n1_ n2_ n3_
    obtain ⟨Ao23, co23, eo23⟩ := Kd.R_slice HO442.out
    (first | subst eo23 | (injection eo23 with f1_ f2_ f3_; have f4_ := f1_.symm; have f5_ := f3_.symm; clear f1_ f2_ f3_; subst f4_; subst f5_))
    have q24 : ((t440.length : Int) : Int) ≤ ((t440.length : Int) : Int) := of_decide_eq_true (by first | (with_reducible assumption) | assumption)
    obtain ⟨i024, hi024, _, hsz24, _⟩ := info_parts info49
    have hroom24 : t440.length ≤ co23 := (Kd.R_reads' HO442.out).2.1
    have hC24 : Kd.F k49 _ _ Ao23 t440.length t440 := (Kd.V_at (base := w.heap.size) (Kd.R_V (IsS57.apart HI435.out (Kd.R_apart' (HO442.out) (Kd.R_typed HO438.out) (by decide)) (by decide)))).2.2
    have hcut24 := clip_to (P := Try.prog) 35 49 .i64 .i64 Try.underlying35 hi024 Ao23 t440.length co23 (t440.length : Int) (of_decide_eq_true (by first | (with_reducible assumption) | assumption)) q24 hroom24
    have hr24 := Kd.F_take (m := ((t440.length : Int) : Int).toNat) hC24 (by omega)
    have hy24 : y444.length = ((t440.length : Int) : Int).toNat := (by rw [Ny444.out, List.length_take]; omega)
    rw [← Ny444.out] at hr24
    rw [← hy24] at hcut24
    have HO448 := Aside0.mk (show Kd.V k49 49 _ w.heap.size _ (.slice Ao23 y444.length y444.length) y444 from Kd.V_mk (Nat.le_refl _) hr24)
    have HC448 := Aside0.mk (Nat.le_refl y444.length)
    clear hr24 hC24 hroom24 hi024 hsz24
    have KY24 := Aside0.mk hy24
    clear hy24
    replace q24 := eq_true q24
    refine start_ (n := 10) (S := fun w' => True) (ds := []) #[false, false, false, false, false, false, false, false, false, false] (by kernel_rfl) rfl rfl trivial (fun hHeld => ?_); refine with_tabW awardingbodylaw14_AccessGrows.tab3 awardingbodylaw14_AccessGrows.bits3 (fun HT_ HW_ => ?_)
    generalize w21.drew = w22 at HO438 HO442 HI435 HB HO448 hHeld ⊢
    refine pure_ (i := 0) (N := some 28) (v := ?_) (a' := ?_) #[true, false, false, false, false, false, false, false, false, false] rfl rfl (any_of HT_.out (by kernel_rfl)) (fun _ _ _ h => h) (Or.inl ⟨by rfl, ?_⟩) ?_ ?_
    rotate_left
    ·intro w'
     go_simp
     with_reducible rfl
    rotate_left
    ·simp only [Act.put, List.setIfInBounds_toArray, List.set_cons_zero, List.set_cons_succ, i64_w, i32_w]
     rfl
    refine pure_ (i := 1) (N := some 29) (v := ?_) (a' := ?_) #[true, true, false, false, false, false, false, false, false, false] rfl rfl (any_of HT_.out (by kernel_rfl)) (fun _ _ _ h => h) (Or.inl ⟨by rfl, ?_⟩) ?_ ?_
    rotate_left
    ·intro w'
     go_simp
     with_reducible rfl
    rotate_left
    ·simp only [Act.put, List.setIfInBounds_toArray, List.set_cons_zero, List.set_cons_succ, i64_w, i32_w]
     rfl
    refine pure_ (i := 2) (N := some 30) (v := ?_) (a' := ?_) #[true, true, true, false, false, false, false, false, false, false] rfl rfl (any_of HT_.out (by kernel_rfl)) (fun _ _ _ h => h) (Or.inl ⟨by rfl, ?_⟩) ?_ ?_
    rotate_left
    ·intro w'
     go_simp
     with_reducible rfl
    rotate_left
    ·simp only [Act.put, List.setIfInBounds_toArray, List.set_cons_zero, List.set_cons_succ, i64_w, i32_w]
     rfl
    refine pure_ (i := 3) (N := some 31) (v := ?_) (a' := ?_) #[true, true, true, true, false, false, false, false, false, false] rfl rfl (any_of HT_.out (by kernel_rfl)) (fun _ _ _ h => h) (Or.inl ⟨by rfl, ?_⟩) ?_ ?_
    rotate_left
    ·intro w'
     go_simp
     with_reducible rfl
    rotate_left
    ·simp only [Act.put, List.setIfInBounds_toArray, List.set_cons_zero, List.set_cons_succ, i64_w, i32_w]
     rfl
    refine pure_ (i := 4) (N := some 32) (v := ?_) (a' := ?_) #[true, true, true, true, true, false, false, false, false, false] rfl rfl (any_of HT_.out (by kernel_rfl)) (fun _ _ _ h => h) (Or.inl ⟨by rfl, ?_⟩) ?_ ?_
    rotate_left
    ·intro w'
     go_simp
     with_reducible rfl
    rotate_left
    ·simp only [Act.put, List.setIfInBounds_toArray, List.set_cons_zero, List.set_cons_succ, i64_w, i32_w]
     rfl
    refine pure_ (i := 5) (N := some 33) (v := ?_) (a' := ?_) #[true, true, true, true, true, true, false, false, false, false] rfl rfl (any_of HT_.out (by kernel_rfl)) (fun _ _ _ h => h) (Or.inl ⟨by rfl, ?_⟩) ?_ ?_
    rotate_left
    ·intro w'
     go_simp
     with_reducible rfl
    rotate_left
    ·simp only [Act.put, List.setIfInBounds_toArray, List.set_cons_zero, List.set_cons_succ, i64_w, i32_w]
     rfl
    refine pure_ (i := 6) (N := some 34) (v := ?_) (a' := ?_) #[true, true, true, true, true, true, true, false, false, false] rfl rfl (any_of HT_.out (by kernel_rfl)) (fun _ _ _ h => h) (Or.inl ⟨by rfl, ?_⟩) ?_ ?_
    rotate_left
    ·intro w'
     go_simp
     with_reducible rfl
    rotate_left
    ·simp only [Act.put, List.setIfInBounds_toArray, List.set_cons_zero, List.set_cons_succ, i64_w, i32_w]
     rfl
    refine one_ (i := 7) (N := some 35) #[true, true, true, true, true, true, true, true, false, false] rfl rfl (one_of HT_.out (by kernel_rfl)) (by decide) (fun K hK => ?_)
    refine goes_ Try.func18 (by kernel_rfl) rfl #[.pointer (some ⟨g435, 0, none⟩)] (by rfl) rfl rfl (by (try simp only [List.map_toArray, List.map_cons, List.map_nil]); first | done | rfl | (simp only [List.length_drop, List.length_take]; rfl)) ?_
    with_reducible refine (awardingbodymake_Tape_Evidence.calls k g435 t433 t443 t449 t452 w _ ?side1 ?side2 A9.out).mono ?_
    (case side1 => repeat (first | (with_reducible first | exact HI435.out | apply IsS57.alloc | apply IsS57.drewN | apply IsS57.drew | apply IsS57.set_1) | exact HI435.out))
    (case side2 => repeat (first | (with_reducible first | exact HB.out | apply below_alloc | apply pw_below_drewN | apply below_drew1 | refine below_set ?_ (IsS57.ge HI435.out)) | exact HB.out))
    rintro e w25 ⟨v450, rfl, ho0, hi, hb, hk⟩
    refine ⟨_, rfl, ?_⟩
    have n0_ := Aside0.mk (Kd.R_mono (Kd.R_keep (IsS57.apart (show IsS57 w _ g435 t433 t443 from by repeat (first | (with_reducible first | exact HI435.out | apply IsS57.alloc | apply IsS57.drewN | apply IsS57.drew | apply IsS57.set_1) | exact HI435.out)) (by (with_reducible repeat (first | apply Kd.R_alloc | apply Kd.R_drewN | apply Kd.R_drew)); exact HO438.out) (by decide)) hk (fun _ h => h.2)) (fun _ h => h.1))
    have n1_ := Aside0.mk (Kd.R_mono (Kd.R_told (Kd.R_oldK (IsS57.apart (show IsS57 w _ g435 t433 t443 from by repeat (first | (with_reducible first | exact HI435.out | apply IsS57.alloc | apply IsS57.drewN | apply IsS57.drew | apply IsS57.set_1) | exact HI435.out)) (by (with_reducible repeat (first | apply Kd.R_alloc | apply Kd.R_drewN | apply Kd.R_drew)); exact HO442.out) (by decide)) hk) (Kd.R_base ho0)) (fun _ h_ => h_.1))
    have n2_ := Aside0.mk (Kd.V_mono (Kd.V_told (Kd.V_oldK (Kd.V_mono (ok := fun k_ => ((True ∧ some k_ ≠ (v437 : Value).ownBlock) ∧ k_ ≠ g435)) (by (with_reducible repeat (first | apply Kd.V_alloc | apply Kd.V_drewN | apply Kd.V_drew)); exact HO448.out) (fun k_ hk_ => (⟨hk_, hk_.2⟩ : _ ∧ k_ ≠ g435))) hk) (Kd.R_base ho0)) (fun _ h_ => h_.1))
    have n3_ := Aside0.mk (Kd.R_lower (Kd.R_new' ho0 (Kd.R_lt (by (with_reducible repeat (first | apply Kd.R_alloc | apply Kd.R_drewN | apply Kd.R_drew)); exact HO442.out))) (below_size (by repeat (first | (with_reducible first | exact HB.out | apply below_alloc | apply pw_below_drewN | apply below_drew1 | refine below_set ?_ (IsS57.ge HI435.out)) | exact HB.out))))
    have n4_ := Aside0.mk (hb)
    have n5_ := Aside0.mk (hi)
    clear HO438 HO442 HO448 HB HI435
    have HO438 := n0_
    have HO442 := n1_
    have HO448 := n2_
    have HO451 := n3_
    have HB := n4_
    have HI435 := n5_
    clear n0_ n1_ n2_ n3_ n4_ n5_
    (try clear hb)
    (try clear hb2)
    (try clear hk)
    (try clear hi)
    (try clear ho0)
    obtain ⟨Ao27, co27, eo27⟩ := Kd.R_slice HO451.out
    (first | subst eo27 | (injection eo27 with f1_ f2_ f3_; have f4_ := f1_.symm; have f5_ := f3_.symm; clear f1_ f2_ f3_; subst f4_; subst f5_))
    refine hK.out _ _ trivial (fun hHeld => ?_)
    clear hK K
    refine norm_ (a' := ?_) ?_ ?_
    rotate_left
    ·show Act.put _ (some 35) _ = _
     simp only [Act.put, List.setIfInBounds_toArray, List.set_cons_zero, List.set_cons_succ, i64_w, i32_w]
     rfl
    refine one_ (i := 8) (N := some 36) #[true, true, true, true, true, true, true, true, true, false] rfl rfl (one_of HT_.out (by kernel_rfl)) (by decide) (fun K hK => ?_)
    refine Kd.clip_append_step k49 (base := w.heap.size) (by rfl) (.tmp 33) (.tmp 35) 35 49 (.agg #[(.int .i64 0), (.int .i64 0), (.int .i64 0), (.int .i64 0), (.int .i64 0)]) 40 rfl Try.underlying35 info49 rfl (by decide) (by omega) Ao23 y444 t449 _ _ _ (fun k_ => some k_ ≠ (v437 : Value).ownBlock ∧ some k_ ≠ (.slice Ao27 t449.length co27 : Value).ownBlock ∧ k_ ≠ g435) rfl rfl ?aZ ?aR (fun _ _ h => h) (fun _ _ h => h) (fun k_ hk => ⟨Kd.fresh' (Kd.R_lt (by (with_reducible repeat (first | apply Kd.R_alloc | apply Kd.R_drewN | apply Kd.R_drew)); exact HO438.out)) k_ hk, Kd.fresh' (Kd.R_lt (by (with_reducible repeat (first | apply Kd.R_alloc | apply Kd.R_drewN | apply Kd.R_drew)); exact HO451.out)) k_ hk, IsS57.fresh (by repeat (first | (with_reducible first | exact HI435.out | apply IsS57.alloc | apply IsS57.drewN | apply IsS57.drew | apply IsS57.set_1) | exact HI435.out)) k_ hk⟩) ?aL ?_
    (case aZ => exact (by (with_reducible repeat (first | apply Kd.V_alloc | apply Kd.V_drewN | apply Kd.V_drew)); exact Kd.V_mono HO448.out (fun _ hk => ⟨hk.1.1.2, ⟨hk.2, hk.1.2⟩⟩)))
    (case aR => repeat (first | exact (Kd.R_reads' HO451.out).2.2 | (with_reducible refine Kd.C_alloc ?_ _) | (with_reducible refine Kd.C_drewN ?_ _) | (with_reducible refine Kd.C_drew ?_)))
    (case aL => have := LMc10.out; omega)
    intro v454 w26 ho hb
    rw [← Ny453.out] at ho
    have n0_ := Aside0.mk (Kd.R_below (by (with_reducible repeat (first | apply Kd.R_alloc | apply Kd.R_drewN | apply Kd.R_drew)); exact HO438.out) hb)
    have n1_ := Aside0.mk (Kd.R_below (by (with_reducible repeat (first | apply Kd.R_alloc | apply Kd.R_drewN | apply Kd.R_drew)); exact HO442.out) hb)
    have n2_ := Aside0.mk (Kd.V_below (by (with_reducible repeat (first | apply Kd.V_alloc | apply Kd.V_drewN | apply Kd.V_drew)); exact HO448.out) hb)
    have n3_ := Aside0.mk (Kd.R_below (by (with_reducible repeat (first | apply Kd.R_alloc | apply Kd.R_drewN | apply Kd.R_drew)); exact HO451.out) hb)
    have n4_ := Aside0.mk (IsS57.below (by repeat (first | (with_reducible first | exact HI435.out | apply IsS57.alloc | apply IsS57.drewN | apply IsS57.drew | apply IsS57.set_1) | exact HI435.out)) hb)
    have n5_ := Aside0.mk (below_step (by repeat (first | (with_reducible first | exact HB.out | apply below_alloc | apply pw_below_drewN | apply below_drew1 | refine below_set ?_ (IsS57.ge HI435.out)) | exact HB.out)) hb)
    have n6_ := Aside0.mk (ho)
    clear HO438 HO442 HO448 HO451 HI435 HB
    have HO438 := n0_
    have HO442 := n1_
    have HO448 := n2_
    have HO451 := n3_
    have HI435 := n4_
    have HB := n5_
    have HO455 := n6_
    clear n0_ n1_ n2_ n3_ n4_ n5_ n6_ ho hb
    refine hK.out _ _ trivial (fun hHeld => ?_)
    clear hK K
    refine norm_ (a' := ?_) ?_ ?_
    rotate_left
    ·show Act.put _ (some 36) _ = _
     simp only [Act.put, List.setIfInBounds_toArray, List.set_cons_zero, List.set_cons_succ, i64_w, i32_w]
     rfl
    refine pure_ (i := 9) (N := some 10) (v := ?_) (a' := ?_) #[true, true, true, true, true, true, true, true, true, true] rfl rfl (any_of HT_.out (by kernel_rfl)) (fun _ _ _ h => h) (Or.inl ⟨by rfl, ?_⟩) ?_ ?_
    rotate_left
    ·intro w'
     go_simp
     with_reducible rfl
    rotate_left
    ·simp only [Act.put, List.setIfInBounds_toArray, List.set_cons_zero, List.set_cons_succ, i64_w, i32_w]
     rfl
    refine done_ (done_of HT_.out (by kernel_rfl)) ?_
    try go_wp2_with (first | ((with_reducible refine gate_callee (f := 17) rfl ?_); refine goesL_ (some 38) rfl rfl Try.func17 (by kernel_rfl) rfl #[.int .i64 a1, .int .i64 30] rfl (by (try simp only [List.map_toArray, List.map_cons, List.map_nil]); first | done | rfl | (simp only [List.length_drop, List.length_take]; rfl)) ?_; (with_reducible refine (awardingbodymake_Cut.calls a1 30 t456 _ A11.out).mono ?_); rintro e w' ⟨rfl, ⟨nd, rfl⟩⟩; refine ⟨_, rfl, ?_⟩; (try (rw [drewN_self w26]; generalize hq_ : World.drewN w26 _ = w26; have n0_ : Aside0 (Kd.R k28 28 w26 w.heap.size (fun _ => True) v437 t436) := ⟨by rw [← hq_]; exact (by (with_reducible repeat (first | apply Kd.R_alloc | apply Kd.R_drewN | apply Kd.R_drew)); exact HO438.out)⟩; have n1_ : Aside0 (Kd.R k49 49 w26 w.heap.size (fun k_ => some k_ ≠ (.slice Ao27 t449.length co27 : Value).ownBlock) (.slice Ao23 t440.length co23) t440) := ⟨by rw [← hq_]; exact (by (with_reducible repeat (first | apply Kd.R_alloc | apply Kd.R_drewN | apply Kd.R_drew)); exact Kd.R_mono HO442.out (fun _ hk => hk.2))⟩; have n2_ : Aside0 (Kd.V k49 49 w26 w.heap.size (fun k_ => some k_ ≠ (v437 : Value).ownBlock ∧ some k_ ≠ (.slice Ao27 t449.length co27 : Value).ownBlock ∧ k_ ≠ g435) (.slice Ao23 y444.length y444.length) y444) := ⟨by rw [← hq_]; exact (by (with_reducible repeat (first | apply Kd.V_alloc | apply Kd.V_drewN | apply Kd.V_drew)); exact Kd.V_mono HO448.out (fun _ hk => ⟨hk.1.1.2, ⟨hk.2, hk.1.2⟩⟩))⟩; have n3_ : Aside0 (Kd.R k49 49 w26 w.heap.size (fun k_ => some k_ ≠ (.slice Ao23 t440.length co23 : Value).ownBlock) (.slice Ao27 t449.length co27) t449) := ⟨by rw [← hq_]; exact (by (with_reducible repeat (first | apply Kd.R_alloc | apply Kd.R_drewN | apply Kd.R_drew)); exact Kd.R_mono HO451.out (fun _ hk => hk.2))⟩; have n4_ : Aside0 (Kd.V k49 49 w26 w.heap.size (fun k_ => some k_ ≠ (v437 : Value).ownBlock ∧ some k_ ≠ (.slice Ao27 t449.length co27 : Value).ownBlock ∧ k_ ≠ g435) v454 y453) := ⟨by rw [← hq_]; exact (by (with_reducible repeat (first | apply Kd.V_alloc | apply Kd.V_drewN | apply Kd.V_drew)); exact HO455.out)⟩; have n5_ : Aside0 (IsS57 w w26 g435 t433 t452) := ⟨by rw [← hq_]; exact (by repeat (first | (with_reducible first | exact HI435.out | apply IsS57.alloc | apply IsS57.drewN | apply IsS57.drew | apply IsS57.set_1) | exact HI435.out))⟩; have n6_ : Aside0 (Below w.heap.size w w26) := ⟨by rw [← hq_]; exact (by repeat (first | (with_reducible first | exact HB.out | apply below_alloc | apply pw_below_drewN | apply below_drew1 | refine below_set ?_ (IsS57.ge HI435.out)) | exact HB.out))⟩; clear HO438 HO442 HO448 HO451 HO455 HI435 HB hq_; have HO438 := n0_; have HO442 := n1_; have HO448 := n2_; have HO451 := n3_; have HO455 := n4_; have HI435 := n5_; have HB := n6_; clear n0_ n1_ n2_ n3_ n4_ n5_ n6_))) | ((with_reducible refine gate_callee (f := 17) rfl ?_); refine goesL_ (some 40) rfl rfl Try.func17 (by kernel_rfl) rfl #[.int .i64 a2, .int .i64 600] rfl (by (try simp only [List.map_toArray, List.map_cons, List.map_nil]); first | done | rfl | (simp only [List.length_drop, List.length_take]; rfl)) ?_; (with_reducible refine (awardingbodymake_Cut.calls a2 600 t457 _ A12.out).mono ?_); rintro e w' ⟨rfl, ⟨nd, rfl⟩⟩; refine ⟨_, rfl, ?_⟩; (try (rw [drewN_self w26]; generalize hq_ : World.drewN w26 _ = w26; have n0_ : Aside0 (Kd.R k28 28 w26 w.heap.size (fun _ => True) v437 t436) := ⟨by rw [← hq_]; exact (by (with_reducible repeat (first | apply Kd.R_alloc | apply Kd.R_drewN | apply Kd.R_drew)); exact HO438.out)⟩; have n1_ : Aside0 (Kd.R k49 49 w26 w.heap.size (fun k_ => some k_ ≠ (.slice Ao27 t449.length co27 : Value).ownBlock) (.slice Ao23 t440.length co23) t440) := ⟨by rw [← hq_]; exact (by (with_reducible repeat (first | apply Kd.R_alloc | apply Kd.R_drewN | apply Kd.R_drew)); exact Kd.R_mono HO442.out (fun _ hk => hk.2))⟩; have n2_ : Aside0 (Kd.V k49 49 w26 w.heap.size (fun k_ => some k_ ≠ (v437 : Value).ownBlock ∧ some k_ ≠ (.slice Ao27 t449.length co27 : Value).ownBlock ∧ k_ ≠ g435) (.slice Ao23 y444.length y444.length) y444) := ⟨by rw [← hq_]; exact (by (with_reducible repeat (first | apply Kd.V_alloc | apply Kd.V_drewN | apply Kd.V_drew)); exact Kd.V_mono HO448.out (fun _ hk => ⟨hk.1.1.2, ⟨hk.2, hk.1.2⟩⟩))⟩; have n3_ : Aside0 (Kd.R k49 49 w26 w.heap.size (fun k_ => some k_ ≠ (.slice Ao23 t440.length co23 : Value).ownBlock) (.slice Ao27 t449.length co27) t449) := ⟨by rw [← hq_]; exact (by (with_reducible repeat (first | apply Kd.R_alloc | apply Kd.R_drewN | apply Kd.R_drew)); exact Kd.R_mono HO451.out (fun _ hk => hk.2))⟩; have n4_ : Aside0 (Kd.V k49 49 w26 w.heap.size (fun k_ => some k_ ≠ (v437 : Value).ownBlock ∧ some k_ ≠ (.slice Ao27 t449.length co27 : Value).ownBlock ∧ k_ ≠ g435) v454 y453) := ⟨by rw [← hq_]; exact (by (with_reducible repeat (first | apply Kd.V_alloc | apply Kd.V_drewN | apply Kd.V_drew)); exact HO455.out)⟩; have n5_ : Aside0 (IsS57 w w26 g435 t433 t452) := ⟨by rw [← hq_]; exact (by repeat (first | (with_reducible first | exact HI435.out | apply IsS57.alloc | apply IsS57.drewN | apply IsS57.drew | apply IsS57.set_1) | exact HI435.out))⟩; have n6_ : Aside0 (Below w.heap.size w w26) := ⟨by rw [← hq_]; exact (by repeat (first | (with_reducible first | exact HB.out | apply below_alloc | apply pw_below_drewN | apply below_drew1 | refine below_set ?_ (IsS57.ge HI435.out)) | exact HB.out))⟩; clear HO438 HO442 HO448 HO451 HO455 HI435 HB hq_; have HO438 := n0_; have HO442 := n1_; have HO448 := n2_; have HO451 := n3_; have HO455 := n4_; have HI435 := n5_; have HB := n6_; clear n0_ n1_ n2_ n3_ n4_ n5_ n6_)); obtain ⟨Ao28, co28, eo28⟩ := Kd.R_slice HO438.out; subst eo28) | ((with_reducible refine gate_callee (f := 19) rfl ?_); refine goesL_ (some 46) rfl rfl Try.func19 (by kernel_rfl) rfl #[.slice Ao28 t436.length co28, .slice Ao23 t440.length co23, .int .i64 1, .int .i64 t456] rfl (by (try simp only [List.map_toArray, List.map_cons, List.map_nil]); first | done | rfl | (simp only [List.length_drop, List.length_take]; rfl)) ?_; (with_reducible refine (access_Grant.calls k _ _ t436 _ _ t440 1 t456 t458 t459 t460 _ ?side1 ?side2 ?side3 ?side4 A13.out).mono ?_); (case side1 => repeat (first | exact (Kd.R_reads' HO438.out).2.2 | (with_reducible refine Kd.C_alloc ?_ _) | (with_reducible refine Kd.C_drewN ?_ _) | (with_reducible refine Kd.C_drew ?_))); (case side2 => exact (Kd.R_reads' HO438.out).2.1); (case side3 => repeat (first | exact (Kd.R_reads' HO442.out).2.2 | (with_reducible refine Kd.C_alloc ?_ _) | (with_reducible refine Kd.C_drewN ?_ _) | (with_reducible refine Kd.C_drew ?_))); (case side4 => exact (Kd.R_reads' HO442.out).2.1); rintro e w29 ⟨rfl, hb⟩; refine ⟨_, rfl, ?_⟩; have n0_ := Aside0.mk (Kd.R_below (by (with_reducible repeat (first | apply Kd.R_alloc | apply Kd.R_drewN | apply Kd.R_drew)); exact HO438.out) hb); have n1_ := Aside0.mk (Kd.R_below (by (with_reducible repeat (first | apply Kd.R_alloc | apply Kd.R_drewN | apply Kd.R_drew)); exact HO442.out) hb); have n2_ := Aside0.mk (Kd.V_below (by (with_reducible repeat (first | apply Kd.V_alloc | apply Kd.V_drewN | apply Kd.V_drew)); exact HO448.out) hb); have n3_ := Aside0.mk (Kd.R_below (by (with_reducible repeat (first | apply Kd.R_alloc | apply Kd.R_drewN | apply Kd.R_drew)); exact HO451.out) hb); have n4_ := Aside0.mk (Kd.V_below (by (with_reducible repeat (first | apply Kd.V_alloc | apply Kd.V_drewN | apply Kd.V_drew)); exact HO455.out) hb); have n5_ := Aside0.mk (IsS57.below (by repeat (first | (with_reducible first | exact HI435.out | apply IsS57.alloc | apply IsS57.drewN | apply IsS57.drew | apply IsS57.set_1) | exact HI435.out)) hb); have n6_ := Aside0.mk (below_step (by repeat (first | (with_reducible first | exact HB.out | apply below_alloc | apply pw_below_drewN | apply below_drew1 | refine below_set ?_ (IsS57.ge HI435.out)) | exact HB.out)) hb); clear HO438 HO442 HO448 HO451 HO455 HI435 HB; have HO438 := n0_; have HO442 := n1_; have HO448 := n2_; have HO451 := n3_; have HO455 := n4_; have HI435 := n5_; have HB := n6_; clear n0_ n1_ n2_ n3_ n4_ n5_ n6_; (try clear hb); (try clear hb2); (try clear hk); (try clear hi)) | ((with_reducible refine gate_dst (N := 11) rfl ?_); refine box_event ?hg (N := 11) ?hd (cs := #[.int .i64 0, .int .i64 0]) (t := 38) ?hr ?_; (case hd => rfl); (case hg => rfl); (case hr => first | (go_simp; done) | (go_simp; rfl)); intro gb461 hg w30 hbox hb; have n0_ := Aside0.mk (Kd.R_below (by (with_reducible repeat (first | apply Kd.R_alloc | apply Kd.R_drewN | apply Kd.R_drew)); exact HO438.out) hb); have n1_ := Aside0.mk (Kd.R_below (by (with_reducible repeat (first | apply Kd.R_alloc | apply Kd.R_drewN | apply Kd.R_drew)); exact HO442.out) hb); have n2_ := Aside0.mk (Kd.V_below (Kd.V_elderB (by (with_reducible repeat (first | apply Kd.V_alloc | apply Kd.V_drewN | apply Kd.V_drew)); exact HO448.out) gb461 (Nat.le_of_eq hg.symm)) hb); have n3_ := Aside0.mk (Kd.R_below (by (with_reducible repeat (first | apply Kd.R_alloc | apply Kd.R_drewN | apply Kd.R_drew)); exact HO451.out) hb); have n4_ := Aside0.mk (Kd.V_below (Kd.V_elderB (by (with_reducible repeat (first | apply Kd.V_alloc | apply Kd.V_drewN | apply Kd.V_drew)); exact HO455.out) gb461 (Nat.le_of_eq hg.symm)) hb); have n5_ := Aside0.mk (IsS57.below (by repeat (first | (with_reducible first | exact HI435.out | apply IsS57.alloc | apply IsS57.drewN | apply IsS57.drew | apply IsS57.set_1) | exact HI435.out)) hb); have n6_ := Aside0.mk (below_step (by repeat (first | (with_reducible first | exact HB.out | apply below_alloc | apply pw_below_drewN | apply below_drew1 | refine below_set ?_ (IsS57.ge HI435.out)) | exact HB.out)) hb); have n7_ := Aside0.mk (hbox); have n8_ := Aside0.mk ((by rw [hg]; exact (below_size (by repeat (first | (with_reducible first | exact HB.out | apply below_alloc | apply pw_below_drewN | apply below_drew1 | refine below_set ?_ (IsS57.ge HI435.out)) | exact HB.out))) : w.heap.size ≤ gb461)); have n9_ := Aside0.mk ((by rw [hg]; exact (below_size (by repeat (first | (with_reducible first | exact HB.out | apply below_alloc | apply pw_below_drewN | apply below_drew1 | refine below_set ?_ (IsS57.ge HI435.out)) | exact HB.out))) : w.heap.size ≤ gb461)); have n10_ := Aside0.mk ((by rw [hg]; exact Nat.ne_of_lt (IsS57.lt (show IsS57 w _ g435 t433 t452 from by repeat (first | (with_reducible first | exact HI435.out | apply IsS57.alloc | apply IsS57.drewN | apply IsS57.drew | apply IsS57.set_1) | exact HI435.out))) : g435 ≠ gb461)); have n11_ := Aside0.mk ((by rw [hg]; exact Nat.ne_of_gt (IsS57.lt (show IsS57 w _ g435 t433 t452 from by repeat (first | (with_reducible first | exact HI435.out | apply IsS57.alloc | apply IsS57.drewN | apply IsS57.drew | apply IsS57.set_1) | exact HI435.out))) : gb461 ≠ g435)); clear HO438 HO442 HO448 HO451 HO455 HI435 HB; have HO438 := n0_; have HO442 := n1_; have HO448 := n2_; have HO451 := n3_; have HO455 := n4_; have HI435 := n5_; have HB := n6_; have BK461 := n7_; have GW461 := n8_; have GE461 := n9_; have NB435_461 := n10_; have NB461_435 := n11_; clear n0_ n1_ n2_ n3_ n4_ n5_ n6_ n7_ n8_ n9_ n10_ n11_ hb hbox hg; have hnb31 := NB461_435.out; have hnc31 := NB435_461.out; have hcz32_0 : w30.cell? ⟨gb461, 0, none⟩ = some (.int .i64 0) := (blk_cell BK461.out 0).trans rfl; have hcz32_1 : w30.cell? ⟨gb461, 1, none⟩ = some (.int .i64 0) := (blk_cell BK461.out 1).trans rfl; have hfz32_0 := blk_frozen BK461.out 0; have hfz32_1 := blk_frozen BK461.out 1; obtain ⟨Ao33, co33, eo33⟩ := Kd.V_slice HO455.out; subst eo33) | ((with_reducible refine gate_callee (f := 19) rfl ?_); refine goesL_ (some 53) rfl rfl Try.func19 (by kernel_rfl) rfl #[.slice Ao28 t436.length co28, .slice Ao33 y453.length co33, .int .i64 1, .int .i64 t456] rfl (by (try simp only [List.map_toArray, List.map_cons, List.map_nil]); first | done | rfl | (simp only [List.length_drop, List.length_take]; rfl)) ?_; (with_reducible refine (access_Grant.calls k _ _ t436 _ _ y453 1 t456 t462 t463 t464 _ ?side1 ?side2 ?side3 ?side4 A14.out).mono ?_); (case side1 => refine (Kd.R_reads' (e := 28) (base := w.heap.size) (ok := fun k_ => True) (n := t436.length) (c := co28) ?_).2.2; exact (by (with_reducible repeat (first | apply Kd.R_alloc | apply Kd.R_drewN | apply Kd.R_drew)); exact (Kd.R_mono (Kd.R_far (p := ⟨gb461, 1, none⟩) (Kd.R_far (p := ⟨gb461, 0, none⟩) (Kd.R_types HO438.out BK461.out (by decide)) (fun _ hk => hk.2) (.int .i64 t458)) (fun _ hk => hk.2) (.int .i64 t459)) (fun _ h_ => h_.1)))); (case side2 => exact (Kd.R_reads' HO438.out).2.1); (case side3 => refine (Kd.V_reads' (e := 49) (base := w.heap.size) (ok := fun k_ => ((some k_ ≠ (.slice Ao28 t436.length co28 : Value).ownBlock ∧ (some k_ ≠ (.slice Ao27 t449.length co27 : Value).ownBlock ∧ k_ ≠ g435)) ∧ k_ ≠ gb461)) (n := y453.length) (c := co33) ?_).2.2; exact (by (with_reducible repeat (first | apply Kd.V_alloc | apply Kd.V_drewN | apply Kd.V_drew)); exact (Kd.V_mono (Kd.V_far (p := ⟨gb461, 1, none⟩) (Kd.V_far (p := ⟨gb461, 0, none⟩) (Kd.V_mono HO455.out (fun k_ hk => (⟨hk, hk.2⟩ : _ ∧ k_ ≠ gb461))) (fun _ hk => hk.2) (.int .i64 t458)) (fun _ hk => hk.2) (.int .i64 t459)) (fun _ h_ => h_.1)))); (case side4 => exact (Kd.V_reads' HO455.out).2.1); rintro e w34 ⟨rfl, hb⟩; refine ⟨_, rfl, ?_⟩; have n0_ := Aside0.mk (Kd.R_below (by (with_reducible repeat (first | apply Kd.R_alloc | apply Kd.R_drewN | apply Kd.R_drew)); exact (Kd.R_mono (Kd.R_far (p := ⟨gb461, 1, none⟩) (Kd.R_far (p := ⟨gb461, 0, none⟩) (Kd.R_types HO438.out BK461.out (by decide)) (fun _ hk => hk.2) (.int .i64 t458)) (fun _ hk => hk.2) (.int .i64 t459)) (fun _ h_ => h_.1))) hb); have n1_ := Aside0.mk (Kd.R_below (by (with_reducible repeat (first | apply Kd.R_alloc | apply Kd.R_drewN | apply Kd.R_drew)); exact (Kd.R_mono (Kd.R_far (p := ⟨gb461, 1, none⟩) (Kd.R_far (p := ⟨gb461, 0, none⟩) (Kd.R_types HO442.out BK461.out (by decide)) (fun _ hk => hk.2) (.int .i64 t458)) (fun _ hk => hk.2) (.int .i64 t459)) (fun _ h_ => h_.1))) hb); have n2_ := Aside0.mk (Kd.V_below (by (with_reducible repeat (first | apply Kd.V_alloc | apply Kd.V_drewN | apply Kd.V_drew)); exact (Kd.V_mono (Kd.V_far (p := ⟨gb461, 1, none⟩) (Kd.V_far (p := ⟨gb461, 0, none⟩) (Kd.V_mono HO448.out (fun k_ hk => (⟨hk, hk.2⟩ : _ ∧ k_ ≠ gb461))) (fun _ hk => hk.2) (.int .i64 t458)) (fun _ hk => hk.2) (.int .i64 t459)) (fun _ h_ => h_.1))) hb); have n3_ := Aside0.mk (Kd.R_below (by (with_reducible repeat (first | apply Kd.R_alloc | apply Kd.R_drewN | apply Kd.R_drew)); exact (Kd.R_mono (Kd.R_far (p := ⟨gb461, 1, none⟩) (Kd.R_far (p := ⟨gb461, 0, none⟩) (Kd.R_types HO451.out BK461.out (by decide)) (fun _ hk => hk.2) (.int .i64 t458)) (fun _ hk => hk.2) (.int .i64 t459)) (fun _ h_ => h_.1))) hb); have n4_ := Aside0.mk (Kd.V_below (by (with_reducible repeat (first | apply Kd.V_alloc | apply Kd.V_drewN | apply Kd.V_drew)); exact (Kd.V_mono (Kd.V_far (p := ⟨gb461, 1, none⟩) (Kd.V_far (p := ⟨gb461, 0, none⟩) (Kd.V_mono HO455.out (fun k_ hk => (⟨hk, hk.2⟩ : _ ∧ k_ ≠ gb461))) (fun _ hk => hk.2) (.int .i64 t458)) (fun _ hk => hk.2) (.int .i64 t459)) (fun _ h_ => h_.1))) hb); have n5_ := Aside0.mk (IsS57.below (show IsS57 w ((w30.setCell ⟨gb461, 0, none⟩ (.int .i64 t458)).setCell ⟨gb461, 1, none⟩ (.int .i64 t459)) g435 t433 t452 from by repeat (first | (with_reducible first | exact HI435.out | apply IsS57.alloc | apply IsS57.drewN | apply IsS57.drew | apply IsS57.set_1 | refine IsS57.far ?_ NB435_461.out _) | exact HI435.out)) hb); have n6_ := Aside0.mk (blk_below (g := gb461) (o := .cells #[.int .i64 t458, .int .i64 t459] 38 (0, 0)) (by (with_reducible repeat (first | refine blk_drewN ?_ _ | refine blk_drew ?_ | refine blk_alloc ?_ _)); refine blk_put (cs := #[.int .i64 t458, .int .i64 0]) ?_ 1 _ rfl; (with_reducible repeat (first | refine blk_drewN ?_ _ | refine blk_drew ?_ | refine blk_alloc ?_ _)); refine blk_put (cs := #[.int .i64 0, .int .i64 0]) ?_ 0 _ rfl; (with_reducible repeat (first | refine blk_drewN ?_ _ | refine blk_drew ?_ | refine blk_alloc ?_ _)); exact BK461.out) hb); have n7_ := Aside0.mk (below_step (by repeat (first | (with_reducible first | exact HB.out | apply below_alloc | apply pw_below_drewN | apply below_drew1 | refine below_set ?_ (IsS57.ge HI435.out) | refine below_set ?_ GE461.out) | exact HB.out)) hb); clear HO438 HO442 HO448 HO451 HO455 HI435 BK461 HB; have HO438 := n0_; have HO442 := n1_; have HO448 := n2_; have HO451 := n3_; have HO455 := n4_; have HI435 := n5_; have BK461 := n6_; have HB := n7_; clear n0_ n1_ n2_ n3_ n4_ n5_ n6_ n7_; (try clear hb); (try clear hb2); (try clear hk); (try clear hi)) | ((with_reducible refine gate_dst (N := 13) rfl ?_); refine box_event ?hg (N := 13) ?hd (cs := #[.int .i64 0, .int .i64 0]) (t := 38) ?hr ?_; (case hd => rfl); (case hg => rfl); (case hr => first | (go_simp; done) | (go_simp; rfl)); intro gb465 hg w35 hbox hb; have n0_ := Aside0.mk (Kd.R_below (by (with_reducible repeat (first | apply Kd.R_alloc | apply Kd.R_drewN | apply Kd.R_drew)); exact HO438.out) hb); have n1_ := Aside0.mk (Kd.R_below (by (with_reducible repeat (first | apply Kd.R_alloc | apply Kd.R_drewN | apply Kd.R_drew)); exact HO442.out) hb); have n2_ := Aside0.mk (Kd.V_below (Kd.V_elderB (by (with_reducible repeat (first | apply Kd.V_alloc | apply Kd.V_drewN | apply Kd.V_drew)); exact HO448.out) gb465 (Nat.le_of_eq hg.symm)) hb); have n3_ := Aside0.mk (Kd.R_below (by (with_reducible repeat (first | apply Kd.R_alloc | apply Kd.R_drewN | apply Kd.R_drew)); exact HO451.out) hb); have n4_ := Aside0.mk (Kd.V_below (Kd.V_elderB (by (with_reducible repeat (first | apply Kd.V_alloc | apply Kd.V_drewN | apply Kd.V_drew)); exact HO455.out) gb465 (Nat.le_of_eq hg.symm)) hb); have n5_ := Aside0.mk (IsS57.below (by repeat (first | (with_reducible first | exact HI435.out | apply IsS57.alloc | apply IsS57.drewN | apply IsS57.drew | apply IsS57.set_1 | refine IsS57.far ?_ NB435_461.out _) | exact HI435.out)) hb); have n6_ := Aside0.mk (blk_below (g := gb461) (o := .cells #[.int .i64 t458, .int .i64 t459] 38 (0, 0)) (by (with_reducible repeat (first | refine blk_drewN ?_ _ | refine blk_drew ?_ | refine blk_alloc ?_ _)); exact BK461.out) hb); have n7_ := Aside0.mk (below_step (by repeat (first | (with_reducible first | exact HB.out | apply below_alloc | apply pw_below_drewN | apply below_drew1 | refine below_set ?_ (IsS57.ge HI435.out) | refine below_set ?_ GE461.out) | exact HB.out)) hb); have n8_ := Aside0.mk (hbox); have n9_ := Aside0.mk ((by rw [hg]; exact (below_size (by repeat (first | (with_reducible first | exact HB.out | apply below_alloc | apply pw_below_drewN | apply below_drew1 | refine below_set ?_ (IsS57.ge HI435.out) | refine below_set ?_ GE461.out) | exact HB.out))) : w.heap.size ≤ gb465)); have n10_ := Aside0.mk ((by rw [hg]; exact (below_size (by repeat (first | (with_reducible first | exact HB.out | apply below_alloc | apply pw_below_drewN | apply below_drew1 | refine below_set ?_ (IsS57.ge HI435.out) | refine below_set ?_ GE461.out) | exact HB.out))) : w.heap.size ≤ gb465)); have n11_ := Aside0.mk ((by rw [hg]; exact Nat.ne_of_lt (blk_lt (g := gb461) (o := .cells #[.int .i64 t458, .int .i64 t459] 38 (0, 0)) (by (with_reducible repeat (first | refine blk_drewN ?_ _ | refine blk_drew ?_ | refine blk_alloc ?_ _)); exact BK461.out)) : gb461 ≠ gb465)); have n12_ := Aside0.mk ((by rw [hg]; exact Nat.ne_of_gt (blk_lt (g := gb461) (o := .cells #[.int .i64 t458, .int .i64 t459] 38 (0, 0)) (by (with_reducible repeat (first | refine blk_drewN ?_ _ | refine blk_drew ?_ | refine blk_alloc ?_ _)); exact BK461.out)) : gb465 ≠ gb461)); have n13_ := Aside0.mk ((by rw [hg]; exact Nat.ne_of_lt (IsS57.lt (show IsS57 w _ g435 t433 t452 from by repeat (first | (with_reducible first | exact HI435.out | apply IsS57.alloc | apply IsS57.drewN | apply IsS57.drew | apply IsS57.set_1 | refine IsS57.far ?_ NB435_461.out _) | exact HI435.out))) : g435 ≠ gb465)); have n14_ := Aside0.mk ((by rw [hg]; exact Nat.ne_of_gt (IsS57.lt (show IsS57 w _ g435 t433 t452 from by repeat (first | (with_reducible first | exact HI435.out | apply IsS57.alloc | apply IsS57.drewN | apply IsS57.drew | apply IsS57.set_1 | refine IsS57.far ?_ NB435_461.out _) | exact HI435.out))) : gb465 ≠ g435)); clear HO438 HO442 HO448 HO451 HO455 HI435 BK461 HB; have HO438 := n0_; have HO442 := n1_; have HO448 := n2_; have HO451 := n3_; have HO455 := n4_; have HI435 := n5_; have BK461 := n6_; have HB := n7_; have BK465 := n8_; have GW465 := n9_; have GE465 := n10_; have NB461_465 := n11_; have NB465_461 := n12_; have NB435_465 := n13_; have NB465_435 := n14_; clear n0_ n1_ n2_ n3_ n4_ n5_ n6_ n7_ n8_ n9_ n10_ n11_ n12_ n13_ n14_ hb hbox hg; have hnb36 := NB465_461.out; have hnc36 := NB461_465.out; have hnb37 := NB465_435.out; have hnc37 := NB435_465.out; have hcz38_0 : w35.cell? ⟨gb465, 0, none⟩ = some (.int .i64 0) := (blk_cell BK465.out 0).trans rfl; have hcz38_1 : w35.cell? ⟨gb465, 1, none⟩ = some (.int .i64 0) := (blk_cell BK465.out 1).trans rfl; have hfz38_0 := blk_frozen BK465.out 0; have hfz38_1 := blk_frozen BK465.out 1; have hcz39_0 : w35.cell? ⟨gb461, 0, none⟩ = some (.int .i64 t458) := (blk_cell BK461.out 0).trans rfl; have hcz39_1 : w35.cell? ⟨gb461, 1, none⟩ = some (.int .i64 t459) := (blk_cell BK461.out 1).trans rfl; have hfz39_0 := blk_frozen BK461.out 0; have hfz39_1 := blk_frozen BK461.out 1) | ((with_reducible refine gate_callee (f := 25) rfl ?_); refine goesL_ (some 59) rfl rfl Try.func25 (by kernel_rfl) rfl #[.int .i64 (wrap64 (1 + t457)), .agg #[.int .i64 t458, .int .i64 t459]] rfl (by (try simp only [List.map_toArray, List.map_cons, List.map_nil]); first | done | rfl | (simp only [List.length_drop, List.length_take]; rfl)) ?_; (with_reducible refine (access_Minutes.calls k (wrap64 (1 + t457)) t458 t459 t466 t467 _ A15.out).mono ?_); rintro e w40 ⟨rfl, hb⟩; refine ⟨_, rfl, ?_⟩; have n0_ := Aside0.mk (Kd.R_below (by (with_reducible repeat (first | apply Kd.R_alloc | apply Kd.R_drewN | apply Kd.R_drew)); exact (Kd.R_mono (Kd.R_far (p := ⟨gb465, 1, none⟩) (Kd.R_far (p := ⟨gb465, 0, none⟩) (Kd.R_types HO438.out BK465.out (by decide)) (fun _ hk => hk.2) (.int .i64 t462)) (fun _ hk => hk.2) (.int .i64 t463)) (fun _ h_ => h_.1))) hb); have n1_ := Aside0.mk (Kd.R_below (by (with_reducible repeat (first | apply Kd.R_alloc | apply Kd.R_drewN | apply Kd.R_drew)); exact (Kd.R_mono (Kd.R_far (p := ⟨gb465, 1, none⟩) (Kd.R_far (p := ⟨gb465, 0, none⟩) (Kd.R_types HO442.out BK465.out (by decide)) (fun _ hk => hk.2) (.int .i64 t462)) (fun _ hk => hk.2) (.int .i64 t463)) (fun _ h_ => h_.1))) hb); have n2_ := Aside0.mk (Kd.V_below (by (with_reducible repeat (first | apply Kd.V_alloc | apply Kd.V_drewN | apply Kd.V_drew)); exact (Kd.V_mono (Kd.V_far (p := ⟨gb465, 1, none⟩) (Kd.V_far (p := ⟨gb465, 0, none⟩) (Kd.V_mono HO448.out (fun k_ hk => (⟨hk, hk.2⟩ : _ ∧ k_ ≠ gb465))) (fun _ hk => hk.2) (.int .i64 t462)) (fun _ hk => hk.2) (.int .i64 t463)) (fun _ h_ => h_.1))) hb); have n3_ := Aside0.mk (Kd.R_below (by (with_reducible repeat (first | apply Kd.R_alloc | apply Kd.R_drewN | apply Kd.R_drew)); exact (Kd.R_mono (Kd.R_far (p := ⟨gb465, 1, none⟩) (Kd.R_far (p := ⟨gb465, 0, none⟩) (Kd.R_types HO451.out BK465.out (by decide)) (fun _ hk => hk.2) (.int .i64 t462)) (fun _ hk => hk.2) (.int .i64 t463)) (fun _ h_ => h_.1))) hb); have n4_ := Aside0.mk (Kd.V_below (by (with_reducible repeat (first | apply Kd.V_alloc | apply Kd.V_drewN | apply Kd.V_drew)); exact (Kd.V_mono (Kd.V_far (p := ⟨gb465, 1, none⟩) (Kd.V_far (p := ⟨gb465, 0, none⟩) (Kd.V_mono HO455.out (fun k_ hk => (⟨hk, hk.2⟩ : _ ∧ k_ ≠ gb465))) (fun _ hk => hk.2) (.int .i64 t462)) (fun _ hk => hk.2) (.int .i64 t463)) (fun _ h_ => h_.1))) hb); have n5_ := Aside0.mk (IsS57.below (show IsS57 w ((w35.setCell ⟨gb465, 0, none⟩ (.int .i64 t462)).setCell ⟨gb465, 1, none⟩ (.int .i64 t463)) g435 t433 t452 from by repeat (first | (with_reducible first | exact HI435.out | apply IsS57.alloc | apply IsS57.drewN | apply IsS57.drew | apply IsS57.set_1 | refine IsS57.far ?_ NB435_461.out _ | refine IsS57.far ?_ NB435_465.out _) | exact HI435.out)) hb); have n6_ := Aside0.mk (blk_below (g := gb461) (o := .cells #[.int .i64 t458, .int .i64 t459] 38 (0, 0)) (by (with_reducible repeat (first | refine blk_drewN ?_ _ | refine blk_drew ?_ | refine blk_alloc ?_ _)); refine blk_far ?_ NB461_465.out _; (with_reducible repeat (first | refine blk_drewN ?_ _ | refine blk_drew ?_ | refine blk_alloc ?_ _)); refine blk_far ?_ NB461_465.out _; (with_reducible repeat (first | refine blk_drewN ?_ _ | refine blk_drew ?_ | refine blk_alloc ?_ _)); exact BK461.out) hb); have n7_ := Aside0.mk (blk_below (g := gb465) (o := .cells #[.int .i64 t462, .int .i64 t463] 38 (0, 0)) (by (with_reducible repeat (first | refine blk_drewN ?_ _ | refine blk_drew ?_ | refine blk_alloc ?_ _)); refine blk_put (cs := #[.int .i64 t462, .int .i64 0]) ?_ 1 _ rfl; (with_reducible repeat (first | refine blk_drewN ?_ _ | refine blk_drew ?_ | refine blk_alloc ?_ _)); refine blk_put (cs := #[.int .i64 0, .int .i64 0]) ?_ 0 _ rfl; (with_reducible repeat (first | refine blk_drewN ?_ _ | refine blk_drew ?_ | refine blk_alloc ?_ _)); exact BK465.out) hb); have n8_ := Aside0.mk (below_step (by repeat (first | (with_reducible first | exact HB.out | apply below_alloc | apply pw_below_drewN | apply below_drew1 | refine below_set ?_ (IsS57.ge HI435.out) | refine below_set ?_ GE461.out | refine below_set ?_ GE465.out) | exact HB.out)) hb); clear HO438 HO442 HO448 HO451 HO455 HI435 BK461 BK465 HB; have HO438 := n0_; have HO442 := n1_; have HO448 := n2_; have HO451 := n3_; have HO455 := n4_; have HI435 := n5_; have BK461 := n6_; have BK465 := n7_; have HB := n8_; clear n0_ n1_ n2_ n3_ n4_ n5_ n6_ n7_ n8_; (try clear hb); (try clear hb2); (try clear hk); (try clear hi); have hcz41_0 : w40.cell? ⟨gb465, 0, none⟩ = some (.int .i64 t462) := (blk_cell BK465.out 0).trans rfl; have hcz41_1 : w40.cell? ⟨gb465, 1, none⟩ = some (.int .i64 t463) := (blk_cell BK465.out 1).trans rfl; have hfz41_0 := blk_frozen BK465.out 0; have hfz41_1 := blk_frozen BK465.out 1) | ((with_reducible refine gate_callee (f := 25) rfl ?_); refine goesL_ (some 65) rfl rfl Try.func25 (by kernel_rfl) rfl #[.int .i64 (wrap64 (1 + t457)), .agg #[.int .i64 t462, .int .i64 t463]] rfl (by (try simp only [List.map_toArray, List.map_cons, List.map_nil]); first | done | rfl | (simp only [List.length_drop, List.length_take]; rfl)) ?_; (with_reducible refine (access_Minutes.calls k (wrap64 (1 + t457)) t462 t463 t468 t469 _ A16.out).mono ?_); rintro e w42 ⟨rfl, hb⟩; refine ⟨_, rfl, ?_⟩; have n0_ := Aside0.mk (Kd.R_below (by (with_reducible repeat (first | apply Kd.R_alloc | apply Kd.R_drewN | apply Kd.R_drew)); exact HO438.out) hb); have n1_ := Aside0.mk (Kd.R_below (by (with_reducible repeat (first | apply Kd.R_alloc | apply Kd.R_drewN | apply Kd.R_drew)); exact HO442.out) hb); have n2_ := Aside0.mk (Kd.V_below (by (with_reducible repeat (first | apply Kd.V_alloc | apply Kd.V_drewN | apply Kd.V_drew)); exact HO448.out) hb); have n3_ := Aside0.mk (Kd.R_below (by (with_reducible repeat (first | apply Kd.R_alloc | apply Kd.R_drewN | apply Kd.R_drew)); exact HO451.out) hb); have n4_ := Aside0.mk (Kd.V_below (by (with_reducible repeat (first | apply Kd.V_alloc | apply Kd.V_drewN | apply Kd.V_drew)); exact HO455.out) hb); have n5_ := Aside0.mk (IsS57.below (by repeat (first | (with_reducible first | exact HI435.out | apply IsS57.alloc | apply IsS57.drewN | apply IsS57.drew | apply IsS57.set_1 | refine IsS57.far ?_ NB435_461.out _ | refine IsS57.far ?_ NB435_465.out _) | exact HI435.out)) hb); have n6_ := Aside0.mk (blk_below (g := gb461) (o := .cells #[.int .i64 t458, .int .i64 t459] 38 (0, 0)) (by (with_reducible repeat (first | refine blk_drewN ?_ _ | refine blk_drew ?_ | refine blk_alloc ?_ _)); exact BK461.out) hb); have n7_ := Aside0.mk (blk_below (g := gb465) (o := .cells #[.int .i64 t462, .int .i64 t463] 38 (0, 0)) (by (with_reducible repeat (first | refine blk_drewN ?_ _ | refine blk_drew ?_ | refine blk_alloc ?_ _)); exact BK465.out) hb); have n8_ := Aside0.mk (below_step (by repeat (first | (with_reducible first | exact HB.out | apply below_alloc | apply pw_below_drewN | apply below_drew1 | refine below_set ?_ (IsS57.ge HI435.out) | refine below_set ?_ GE461.out | refine below_set ?_ GE465.out) | exact HB.out)) hb); clear HO438 HO442 HO448 HO451 HO455 HI435 BK461 BK465 HB; have HO438 := n0_; have HO442 := n1_; have HO448 := n2_; have HO451 := n3_; have HO455 := n4_; have HI435 := n5_; have BK461 := n6_; have BK465 := n7_; have HB := n8_; clear n0_ n1_ n2_ n3_ n4_ n5_ n6_ n7_ n8_; (try clear hb); (try clear hb2); (try clear hk); (try clear hi)) | ((with_reducible refine gate_callee (f := 22) rfl ?_); refine goesL_ (some 71) rfl rfl Try.func22 (by kernel_rfl) rfl #[.slice Ao28 t436.length co28, .slice Ao23 t440.length co23, .int .i64 1, .int .i64 t456] rfl (by (try simp only [List.map_toArray, List.map_cons, List.map_nil]); first | done | rfl | (simp only [List.length_drop, List.length_take]; rfl)) ?_; (with_reducible refine (access_Reasons.calls k _ _ t436 _ _ t440 1 t456 t470 _ ?side1 ?side2 ?side3 ?side4 A17.out).mono ?_); (case side1 => repeat (first | exact (Kd.R_reads' HO438.out).2.2 | (with_reducible refine Kd.C_alloc ?_ _) | (with_reducible refine Kd.C_drewN ?_ _) | (with_reducible refine Kd.C_drew ?_))); (case side2 => exact (Kd.R_reads' HO438.out).2.1); (case side3 => repeat (first | exact (Kd.R_reads' HO442.out).2.2 | (with_reducible refine Kd.C_alloc ?_ _) | (with_reducible refine Kd.C_drewN ?_ _) | (with_reducible refine Kd.C_drew ?_))); (case side4 => exact (Kd.R_reads' HO442.out).2.1); rintro e w43 ⟨v471, rfl, ho0, hb⟩; refine ⟨_, rfl, ?_⟩; have n0_ := Aside0.mk (Kd.R_below (by (with_reducible repeat (first | apply Kd.R_alloc | apply Kd.R_drewN | apply Kd.R_drew)); exact HO438.out) hb); have n1_ := Aside0.mk (Kd.R_below (by (with_reducible repeat (first | apply Kd.R_alloc | apply Kd.R_drewN | apply Kd.R_drew)); exact HO442.out) hb); have n2_ := Aside0.mk (Kd.V_elder' (by (with_reducible repeat (first | apply Kd.V_alloc | apply Kd.V_drewN | apply Kd.V_drew)); exact HO448.out) (Kd.R_base ho0) hb); have n3_ := Aside0.mk (Kd.R_below (by (with_reducible repeat (first | apply Kd.R_alloc | apply Kd.R_drewN | apply Kd.R_drew)); exact HO451.out) hb); have n4_ := Aside0.mk (Kd.V_elder' (by (with_reducible repeat (first | apply Kd.V_alloc | apply Kd.V_drewN | apply Kd.V_drew)); exact HO455.out) (Kd.R_base ho0) hb); have n5_ := Aside0.mk (Kd.R_lower ho0 (below_size (by repeat (first | (with_reducible first | exact HB.out | apply below_alloc | apply pw_below_drewN | apply below_drew1 | refine below_set ?_ (IsS57.ge HI435.out) | refine below_set ?_ GE461.out | refine below_set ?_ GE465.out) | exact HB.out)))); have n6_ := Aside0.mk (IsS57.below (by repeat (first | (with_reducible first | exact HI435.out | apply IsS57.alloc | apply IsS57.drewN | apply IsS57.drew | apply IsS57.set_1 | refine IsS57.far ?_ NB435_461.out _ | refine IsS57.far ?_ NB435_465.out _) | exact HI435.out)) hb); have n7_ := Aside0.mk (blk_below (g := gb461) (o := .cells #[.int .i64 t458, .int .i64 t459] 38 (0, 0)) (by (with_reducible repeat (first | refine blk_drewN ?_ _ | refine blk_drew ?_ | refine blk_alloc ?_ _)); exact BK461.out) hb); have n8_ := Aside0.mk (blk_below (g := gb465) (o := .cells #[.int .i64 t462, .int .i64 t463] 38 (0, 0)) (by (with_reducible repeat (first | refine blk_drewN ?_ _ | refine blk_drew ?_ | refine blk_alloc ?_ _)); exact BK465.out) hb); have n9_ := Aside0.mk (below_step (by repeat (first | (with_reducible first | exact HB.out | apply below_alloc | apply pw_below_drewN | apply below_drew1 | refine below_set ?_ (IsS57.ge HI435.out) | refine below_set ?_ GE461.out | refine below_set ?_ GE465.out) | exact HB.out)) hb); clear HO438 HO442 HO448 HO451 HO455 HI435 BK461 BK465 HB; have HO438 := n0_; have HO442 := n1_; have HO448 := n2_; have HO451 := n3_; have HO455 := n4_; have HO472 := n5_; have HI435 := n6_; have BK461 := n7_; have BK465 := n8_; have HB := n9_; clear n0_ n1_ n2_ n3_ n4_ n5_ n6_ n7_ n8_ n9_; (try clear hb); (try clear hb2); (try clear hk); (try clear hi); (try clear ho0)) | ((with_reducible refine gate_callee (f := 22) rfl ?_); refine goesL_ (some 75) rfl rfl Try.func22 (by kernel_rfl) rfl #[.slice Ao28 t436.length co28, .slice Ao33 y453.length co33, .int .i64 1, .int .i64 t456] rfl (by (try simp only [List.map_toArray, List.map_cons, List.map_nil]); first | done | rfl | (simp only [List.length_drop, List.length_take]; rfl)) ?_; (with_reducible refine (access_Reasons.calls k _ _ t436 _ _ y453 1 t456 t473 _ ?side1 ?side2 ?side3 ?side4 A18.out).mono ?_); (case side1 => repeat (first | exact (Kd.R_reads' HO438.out).2.2 | (with_reducible refine Kd.C_alloc ?_ _) | (with_reducible refine Kd.C_drewN ?_ _) | (with_reducible refine Kd.C_drew ?_))); (case side2 => exact (Kd.R_reads' HO438.out).2.1); (case side3 => repeat (first | exact (Kd.V_reads' HO455.out).2.2 | (with_reducible refine Kd.C_alloc ?_ _) | (with_reducible refine Kd.C_drewN ?_ _) | (with_reducible refine Kd.C_drew ?_))); (case side4 => exact (Kd.V_reads' HO455.out).2.1); rintro e w44 ⟨v474, rfl, ho0, hb⟩; refine ⟨_, rfl, ?_⟩; have n0_ := Aside0.mk (Kd.R_below (by (with_reducible repeat (first | apply Kd.R_alloc | apply Kd.R_drewN | apply Kd.R_drew)); exact HO438.out) hb); have n1_ := Aside0.mk (Kd.R_below (by (with_reducible repeat (first | apply Kd.R_alloc | apply Kd.R_drewN | apply Kd.R_drew)); exact HO442.out) hb); have n2_ := Aside0.mk (Kd.V_elder' (by (with_reducible repeat (first | apply Kd.V_alloc | apply Kd.V_drewN | apply Kd.V_drew)); exact HO448.out) (Kd.R_base ho0) hb); have n3_ := Aside0.mk (Kd.R_below (by (with_reducible repeat (first | apply Kd.R_alloc | apply Kd.R_drewN | apply Kd.R_drew)); exact HO451.out) hb); have n4_ := Aside0.mk (Kd.V_elder' (by (with_reducible repeat (first | apply Kd.V_alloc | apply Kd.V_drewN | apply Kd.V_drew)); exact HO455.out) (Kd.R_base ho0) hb); have n5_ := Aside0.mk (Kd.R_elder' (by (with_reducible repeat (first | apply Kd.R_alloc | apply Kd.R_drewN | apply Kd.R_drew)); exact HO472.out) (Kd.R_base ho0) hb); have n6_ := Aside0.mk (Kd.R_lower (Kd.R_new' ho0 (Kd.R_lt (by (with_reducible repeat (first | apply Kd.R_alloc | apply Kd.R_drewN | apply Kd.R_drew)); exact HO472.out))) (below_size (by repeat (first | (with_reducible first | exact HB.out | apply below_alloc | apply pw_below_drewN | apply below_drew1 | refine below_set ?_ (IsS57.ge HI435.out) | refine below_set ?_ GE461.out | refine below_set ?_ GE465.out) | exact HB.out)))); have n7_ := Aside0.mk (IsS57.below (by repeat (first | (with_reducible first | exact HI435.out | apply IsS57.alloc | apply IsS57.drewN | apply IsS57.drew | apply IsS57.set_1 | refine IsS57.far ?_ NB435_461.out _ | refine IsS57.far ?_ NB435_465.out _) | exact HI435.out)) hb); have n8_ := Aside0.mk (blk_below (g := gb461) (o := .cells #[.int .i64 t458, .int .i64 t459] 38 (0, 0)) (by (with_reducible repeat (first | refine blk_drewN ?_ _ | refine blk_drew ?_ | refine blk_alloc ?_ _)); exact BK461.out) hb); have n9_ := Aside0.mk (blk_below (g := gb465) (o := .cells #[.int .i64 t462, .int .i64 t463] 38 (0, 0)) (by (with_reducible repeat (first | refine blk_drewN ?_ _ | refine blk_drew ?_ | refine blk_alloc ?_ _)); exact BK465.out) hb); have n10_ := Aside0.mk (below_step (by repeat (first | (with_reducible first | exact HB.out | apply below_alloc | apply pw_below_drewN | apply below_drew1 | refine below_set ?_ (IsS57.ge HI435.out) | refine below_set ?_ GE461.out | refine below_set ?_ GE465.out) | exact HB.out)) hb); clear HO438 HO442 HO448 HO451 HO455 HO472 HI435 BK461 BK465 HB; have HO438 := n0_; have HO442 := n1_; have HO448 := n2_; have HO451 := n3_; have HO455 := n4_; have HO472 := n5_; have HO475 := n6_; have HI435 := n7_; have BK461 := n8_; have BK465 := n9_; have HB := n10_; clear n0_ n1_ n2_ n3_ n4_ n5_ n6_ n7_ n8_ n9_ n10_; (try clear hb); (try clear hb2); (try clear hk); (try clear hi); (try clear ho0)))
    go_loopg [21] k (fun kq v21 w' => ∃ (x21_1 : Int), v21 = .int .i64 x21_1 ∧ Aside0 (awardingbodylaw14_AccessGrows.l0 kq (wrap64 (1 + t457)) t460 t464 t466 t467 t468 t469 t470 t473 x21_1 t458 t459 t462 t463 = some r) ∧ Aside0 (kq ≤ k) ∧ Aside0 (Kd.R (Kd.int .i64) 3 w' w.heap.size (fun k_ => some k_ ≠ (v474 : Value).ownBlock) v471 t470) ∧ Aside0 (Kd.R (Kd.int .i64) 3 w' w.heap.size (fun k_ => some k_ ≠ (v471 : Value).ownBlock) v474 t473) ∧ Aside0 (w'.heap[gb461]? = some (.cells #[.int .i64 t458, .int .i64 t459] 38 (0, 0))) ∧ Aside0 (w'.heap[gb465]? = some (.cells #[.int .i64 t462, .int .i64 t463] 38 (0, 0))) ∧ Aside0 (Below w.heap.size w w'))
    case atStart => exact ⟨(0), (by first | rfl | (simp; done) | (simp [*]; done)), H', ⟨Nat.le_refl _⟩, ⟨by (with_reducible repeat (first | apply Kd.R_alloc | apply Kd.R_drewN | apply Kd.R_drew)); exact Kd.R_mono HO472.out (fun _ hk => hk.2)⟩, ⟨by (with_reducible repeat (first | apply Kd.R_alloc | apply Kd.R_drewN | apply Kd.R_drew)); exact Kd.R_mono HO475.out (fun _ hk => hk.2)⟩, ⟨by (with_reducible repeat (first | refine blk_drewN ?_ _ | refine blk_drew ?_ | refine blk_alloc ?_ _)); exact BK461.out⟩, ⟨by (with_reducible repeat (first | refine blk_drewN ?_ _ | refine blk_drew ?_ | refine blk_alloc ?_ _)); exact BK465.out⟩, ⟨by repeat (first | (with_reducible first | exact HB.out | apply below_alloc | apply pw_below_drewN | apply below_drew1 | refine below_set ?_ (IsS57.ge HI435.out) | refine below_set ?_ GE461.out | refine below_set ?_ GE465.out) | exact HB.out)⟩⟩
    case round =>
     clear H'
     try clear c1
     try clear c2
     try clear p2
     try clear q2
     try clear c3
     try clear p6
     try clear c7
     try clear c7b0
     try clear c7b1
     try clear c8
     try clear c8b0
     try clear c8b1
     try clear c10
     try clear c12
     try clear c13
     try clear c17
     try clear c18
     try clear c19
     try clear c22
     try clear q24
     try clear c25
     try clear c31
     try clear c36
     try clear c37
     try clear hcz32_0
     try clear hcz32_1
     try clear hcz38_0
     try clear hcz38_1
     try clear hcz39_0
     try clear hcz39_1
     try clear hcz41_0
     try clear hcz41_1
     try clear hfz32_0
     try clear hfz32_1
     try clear hfz38_0
     try clear hfz38_1
     try clear hfz39_0
     try clear hfz39_1
     try clear hfz41_0
     try clear hfz41_1
     try clear q24
     obtain ⟨x21_1, rfl, HA, HK1, HO_19, HO_20, BK461, BK465, HB⟩ := hrel
     cases gk with
     | zero => exact absurd HA.out (by simp [awardingbodylaw14_AccessGrows.l0])
     | succ k1 =>
      have H := HA.out
      clear HA
      simp only [awardingbodylaw14_AccessGrows.l0] at H
      by_cases c45 : x21_1 < (t470.length : Int)
      ·rw [if_pos c45] at H
       have c45b0 : decide (x21_1 < (t470.length : Int)) = true := decide_eq_true c45
       clear c45
       by_cases c46 : 0 ≤ x21_1
       ·rw [if_pos c46] at H
        have c46b0 : decide (0 ≤ x21_1) = true := decide_eq_true c46
        clear c46
        replace H := Option.bind_eq_some_iff.mp H
        obtain ⟨t477, A470, H⟩ := H
        replace H : (if t477 = true then (awardingbodylaw14_AccessGrows.l0 k1 (wrap64 (1 + t457)) t460 t464 t466 t467 t468 t469 t470 t473 (wrap64 (x21_1 + 1)) t458 t459 t462 t463) else (none)) = some r := H
        have A47 := Aside0.mk A470
        clear A470
        by_cases c48 : t477 = true
        ·subst c48
         have H1 : (awardingbodylaw14_AccessGrows.l0 k1 (wrap64 (1 + t457)) t460 t464 t466 t467 t468 t469 t470 t473 (wrap64 (x21_1 + 1)) t458 t459 t462 t463) = some r := by rw [if_pos rfl] at H; exact H
         clear H
         have H := H1
         clear H1
         have H' := Aside0.mk H
         clear H
         obtain ⟨Ao49, co49, eo49⟩ := Kd.R_slice HO_19.out
         subst eo49
         have p476 : 0 ≤ (x21_1 : Int) := of_decide_eq_true (by first | (with_reducible assumption) | assumption)
         have q476 : x21_1 < (t470.length : Int) := of_decide_eq_true (by first | (with_reducible assumption) | assumption)
         obtain ⟨ad476, e476, hx476_0⟩ := Kd.at_int (Kd.R_reads' HO_19.out).2.2 x21_1 p476 q476
         cases e476
         replace p476 := eq_true p476
         replace q476 := eq_true q476
         obtain ⟨Ao50, co50, eo50⟩ := Kd.R_slice HO_20.out
         subst eo50
         go_wp2_with (first | ((with_reducible refine gate_callee (f := 29) rfl ?_); refine goesL_ (some 87) rfl rfl Try.func29 (by kernel_rfl) rfl #[.slice Ao50 t473.length co50, .int .i64 (rd t470 x21_1)] rfl (by (try simp only [List.map_toArray, List.map_cons, List.map_nil]); first | done | rfl | (simp only [List.length_drop, List.length_take]; rfl)) ?_; (with_reducible refine (awardingbodyref06_Has.calls k1 _ _ t473 (rd t470 x21_1) true _ ?side1 ?side2 A47.out).mono ?_); (case side1 => repeat (first | exact (Kd.R_reads' HO_20.out).2.2 | (with_reducible refine Kd.C_alloc ?_ _) | (with_reducible refine Kd.C_drewN ?_ _) | (with_reducible refine Kd.C_drew ?_))); (case side2 => exact (Kd.R_reads' HO_20.out).2.1); rintro e w' ⟨rfl, ⟨nd, rfl⟩⟩; refine ⟨_, rfl, ?_⟩))
         go_roundg k1
         case measure => have := HK1.out; omega
         case rel => exact ⟨(wrap64 (x21_1 + 1)), (by first | rfl | (simp; done) | (simp [*]; done)), H', ⟨by have := HK1.out; omega⟩, ⟨by (with_reducible repeat (first | apply Kd.R_alloc | apply Kd.R_drewN | apply Kd.R_drew)); exact HO_19.out⟩, ⟨by (with_reducible repeat (first | apply Kd.R_alloc | apply Kd.R_drewN | apply Kd.R_drew)); exact HO_20.out⟩, ⟨by (with_reducible repeat (first | refine blk_drewN ?_ _ | refine blk_drew ?_ | refine blk_alloc ?_ _)); exact BK461.out⟩, ⟨by (with_reducible repeat (first | refine blk_drewN ?_ _ | refine blk_drew ?_ | refine blk_alloc ?_ _)); exact BK465.out⟩, ⟨by repeat (first | (with_reducible first | exact HB.out | apply below_alloc | apply pw_below_drewN | apply below_drew1 | refine below_set ?_ GE461.out | refine below_set ?_ GE465.out) | exact HB.out)⟩⟩
        ·replace c48 := Bool.eq_false_iff.mpr c48
         subst c48
         have H1 : (none) = some r := by rw [if_neg (show ¬ (false = true) by decide)] at H; exact H
         clear H
         have H := H1
         clear H1
         exact absurd H (by simp)
       ·rw [if_neg c46] at H
        exact absurd H (by simp)
      ·rw [if_neg c45] at H
       have c45b0 : decide (x21_1 < (t470.length : Int)) = false := decide_eq_false c45
       clear c45
       by_cases c51 : t460 = 0
       ·rw [if_pos c51] at H
        have c51b0 : (t460 == 0) = true := beq_iff_eq.mpr c51
        have c51b1 : (t460 != 0) = false := bne_eq_false_iff_eq.mpr c51
        clear c51
        by_cases c52 : t464 = 0
        ·rw [if_pos c52] at H
         have c52b0 : (t464 == 0) = true := beq_iff_eq.mpr c52
         have c52b1 : (t464 != 0) = false := bne_eq_false_iff_eq.mpr c52
         clear c52
         by_cases c53 : t467 = 0
         ·rw [if_pos c53] at H
          have c53b0 : (t467 == 0) = true := beq_iff_eq.mpr c53
          have c53b1 : (t467 != 0) = false := bne_eq_false_iff_eq.mpr c53
          clear c53
          by_cases c54 : t469 = 0
          ·rw [if_pos c54] at H
           have c54b0 : (t469 == 0) = true := beq_iff_eq.mpr c54
           have c54b1 : (t469 != 0) = false := bne_eq_false_iff_eq.mpr c54
           clear c54
           by_cases c55 : t458 ≤ t462
           ·rw [if_pos c55] at H
            have c55b0 : decide (t458 ≤ t462) = true := decide_eq_true c55
            clear c55
            by_cases c56 : (Go.bits .andNot .i64 t459 t463) = 0
            ·rw [if_pos c56] at H
             have c56b0 : ((Go.bits .andNot .i64 t459 t463) == 0) = true := beq_iff_eq.mpr c56
             have c56b1 : ((Go.bits .andNot .i64 t459 t463) != 0) = false := bne_eq_false_iff_eq.mpr c56
             clear c56
             by_cases c57 : t466 ≤ t468
             ·rw [if_pos c57] at H
              have c57b0 : decide (t466 ≤ t468) = true := decide_eq_true c57
              clear c57
              by_cases c58 : t466 ≥ (wrap64 (1 + t457))
              ·rw [if_pos c58] at H
               have c58b0 : decide ((wrap64 (1 + t457)) ≤ t466) = true := decide_eq_true c58
               clear c58
               replace H := Option.bind_eq_some_iff.mp H
               obtain ⟨t478, A590, H⟩ := H
               replace H : (some t478) = some r := H
               have A59 := Aside0.mk A590
               clear A590
               obtain rfl := Option.some.inj H
               obtain ⟨Ao60, co60, eo60⟩ := Kd.R_slice HO_19.out
               subst eo60
               have hnb61 := NB461_465.out
               have hnc61 := NB465_461.out
               have hcz62_0 : wr.cell? ⟨gb461, 0, none⟩ = some (.int .i64 t458) := (blk_cell BK461.out 0).trans rfl
               have hcz62_1 : wr.cell? ⟨gb461, 1, none⟩ = some (.int .i64 t459) := (blk_cell BK461.out 1).trans rfl
               have hfz62_0 := blk_frozen BK461.out 0
               have hfz62_1 := blk_frozen BK461.out 1
               have hcz63_0 : wr.cell? ⟨gb465, 0, none⟩ = some (.int .i64 t462) := (blk_cell BK465.out 0).trans rfl
               have hcz63_1 : wr.cell? ⟨gb465, 1, none⟩ = some (.int .i64 t463) := (blk_cell BK465.out 1).trans rfl
               have hfz63_0 := blk_frozen BK465.out 0
               have hfz63_1 := blk_frozen BK465.out 1
               go_wp2_with (first | (go_at_call 16; (with_reducible refine (awardingbodylaw14_awake.calls k1  t478 _ A59.out).mono ?_); rintro e w64 ⟨rfl, hb⟩; have n0_ := Aside0.mk (Kd.R_below (by (with_reducible repeat (first | apply Kd.R_alloc | apply Kd.R_drewN | apply Kd.R_drew)); exact HO_19.out) hb); have n1_ := Aside0.mk (Kd.R_below (by (with_reducible repeat (first | apply Kd.R_alloc | apply Kd.R_drewN | apply Kd.R_drew)); exact HO_20.out) hb); have n2_ := Aside0.mk (blk_below (g := gb461) (o := .cells #[.int .i64 t458, .int .i64 t459] 38 (0, 0)) (by (with_reducible repeat (first | refine blk_drewN ?_ _ | refine blk_drew ?_ | refine blk_alloc ?_ _)); exact BK461.out) hb); have n3_ := Aside0.mk (blk_below (g := gb465) (o := .cells #[.int .i64 t462, .int .i64 t463] 38 (0, 0)) (by (with_reducible repeat (first | refine blk_drewN ?_ _ | refine blk_drew ?_ | refine blk_alloc ?_ _)); exact BK465.out) hb); have n4_ := Aside0.mk (below_step (by repeat (first | (with_reducible first | exact HB.out | apply below_alloc | apply pw_below_drewN | apply below_drew1 | refine below_set ?_ GE461.out | refine below_set ?_ GE465.out) | exact HB.out)) hb); clear HO_19 HO_20 BK461 BK465 HB; have HO_19 := n0_; have HO_20 := n1_; have BK461 := n2_; have BK465 := n3_; have HB := n4_; clear n0_ n1_ n2_ n3_ n4_; (try clear hb); (try clear hb2); (try clear hk); (try clear hi)))
               go_ret
               exact ⟨by first | rfl | (simp [errW_none, errW_some] <;> rfl) | (simp [*, errW_none, errW_some] <;> rfl), by repeat (first | (with_reducible first | exact HB.out | apply below_alloc | apply pw_below_drewN | apply below_drew1 | refine below_set ?_ GE461.out | refine below_set ?_ GE465.out) | exact HB.out)⟩
              ·rw [if_neg c58] at H
               exact absurd H (by simp)
             ·rw [if_neg c57] at H
              exact absurd H (by simp)
            ·rw [if_neg c56] at H
             exact absurd H (by simp)
           ·rw [if_neg c55] at H
            exact absurd H (by simp)
          ·rw [if_neg c54] at H
           exact absurd H (by simp)
         ·rw [if_neg c53] at H
          exact absurd H (by simp)
        ·rw [if_neg c52] at H
         exact absurd H (by simp)
       ·rw [if_neg c51] at H
        exact absurd H (by simp)
   ·rw [if_neg c10] at H
    exact absurd H (by simp)
  ·rw [if_neg c8] at H
   exact absurd H (by simp)
 ·rw [if_neg c7] at H
  exact absurd H (by simp)

/-- THE ONE PURE STATEMENT of awardingbodylaw14_AccessGrows: yours. -/
def awardingbodylaw14_AccessGrows.Pure : Prop := ∀ (l0 : List Int) (a1 : Int) (a2 : Int), l0.length ≤ maxLen → l0.length * 8 ≤ 140737488351232 → (∀ x ∈ l0, (Lit.int .i64 x).wf = true) → (Lit.int .i64 a1).wf = true → (Lit.int .i64 a2).wf = true → ∃ k, awardingbodylaw14_AccessGrows.f k l0 a1 a2 = some true
theorem awardingbodylaw14_AccessGrows.walk (P : awardingbodylaw14_AccessGrows.Pure) (a0 : Option Addr) (len0 cap0 : Nat) (z0 : List Int) (a1 : Int) (a2 : Int) (w : World) (w0 : (a0 = none ∧ len0 = 0 ∧ cap0 = 0 ∧ z0 = []) ∨ ∃ x, a0 = some x ∧ len0 ≤ cap0 ∧ cap0 ≤ maxLen ∧ z0.length = cap0 ∧ (∀ i, i < z0.length → w.cell? (x.add i) = some (.int .i64 (z0.getD i 0))) ∧ ∀ n ∈ z0, (Lit.int .i64 n).wf = true) (y0 : len0 * 8 ≤ 140737488351232) (w1 : (Lit.int .i64 a1).wf = true) (w2 : (Lit.int .i64 a2).wf = true) :
  Calls Try.prog 8 #[.slice a0 len0 cap0, .int .i64 a1, .int .i64 a2] w fun e w' => e = .returned (.bool true) ∧ Below w.heap.size w w' := by
 obtain ⟨l0, rfl, hr0, hm0, hw0, hc0⟩ := ReadsInt.ofRowC w0
 obtain ⟨k, h⟩ := P l0 a1 a2 hm0 y0 hw0 w1 w2
 refine (awardingbodylaw14_AccessGrows.calls k _ _ l0 a1 a2 true w (Kd.C_of_reads (d := (0 : Int)) (h1 := fun _ => rfl) hr0) hc0 h).mono ?_
 rintro e w' ⟨rfl, hd⟩
 exact ⟨rfl, hd⟩

end Go.Proofs.Ytbgeoadaeihgkaa.Print
