-- Printed by a program of this session (wip/own_print.py) out of the translation; Lean checks it.
import Derived.Test.YtinmdoemkejanaaPrint0
import Derived.Test.YtinmdoemkejanaaPrint5
import Derived.Test.YtinmdoemkejanaaPrint7
import Derived.Test.YtinmdoemkejanaaPrint8
import Derived.Test.YtinmdoemkejanaaPrint16
namespace Go.Proofs.Ytinmdoemkejanaa.Print
open Go.RowKit Go.Proofs.YtinmdoemkejanaaW.PrintWords Go.Proofs.YtinmdoemkejanaaW.PrintLast Go.Proofs.YtinmdoemkejanaaW.PrintMore
attribute [local go_sem] max2_int min2_int max_two min_two max_three min_three max_four min_four   -- for this text's walks alone
set_option linter.unusedVariables false
set_option linter.unusedSimpArgs false

/-! ### awardingbodylaw06_ItemEnemies: function 8 -/
def awardingbodylaw06_ItemEnemies.f (k : Nat) (l0 : List Int) : Option (Bool) := (awardingbodymake_New.f l0).bind fun bt497 => ((awardingbodymake_Tape_Next.f bt497.1 bt497.2 3).bind fun bt500 => ((awardingbodymake_Tape_Item.f k bt497.1 bt500.2 bt500.1 1 8).bind fun bt502 => ((awardingbodymake_Tape_Next.f bt497.1 bt502.2.2.2.2.2 3).bind fun bt513 => ((awardingbodymake_Tape_Item.f k bt497.1 bt513.2 bt513.1 1 8).bind fun bt515 => ((item_Enemy.f k bt502.1 bt502.2.1 bt502.2.2.1 bt502.2.2.2.1 bt502.2.2.2.2.1 bt515.1 bt515.2.1 bt515.2.2.1 bt515.2.2.2.1 bt515.2.2.2.2.1).bind fun t526 => ((awardingbodyref06_Enemy.f k bt502.1 bt502.2.1 bt502.2.2.1 bt502.2.2.2.1 bt502.2.2.2.2.1 bt515.1 bt515.2.1 bt515.2.2.1 bt515.2.2.2.1 bt515.2.2.2.2.1).bind fun t527 => (if (t526 == t527) = true then ((item_Enemy.f k bt502.1 bt502.2.1 bt502.2.2.1 bt502.2.2.2.1 bt502.2.2.2.2.1 bt515.1 bt515.2.1 bt515.2.2.1 bt515.2.2.2.1 bt515.2.2.2.2.1).bind fun t528 => ((item_Enemy.f k bt515.1 bt515.2.1 bt515.2.2.1 bt515.2.2.2.1 bt515.2.2.2.2.1 bt502.1 bt502.2.1 bt502.2.2.1 bt502.2.2.2.1 bt502.2.2.2.2.1).bind fun t529 => (if (t528 == t529) = true then ((item_Enemy.f k bt502.1 bt502.2.1 bt502.2.2.1 bt502.2.2.2.1 bt502.2.2.2.2.1 bt502.1 bt502.2.1 bt502.2.2.1 bt502.2.2.2.1 bt502.2.2.2.2.1).bind fun t530 => (if t530 = true then (none) else ((awardingbodylaw06_awake.f k).bind fun t531 => (some t531)))) else (none)))) else (none))))))))
theorem awardingbodylaw06_ItemEnemies.mono : ∀ a0 k, LeO (awardingbodylaw06_ItemEnemies.f k a0) (awardingbodylaw06_ItemEnemies.f (k + 1) a0) := by
  intro a0 k
  unfold awardingbodylaw06_ItemEnemies.f
  repeat' first
      | (with_reducible exact awardingbodylaw06_awake.mono _)
      | (with_reducible exact awardingbodymake_Tape_Item.mono _ _ _ _ _ _)
      | (with_reducible exact awardingbodyref06_Enemy.mono _ _ _ _ _ _ _ _ _ _ _)
      | (with_reducible exact item_Enemy.mono _ _ _ _ _ _ _ _ _ _ _)
      | (with_reducible exact LeO.refl _)
      | (with_reducible exact LeO.none _)
      | (with_reducible refine LeO.ite ?_ ?_)
      | (with_reducible refine LeO.bind ?_ (fun _ => ?_))
      | exact awardingbodylaw06_awake.mono _
      | exact awardingbodymake_Tape_Item.mono _ _ _ _ _ _
      | exact awardingbodyref06_Enemy.mono _ _ _ _ _ _ _ _ _ _ _
      | exact item_Enemy.mono _ _ _ _ _ _ _ _ _ _ _
      | exact LeO.none _
      | refine LeO.ite ?_ ?_
      | refine LeO.bind ?_ (fun _ => ?_)
def awardingbodylaw06_ItemEnemies.T4 : Bool × List (List Nat × List Nat) := (true, [([], []), ([], []), ([0, 1], [0, 1]), ([], []), ([], []), ([3, 4, 2], [3, 4]), ([2, 5], [2, 5]), ([6, 5], [6]), ([7], [7]), ([7], [7]), ([8, 9, 7, 7], [7, 8, 9]), ([7], [7]), ([7], [7]), ([11, 12, 10, 7], [7, 11, 12]), ([10, 13, 7], [7, 10, 13]), ([7, 14], [7, 14]), ([15, 13], [15]), ([16], [16]), ([16], [16]), ([17, 18, 16, 16], [16, 17, 18]), ([19, 16], [16, 19]), ([16, 20], [16, 20]), ([21, 19], [21]), ([22, 22], [22]), ([22, 23], [22, 23]), ([24, 23, 0, 1, 2, 3, 4, 5, 6, 7, 8, 9, 10, 11, 12, 13, 14, 15, 16, 17, 18, 19, 20, 21, 22, 23, 24], [24])])
def awardingbodylaw06_ItemEnemies.B4 : List Nat := [0, 0, 3, 0, 0, 31, 63, 127, 255, 255, 1023, 255, 255, 8191, 16383, 32767, 65535, 131071, 131071, 524287, 1048575, 2097151, 4194303, 8388607, 16777215, 33554431]
theorem awardingbodylaw06_ItemEnemies.tab4 : rtab .any (opsOf Try.f8 4) = awardingbodylaw06_ItemEnemies.T4 := by kernel_rfl
theorem awardingbodylaw06_ItemEnemies.bits4 : waitsOk awardingbodylaw06_ItemEnemies.T4.2 awardingbodylaw06_ItemEnemies.B4 = true := by kernel_rfl
set_option maxHeartbeats 8000000 in
set_option maxRecDepth 100000 in
theorem awardingbodylaw06_ItemEnemies.calls (k : Nat) (A0 : Option Addr) (c0 : Nat) (l0 : List Int) (r : Bool) (w : World) (hr0 : Kd.C (Kd.int .i64) w A0 l0.length l0) (hc0 : l0.length ≤ c0) (h : awardingbodylaw06_ItemEnemies.f k l0 = some r) :
    Calls Try.prog 8 #[.slice A0 l0.length c0] w fun e w' => e = .returned (.bool r) ∧ Below w.heap.size w w' := by
 have hu33 := Try.underlying33
 have HR0 := Aside0.mk hr0
 have HC0 := Aside0.mk hc0
 clear hr0 hc0
 have HB := Aside0.mk (Below.refl w.heap.size w)
 have H : ((awardingbodymake_New.f l0).bind fun bt497 => ((awardingbodymake_Tape_Next.f bt497.1 bt497.2 3).bind fun bt500 => ((awardingbodymake_Tape_Item.f k bt497.1 bt500.2 bt500.1 1 8).bind fun bt502 => ((awardingbodymake_Tape_Next.f bt497.1 bt502.2.2.2.2.2 3).bind fun bt513 => ((awardingbodymake_Tape_Item.f k bt497.1 bt513.2 bt513.1 1 8).bind fun bt515 => ((item_Enemy.f k bt502.1 bt502.2.1 bt502.2.2.1 bt502.2.2.2.1 bt502.2.2.2.2.1 bt515.1 bt515.2.1 bt515.2.2.1 bt515.2.2.2.1 bt515.2.2.2.2.1).bind fun t526 => ((awardingbodyref06_Enemy.f k bt502.1 bt502.2.1 bt502.2.2.1 bt502.2.2.2.1 bt502.2.2.2.2.1 bt515.1 bt515.2.1 bt515.2.2.1 bt515.2.2.2.1 bt515.2.2.2.2.1).bind fun t527 => (if (t526 == t527) = true then ((item_Enemy.f k bt502.1 bt502.2.1 bt502.2.2.1 bt502.2.2.2.1 bt502.2.2.2.2.1 bt515.1 bt515.2.1 bt515.2.2.1 bt515.2.2.2.1 bt515.2.2.2.2.1).bind fun t528 => ((item_Enemy.f k bt515.1 bt515.2.1 bt515.2.2.1 bt515.2.2.2.1 bt515.2.2.2.2.1 bt502.1 bt502.2.1 bt502.2.2.1 bt502.2.2.2.1 bt502.2.2.2.2.1).bind fun t529 => (if (t528 == t529) = true then ((item_Enemy.f k bt502.1 bt502.2.1 bt502.2.2.1 bt502.2.2.2.1 bt502.2.2.2.2.1 bt502.1 bt502.2.1 bt502.2.2.1 bt502.2.2.2.1 bt502.2.2.2.2.1).bind fun t530 => (if t530 = true then (none) else ((awardingbodylaw06_awake.f k).bind fun t531 => (some t531)))) else (none)))) else (none))))))))) = some r := h
 clear h
 replace H := Option.bind_eq_some_iff.mp H
 obtain ⟨⟨t497, t498⟩, A20, H⟩ := H
 replace H : ((awardingbodymake_Tape_Next.f t497 t498 3).bind fun bt500 => ((awardingbodymake_Tape_Item.f k t497 bt500.2 bt500.1 1 8).bind fun bt502 => ((awardingbodymake_Tape_Next.f t497 bt502.2.2.2.2.2 3).bind fun bt513 => ((awardingbodymake_Tape_Item.f k t497 bt513.2 bt513.1 1 8).bind fun bt515 => ((item_Enemy.f k bt502.1 bt502.2.1 bt502.2.2.1 bt502.2.2.2.1 bt502.2.2.2.2.1 bt515.1 bt515.2.1 bt515.2.2.1 bt515.2.2.2.1 bt515.2.2.2.2.1).bind fun t526 => ((awardingbodyref06_Enemy.f k bt502.1 bt502.2.1 bt502.2.2.1 bt502.2.2.2.1 bt502.2.2.2.2.1 bt515.1 bt515.2.1 bt515.2.2.1 bt515.2.2.2.1 bt515.2.2.2.2.1).bind fun t527 => (if (t526 == t527) = true then ((item_Enemy.f k bt502.1 bt502.2.1 bt502.2.2.1 bt502.2.2.2.1 bt502.2.2.2.2.1 bt515.1 bt515.2.1 bt515.2.2.1 bt515.2.2.2.1 bt515.2.2.2.2.1).bind fun t528 => ((item_Enemy.f k bt515.1 bt515.2.1 bt515.2.2.1 bt515.2.2.2.1 bt515.2.2.2.2.1 bt502.1 bt502.2.1 bt502.2.2.1 bt502.2.2.2.1 bt502.2.2.2.2.1).bind fun t529 => (if (t528 == t529) = true then ((item_Enemy.f k bt502.1 bt502.2.1 bt502.2.2.1 bt502.2.2.2.1 bt502.2.2.2.2.1 bt502.1 bt502.2.1 bt502.2.2.1 bt502.2.2.2.1 bt502.2.2.2.2.1).bind fun t530 => (if t530 = true then (none) else ((awardingbodylaw06_awake.f k).bind fun t531 => (some t531)))) else (none)))) else (none)))))))) = some r := H
 have A2 := Aside0.mk A20
 clear A20
 replace H := Option.bind_eq_some_iff.mp H
 obtain ⟨⟨t500, t501⟩, A30, H⟩ := H
 replace H : ((awardingbodymake_Tape_Item.f k t497 t501 t500 1 8).bind fun bt502 => ((awardingbodymake_Tape_Next.f t497 bt502.2.2.2.2.2 3).bind fun bt513 => ((awardingbodymake_Tape_Item.f k t497 bt513.2 bt513.1 1 8).bind fun bt515 => ((item_Enemy.f k bt502.1 bt502.2.1 bt502.2.2.1 bt502.2.2.2.1 bt502.2.2.2.2.1 bt515.1 bt515.2.1 bt515.2.2.1 bt515.2.2.2.1 bt515.2.2.2.2.1).bind fun t526 => ((awardingbodyref06_Enemy.f k bt502.1 bt502.2.1 bt502.2.2.1 bt502.2.2.2.1 bt502.2.2.2.2.1 bt515.1 bt515.2.1 bt515.2.2.1 bt515.2.2.2.1 bt515.2.2.2.2.1).bind fun t527 => (if (t526 == t527) = true then ((item_Enemy.f k bt502.1 bt502.2.1 bt502.2.2.1 bt502.2.2.2.1 bt502.2.2.2.2.1 bt515.1 bt515.2.1 bt515.2.2.1 bt515.2.2.2.1 bt515.2.2.2.2.1).bind fun t528 => ((item_Enemy.f k bt515.1 bt515.2.1 bt515.2.2.1 bt515.2.2.2.1 bt515.2.2.2.2.1 bt502.1 bt502.2.1 bt502.2.2.1 bt502.2.2.2.1 bt502.2.2.2.2.1).bind fun t529 => (if (t528 == t529) = true then ((item_Enemy.f k bt502.1 bt502.2.1 bt502.2.2.1 bt502.2.2.2.1 bt502.2.2.2.2.1 bt502.1 bt502.2.1 bt502.2.2.1 bt502.2.2.2.1 bt502.2.2.2.2.1).bind fun t530 => (if t530 = true then (none) else ((awardingbodylaw06_awake.f k).bind fun t531 => (some t531)))) else (none)))) else (none))))))) = some r := H
 have A3 := Aside0.mk A30
 clear A30
 replace H := Option.bind_eq_some_iff.mp H
 obtain ⟨⟨t502, t503, t504, t505, t508, t511⟩, A40, H⟩ := H
 replace H : ((awardingbodymake_Tape_Next.f t497 t511 3).bind fun bt513 => ((awardingbodymake_Tape_Item.f k t497 bt513.2 bt513.1 1 8).bind fun bt515 => ((item_Enemy.f k t502 t503 t504 t505 t508 bt515.1 bt515.2.1 bt515.2.2.1 bt515.2.2.2.1 bt515.2.2.2.2.1).bind fun t526 => ((awardingbodyref06_Enemy.f k t502 t503 t504 t505 t508 bt515.1 bt515.2.1 bt515.2.2.1 bt515.2.2.2.1 bt515.2.2.2.2.1).bind fun t527 => (if (t526 == t527) = true then ((item_Enemy.f k t502 t503 t504 t505 t508 bt515.1 bt515.2.1 bt515.2.2.1 bt515.2.2.2.1 bt515.2.2.2.2.1).bind fun t528 => ((item_Enemy.f k bt515.1 bt515.2.1 bt515.2.2.1 bt515.2.2.2.1 bt515.2.2.2.2.1 t502 t503 t504 t505 t508).bind fun t529 => (if (t528 == t529) = true then ((item_Enemy.f k t502 t503 t504 t505 t508 t502 t503 t504 t505 t508).bind fun t530 => (if t530 = true then (none) else ((awardingbodylaw06_awake.f k).bind fun t531 => (some t531)))) else (none)))) else (none)))))) = some r := H
 have A4 := Aside0.mk A40
 clear A40
 replace H := Option.bind_eq_some_iff.mp H
 obtain ⟨⟨t513, t514⟩, A50, H⟩ := H
 replace H : ((awardingbodymake_Tape_Item.f k t497 t514 t513 1 8).bind fun bt515 => ((item_Enemy.f k t502 t503 t504 t505 t508 bt515.1 bt515.2.1 bt515.2.2.1 bt515.2.2.2.1 bt515.2.2.2.2.1).bind fun t526 => ((awardingbodyref06_Enemy.f k t502 t503 t504 t505 t508 bt515.1 bt515.2.1 bt515.2.2.1 bt515.2.2.2.1 bt515.2.2.2.2.1).bind fun t527 => (if (t526 == t527) = true then ((item_Enemy.f k t502 t503 t504 t505 t508 bt515.1 bt515.2.1 bt515.2.2.1 bt515.2.2.2.1 bt515.2.2.2.2.1).bind fun t528 => ((item_Enemy.f k bt515.1 bt515.2.1 bt515.2.2.1 bt515.2.2.2.1 bt515.2.2.2.2.1 t502 t503 t504 t505 t508).bind fun t529 => (if (t528 == t529) = true then ((item_Enemy.f k t502 t503 t504 t505 t508 t502 t503 t504 t505 t508).bind fun t530 => (if t530 = true then (none) else ((awardingbodylaw06_awake.f k).bind fun t531 => (some t531)))) else (none)))) else (none))))) = some r := H
 have A5 := Aside0.mk A50
 clear A50
 replace H := Option.bind_eq_some_iff.mp H
 obtain ⟨⟨t515, t516, t517, t518, t521, t524⟩, A60, H⟩ := H
 replace H : ((item_Enemy.f k t502 t503 t504 t505 t508 t515 t516 t517 t518 t521).bind fun t526 => ((awardingbodyref06_Enemy.f k t502 t503 t504 t505 t508 t515 t516 t517 t518 t521).bind fun t527 => (if (t526 == t527) = true then ((item_Enemy.f k t502 t503 t504 t505 t508 t515 t516 t517 t518 t521).bind fun t528 => ((item_Enemy.f k t515 t516 t517 t518 t521 t502 t503 t504 t505 t508).bind fun t529 => (if (t528 == t529) = true then ((item_Enemy.f k t502 t503 t504 t505 t508 t502 t503 t504 t505 t508).bind fun t530 => (if t530 = true then (none) else ((awardingbodylaw06_awake.f k).bind fun t531 => (some t531)))) else (none)))) else (none)))) = some r := H
 have A6 := Aside0.mk A60
 clear A60
 replace H := Option.bind_eq_some_iff.mp H
 obtain ⟨t526, A70, H⟩ := H
 replace H : ((awardingbodyref06_Enemy.f k t502 t503 t504 t505 t508 t515 t516 t517 t518 t521).bind fun t527 => (if (t526 == t527) = true then ((item_Enemy.f k t502 t503 t504 t505 t508 t515 t516 t517 t518 t521).bind fun t528 => ((item_Enemy.f k t515 t516 t517 t518 t521 t502 t503 t504 t505 t508).bind fun t529 => (if (t528 == t529) = true then ((item_Enemy.f k t502 t503 t504 t505 t508 t502 t503 t504 t505 t508).bind fun t530 => (if t530 = true then (none) else ((awardingbodylaw06_awake.f k).bind fun t531 => (some t531)))) else (none)))) else (none))) = some r := H
 have A7 := Aside0.mk A70
 clear A70
 replace H := Option.bind_eq_some_iff.mp H
 obtain ⟨t527, A80, H⟩ := H
 replace H : (if (t526 == t527) = true then ((item_Enemy.f k t502 t503 t504 t505 t508 t515 t516 t517 t518 t521).bind fun t528 => ((item_Enemy.f k t515 t516 t517 t518 t521 t502 t503 t504 t505 t508).bind fun t529 => (if (t528 == t529) = true then ((item_Enemy.f k t502 t503 t504 t505 t508 t502 t503 t504 t505 t508).bind fun t530 => (if t530 = true then (none) else ((awardingbodylaw06_awake.f k).bind fun t531 => (some t531)))) else (none)))) else (none)) = some r := H
 have A8 := Aside0.mk A80
 clear A80
 by_cases c9 : (t526 == t527) = true
 ·rw [if_pos c9] at H
  have c9b0 : (t526 == t527) = true := c9
  (try (have c9b1 : decide (t526 = t527) = true := by simpa using c9))
  (try (have c9b2 : (t526 == t527) = true := by simpa using c9))
  clear c9
  replace H := Option.bind_eq_some_iff.mp H
  obtain ⟨t528, A100, H⟩ := H
  replace H : ((item_Enemy.f k t515 t516 t517 t518 t521 t502 t503 t504 t505 t508).bind fun t529 => (if (t528 == t529) = true then ((item_Enemy.f k t502 t503 t504 t505 t508 t502 t503 t504 t505 t508).bind fun t530 => (if t530 = true then (none) else ((awardingbodylaw06_awake.f k).bind fun t531 => (some t531)))) else (none))) = some r := H
  have A10 := Aside0.mk A100
  clear A100
  replace H := Option.bind_eq_some_iff.mp H
  obtain ⟨t529, A110, H⟩ := H
  replace H : (if (t528 == t529) = true then ((item_Enemy.f k t502 t503 t504 t505 t508 t502 t503 t504 t505 t508).bind fun t530 => (if t530 = true then (none) else ((awardingbodylaw06_awake.f k).bind fun t531 => (some t531)))) else (none)) = some r := H
  have A11 := Aside0.mk A110
  clear A110
  by_cases c12 : (t528 == t529) = true
  ·rw [if_pos c12] at H
   have c12b0 : (t528 == t529) = true := c12
   (try (have c12b1 : decide (t528 = t529) = true := by simpa using c12))
   (try (have c12b2 : (t528 == t529) = true := by simpa using c12))
   clear c12
   replace H := Option.bind_eq_some_iff.mp H
   obtain ⟨t530, A130, H⟩ := H
   replace H : (if t530 = true then (none) else ((awardingbodylaw06_awake.f k).bind fun t531 => (some t531))) = some r := H
   have A13 := Aside0.mk A130
   clear A130
   by_cases c14 : t530 = true
   ·subst c14
    have H1 : (none) = some r := by rw [if_pos rfl] at H; exact H
    clear H
    have H := H1
    clear H1
    exact absurd H (by simp)
   ·replace c14 := Bool.eq_false_iff.mpr c14
    subst c14
    have H1 : ((awardingbodylaw06_awake.f k).bind fun t531 => (some t531)) = some r := by rw [if_neg (show ¬ (false = true) by decide)] at H; exact H
    clear H
    have H := H1
    clear H1
    replace H := Option.bind_eq_some_iff.mp H
    obtain ⟨t531, A150, H⟩ := H
    replace H : (some t531) = some r := H
    have A15 := Aside0.mk A150
    clear A150
    obtain rfl := Option.some.inj H
    go_enter Try.func8, Try.ntmps8
    try go_wp2_with (first | ((with_reducible refine gate_callee (f := 15) rfl ?_); refine goesL_ (some 7) rfl rfl Try.func15 (by kernel_rfl) rfl #[.slice A0 l0.length c0] rfl (by (try simp only [List.map_toArray, List.map_cons, List.map_nil]); first | done | rfl | (simp only [List.length_drop, List.length_take]; rfl)) ?_; (with_reducible refine (awardingbodymake_New.calls _ _ l0 t497 t498 w _ ?side1 ?side2 ?side3 A2.out).mono ?_); (case side1 => repeat (first | (with_reducible first | exact HB.out | apply below_alloc | apply pw_below_drewN | apply below_drew1) | exact HB.out)); (case side2 => exact HR0.out); (case side3 => exact HC0.out); rintro e w16 ⟨g499, rfl, hi, hb, hb2⟩; refine ⟨_, rfl, ?_⟩; have n0_ := Aside0.mk (hb); have n1_ := Aside0.mk (hi); clear HB; have HB := n0_; have HI499 := n1_; clear n0_ n1_; (try clear hb); (try clear hb2); (try clear hk); (try clear hi)) | ((with_reducible refine gate_callee (f := 17) rfl ?_); refine goesL_ (some 10) rfl rfl Try.func17 (by kernel_rfl) rfl #[.pointer (some ⟨g499, 0, none⟩), .int .i64 3] rfl (by (try simp only [List.map_toArray, List.map_cons, List.map_nil]); first | done | rfl | (simp only [List.length_drop, List.length_take]; rfl)) ?_; (with_reducible refine (awardingbodymake_Tape_Next.calls g499 t497 t498 3 t500 t501 w _ ?side1 ?side2 A3.out).mono ?_); (case side1 => repeat (first | (with_reducible first | exact HI499.out | apply IsS54.alloc | apply IsS54.drewN | apply IsS54.drew | apply IsS54.set_1) | exact HI499.out)); (case side2 => repeat (first | (with_reducible first | exact HB.out | apply below_alloc | apply pw_below_drewN | apply below_drew1 | refine below_set ?_ (IsS54.ge HI499.out)) | exact HB.out)); rintro e w17 ⟨rfl, hi, hb, hk⟩; refine ⟨_, rfl, ?_⟩; have n0_ := Aside0.mk (hb); have n1_ := Aside0.mk (hi); clear HB; clear HI499; have HB := n0_; have HI499 := n1_; clear n0_ n1_; (try clear hb); (try clear hb2); (try clear hk); (try clear hi)) | ((with_reducible refine gate_callee (f := 16) rfl ?_); refine goesL_ (some 11) rfl rfl Try.func16 (by kernel_rfl) rfl #[.pointer (some ⟨g499, 0, none⟩), .int .i64 t500, .int .i64 1, .int .i64 8] rfl (by (try simp only [List.map_toArray, List.map_cons, List.map_nil]); first | done | rfl | (simp only [List.length_drop, List.length_take]; rfl)) ?_; (with_reducible refine (awardingbodymake_Tape_Item.calls k g499 t497 t501 t500 1 8 t502 t503 t504 t505 t508 t511 w _ ?side1 ?side2 A4.out).mono ?_); (case side1 => repeat (first | (with_reducible first | exact HI499.out | apply IsS54.alloc | apply IsS54.drewN | apply IsS54.drew | apply IsS54.set_1) | exact HI499.out)); (case side2 => repeat (first | (with_reducible first | exact HB.out | apply below_alloc | apply pw_below_drewN | apply below_drew1 | refine below_set ?_ (IsS54.ge HI499.out)) | exact HB.out)); rintro e w18 ⟨v506, v509, rfl, ho0, ho1, hi, hb, hk⟩; refine ⟨_, rfl, ?_⟩; have n0_ := Aside0.mk (Kd.R_lower ho0 (below_size (by repeat (first | (with_reducible first | exact HB.out | apply below_alloc | apply pw_below_drewN | apply below_drew1 | refine below_set ?_ (IsS54.ge HI499.out)) | exact HB.out)))); have n1_ := Aside0.mk (Kd.R_lower ho1 (below_size (by repeat (first | (with_reducible first | exact HB.out | apply below_alloc | apply pw_below_drewN | apply below_drew1 | refine below_set ?_ (IsS54.ge HI499.out)) | exact HB.out)))); have n2_ := Aside0.mk (hb); have n3_ := Aside0.mk (hi); clear HB; clear HI499; have HO507 := n0_; have HO510 := n1_; have HB := n2_; have HI499 := n3_; clear n0_ n1_ n2_ n3_; (try clear hb); (try clear hb2); (try clear hk); (try clear hi); (try clear ho0); (try clear ho1)) | ((with_reducible refine gate_dst (N := 4) rfl ?_); refine box_event ?hg (N := 4) ?hd (cs := #[.int .i64 0, .int .i64 0, .string (⟨#[]⟩ : ByteArray), .slice none 0 0, .slice none 0 0]) (t := 33) ?hr ?_; (case hd => rfl); (case hg => rfl); (case hr => first | (go_simp; done) | (go_simp; rfl)); intro gb512 hg w19 hbox hb; have n0_ := Aside0.mk (Kd.R_below (by (with_reducible repeat (first | apply Kd.R_alloc | apply Kd.R_drewN | apply Kd.R_drew)); exact HO507.out) hb); have n1_ := Aside0.mk (Kd.R_below (by (with_reducible repeat (first | apply Kd.R_alloc | apply Kd.R_drewN | apply Kd.R_drew)); exact HO510.out) hb); have n2_ := Aside0.mk (IsS54.below (by repeat (first | (with_reducible first | exact HI499.out | apply IsS54.alloc | apply IsS54.drewN | apply IsS54.drew | apply IsS54.set_1) | exact HI499.out)) hb); have n3_ := Aside0.mk (below_step (by repeat (first | (with_reducible first | exact HB.out | apply below_alloc | apply pw_below_drewN | apply below_drew1 | refine below_set ?_ (IsS54.ge HI499.out)) | exact HB.out)) hb); have n4_ := Aside0.mk (hbox); have n5_ := Aside0.mk ((by rw [hg]; exact (below_size (by repeat (first | (with_reducible first | exact HB.out | apply below_alloc | apply pw_below_drewN | apply below_drew1 | refine below_set ?_ (IsS54.ge HI499.out)) | exact HB.out))) : w.heap.size ≤ gb512)); have n6_ := Aside0.mk ((by rw [hg]; exact (below_size (by repeat (first | (with_reducible first | exact HB.out | apply below_alloc | apply pw_below_drewN | apply below_drew1 | refine below_set ?_ (IsS54.ge HI499.out)) | exact HB.out))) : w.heap.size ≤ gb512)); have n7_ := Aside0.mk ((by rw [hg]; exact Nat.ne_of_lt (IsS54.lt (show IsS54 w _ g499 t497 t511 from by repeat (first | (with_reducible first | exact HI499.out | apply IsS54.alloc | apply IsS54.drewN | apply IsS54.drew | apply IsS54.set_1) | exact HI499.out))) : g499 ≠ gb512)); have n8_ := Aside0.mk ((by rw [hg]; exact Nat.ne_of_gt (IsS54.lt (show IsS54 w _ g499 t497 t511 from by repeat (first | (with_reducible first | exact HI499.out | apply IsS54.alloc | apply IsS54.drewN | apply IsS54.drew | apply IsS54.set_1) | exact HI499.out))) : gb512 ≠ g499)); clear HO507; clear HO510; clear HI499; clear HB; have HO507 := n0_; have HO510 := n1_; have HI499 := n2_; have HB := n3_; have BK512 := n4_; have GW512 := n5_; have GE512 := n6_; have NB499_512 := n7_; have NB512_499 := n8_; clear n0_ n1_ n2_ n3_ n4_ n5_ n6_ n7_ n8_; clear hb hbox hg; have hnb20 := NB512_499.out; have hnc20 := NB499_512.out; have hcz21_0 : w19.cell? ⟨gb512, 0, none⟩ = some (.int .i64 0) := (blk_cell BK512.out 0).trans rfl; have hcz21_1 : w19.cell? ⟨gb512, 1, none⟩ = some (.int .i64 0) := (blk_cell BK512.out 1).trans rfl; have hcz21_2 : w19.cell? ⟨gb512, 2, none⟩ = some (.string (⟨#[]⟩ : ByteArray)) := (blk_cell BK512.out 2).trans rfl; have hcz21_3 : w19.cell? ⟨gb512, 3, none⟩ = some (.slice none 0 0) := (blk_cell BK512.out 3).trans rfl; have hcz21_4 : w19.cell? ⟨gb512, 4, none⟩ = some (.slice none 0 0) := (blk_cell BK512.out 4).trans rfl; have hfz21_0 := blk_frozen BK512.out 0; have hfz21_1 := blk_frozen BK512.out 1; have hfz21_2 := blk_frozen BK512.out 2; have hfz21_3 := blk_frozen BK512.out 3; have hfz21_4 := blk_frozen BK512.out 4; obtain ⟨Ao22, co22, eo22⟩ := Kd.R_slice HO507.out; subst eo22; obtain ⟨Ao23, co23, eo23⟩ := Kd.R_slice HO510.out; subst eo23) | ((with_reducible refine gate_callee (f := 17) rfl ?_); refine goesL_ (some 14) rfl rfl Try.func17 (by kernel_rfl) rfl #[.pointer (some ⟨g499, 0, none⟩), .int .i64 3] rfl (by (try simp only [List.map_toArray, List.map_cons, List.map_nil]); first | done | rfl | (simp only [List.length_drop, List.length_take]; rfl)) ?_; (with_reducible refine (awardingbodymake_Tape_Next.calls g499 t497 t511 3 t513 t514 w _ ?side1 ?side2 A5.out).mono ?_); (case side1 => repeat (first | (with_reducible first | exact HI499.out | apply IsS54.alloc | apply IsS54.drewN | apply IsS54.drew | apply IsS54.set_1 | refine IsS54.far ?_ NB499_512.out _) | exact HI499.out)); (case side2 => repeat (first | (with_reducible first | exact HB.out | apply below_alloc | apply pw_below_drewN | apply below_drew1 | refine below_set ?_ (IsS54.ge HI499.out) | refine below_set ?_ GE512.out) | exact HB.out)); rintro e w24 ⟨rfl, hi, hb, hk⟩; refine ⟨_, rfl, ?_⟩; have n0_ := Aside0.mk (Kd.R_mono (Kd.R_keep (IsS54.apart (show IsS54 w _ g499 t497 t511 from by repeat (first | (with_reducible first | exact HI499.out | apply IsS54.alloc | apply IsS54.drewN | apply IsS54.drew | apply IsS54.set_1 | refine IsS54.far ?_ NB499_512.out _) | exact HI499.out)) (by (with_reducible repeat (first | apply Kd.R_alloc | apply Kd.R_drewN | apply Kd.R_drew)); exact (Kd.R_mono (Kd.R_far (p := ⟨gb512, 4, none⟩) (Kd.R_far (p := ⟨gb512, 3, none⟩) (Kd.R_far (p := ⟨gb512, 2, none⟩) (Kd.R_far (p := ⟨gb512, 1, none⟩) (Kd.R_far (p := ⟨gb512, 0, none⟩) (Kd.R_types HO507.out BK512.out (by decide)) (fun _ hk => hk.2) (.int .i64 t502)) (fun _ hk => hk.2) (.int .i64 t503)) (fun _ hk => hk.2) (.string t504)) (fun _ hk => hk.2) (.slice Ao22 t505.length co22)) (fun _ hk => hk.2) (.slice Ao23 t508.length co23)) (fun _ h_ => h_.1))) (by decide)) hk (fun _ h => h.2)) (fun _ h => h.1)); have n1_ := Aside0.mk (Kd.R_mono (Kd.R_keep (IsS54.apart (show IsS54 w _ g499 t497 t511 from by repeat (first | (with_reducible first | exact HI499.out | apply IsS54.alloc | apply IsS54.drewN | apply IsS54.drew | apply IsS54.set_1 | refine IsS54.far ?_ NB499_512.out _) | exact HI499.out)) (by (with_reducible repeat (first | apply Kd.R_alloc | apply Kd.R_drewN | apply Kd.R_drew)); exact (Kd.R_mono (Kd.R_far (p := ⟨gb512, 4, none⟩) (Kd.R_far (p := ⟨gb512, 3, none⟩) (Kd.R_far (p := ⟨gb512, 2, none⟩) (Kd.R_far (p := ⟨gb512, 1, none⟩) (Kd.R_far (p := ⟨gb512, 0, none⟩) (Kd.R_types HO510.out BK512.out (by decide)) (fun _ hk => hk.2) (.int .i64 t502)) (fun _ hk => hk.2) (.int .i64 t503)) (fun _ hk => hk.2) (.string t504)) (fun _ hk => hk.2) (.slice Ao22 t505.length co22)) (fun _ hk => hk.2) (.slice Ao23 t508.length co23)) (fun _ h_ => h_.1))) (by decide)) hk (fun _ h => h.2)) (fun _ h => h.1)); have n2_ := Aside0.mk (KeepBut.blk hk (g' := gb512) (o := .cells #[.int .i64 t502, .int .i64 t503, .string t504, .slice Ao22 t505.length co22, .slice Ao23 t508.length co23] 33 (0, 0)) (by (with_reducible repeat (first | refine blk_drewN ?_ _ | refine blk_drew ?_ | refine blk_alloc ?_ _)); refine blk_put (cs := #[.int .i64 t502, .int .i64 t503, .string t504, .slice Ao22 t505.length co22, .slice none 0 0]) ?_ 4 _ rfl; (with_reducible repeat (first | refine blk_drewN ?_ _ | refine blk_drew ?_ | refine blk_alloc ?_ _)); refine blk_put (cs := #[.int .i64 t502, .int .i64 t503, .string t504, .slice none 0 0, .slice none 0 0]) ?_ 3 _ rfl; (with_reducible repeat (first | refine blk_drewN ?_ _ | refine blk_drew ?_ | refine blk_alloc ?_ _)); refine blk_put (cs := #[.int .i64 t502, .int .i64 t503, .string (⟨#[]⟩ : ByteArray), .slice none 0 0, .slice none 0 0]) ?_ 2 _ rfl; (with_reducible repeat (first | refine blk_drewN ?_ _ | refine blk_drew ?_ | refine blk_alloc ?_ _)); refine blk_put (cs := #[.int .i64 t502, .int .i64 0, .string (⟨#[]⟩ : ByteArray), .slice none 0 0, .slice none 0 0]) ?_ 1 _ rfl; (with_reducible repeat (first | refine blk_drewN ?_ _ | refine blk_drew ?_ | refine blk_alloc ?_ _)); refine blk_put (cs := #[.int .i64 0, .int .i64 0, .string (⟨#[]⟩ : ByteArray), .slice none 0 0, .slice none 0 0]) ?_ 0 _ rfl; (with_reducible repeat (first | refine blk_drewN ?_ _ | refine blk_drew ?_ | refine blk_alloc ?_ _)); exact BK512.out) NB512_499.out (by simp)); have n3_ := Aside0.mk (hb); have n4_ := Aside0.mk (hi); clear HO507; clear HO510; clear BK512; clear HB; clear HI499; have HO507 := n0_; have HO510 := n1_; have BK512 := n2_; have HB := n3_; have HI499 := n4_; clear n0_ n1_ n2_ n3_ n4_; (try clear hb); (try clear hb2); (try clear hk); (try clear hi)) | ((with_reducible refine gate_callee (f := 16) rfl ?_); refine goesL_ (some 15) rfl rfl Try.func16 (by kernel_rfl) rfl #[.pointer (some ⟨g499, 0, none⟩), .int .i64 t513, .int .i64 1, .int .i64 8] rfl (by (try simp only [List.map_toArray, List.map_cons, List.map_nil]); first | done | rfl | (simp only [List.length_drop, List.length_take]; rfl)) ?_; (with_reducible refine (awardingbodymake_Tape_Item.calls k g499 t497 t514 t513 1 8 t515 t516 t517 t518 t521 t524 w _ ?side1 ?side2 A6.out).mono ?_); (case side1 => repeat (first | (with_reducible first | exact HI499.out | apply IsS54.alloc | apply IsS54.drewN | apply IsS54.drew | apply IsS54.set_1 | refine IsS54.far ?_ NB499_512.out _) | exact HI499.out)); (case side2 => repeat (first | (with_reducible first | exact HB.out | apply below_alloc | apply pw_below_drewN | apply below_drew1 | refine below_set ?_ (IsS54.ge HI499.out) | refine below_set ?_ GE512.out) | exact HB.out)); rintro e w25 ⟨v519, v522, rfl, ho0, ho1, hi, hb, hk⟩; refine ⟨_, rfl, ?_⟩; have n0_ := Aside0.mk (Kd.R_mono (Kd.R_told (Kd.R_oldK (IsS54.apart (show IsS54 w _ g499 t497 t514 from by repeat (first | (with_reducible first | exact HI499.out | apply IsS54.alloc | apply IsS54.drewN | apply IsS54.drew | apply IsS54.set_1 | refine IsS54.far ?_ NB499_512.out _) | exact HI499.out)) (by (with_reducible repeat (first | apply Kd.R_alloc | apply Kd.R_drewN | apply Kd.R_drew)); exact HO507.out) (by decide)) hk) (Kd.R_base ho0)) (fun _ h_ => h_.1)); have n1_ := Aside0.mk (Kd.R_mono (Kd.R_told (Kd.R_oldK (IsS54.apart (show IsS54 w _ g499 t497 t514 from by repeat (first | (with_reducible first | exact HI499.out | apply IsS54.alloc | apply IsS54.drewN | apply IsS54.drew | apply IsS54.set_1 | refine IsS54.far ?_ NB499_512.out _) | exact HI499.out)) (by (with_reducible repeat (first | apply Kd.R_alloc | apply Kd.R_drewN | apply Kd.R_drew)); exact HO510.out) (by decide)) hk) (Kd.R_base ho1)) (fun _ h_ => h_.1)); have n2_ := Aside0.mk (KeepBut.blk hk (g' := gb512) (o := .cells #[.int .i64 t502, .int .i64 t503, .string t504, .slice Ao22 t505.length co22, .slice Ao23 t508.length co23] 33 (0, 0)) (by (with_reducible repeat (first | refine blk_drewN ?_ _ | refine blk_drew ?_ | refine blk_alloc ?_ _)); exact BK512.out) NB512_499.out (by simp)); have n3_ := Aside0.mk (Kd.R_lower (Kd.R_new' ho0 (Kd.R_lt (by (with_reducible repeat (first | apply Kd.R_alloc | apply Kd.R_drewN | apply Kd.R_drew)); exact HO507.out))) (below_size (by repeat (first | (with_reducible first | exact HB.out | apply below_alloc | apply pw_below_drewN | apply below_drew1 | refine below_set ?_ (IsS54.ge HI499.out) | refine below_set ?_ GE512.out) | exact HB.out)))); have n4_ := Aside0.mk (Kd.R_lower (Kd.R_new' ho1 (Kd.R_lt (by (with_reducible repeat (first | apply Kd.R_alloc | apply Kd.R_drewN | apply Kd.R_drew)); exact HO510.out))) (below_size (by repeat (first | (with_reducible first | exact HB.out | apply below_alloc | apply pw_below_drewN | apply below_drew1 | refine below_set ?_ (IsS54.ge HI499.out) | refine below_set ?_ GE512.out) | exact HB.out)))); have n5_ := Aside0.mk (hb); have n6_ := Aside0.mk (hi); clear HO507; clear HO510; clear BK512; clear HB; clear HI499; have HO507 := n0_; have HO510 := n1_; have BK512 := n2_; have HO520 := n3_; have HO523 := n4_; have HB := n5_; have HI499 := n6_; clear n0_ n1_ n2_ n3_ n4_ n5_ n6_; (try clear hb); (try clear hb2); (try clear hk); (try clear hi); (try clear ho0); (try clear ho1)) | ((with_reducible refine gate_dst (N := 5) rfl ?_); refine box_event ?hg (N := 5) ?hd (cs := #[.int .i64 0, .int .i64 0, .string (⟨#[]⟩ : ByteArray), .slice none 0 0, .slice none 0 0]) (t := 33) ?hr ?_; (case hd => rfl); (case hg => rfl); (case hr => first | (go_simp; done) | (go_simp; rfl)); intro gb525 hg w26 hbox hb; have n0_ := Aside0.mk (Kd.R_below (by (with_reducible repeat (first | apply Kd.R_alloc | apply Kd.R_drewN | apply Kd.R_drew)); exact HO507.out) hb); have n1_ := Aside0.mk (Kd.R_below (by (with_reducible repeat (first | apply Kd.R_alloc | apply Kd.R_drewN | apply Kd.R_drew)); exact HO510.out) hb); have n2_ := Aside0.mk (Kd.R_below (by (with_reducible repeat (first | apply Kd.R_alloc | apply Kd.R_drewN | apply Kd.R_drew)); exact HO520.out) hb); have n3_ := Aside0.mk (Kd.R_below (by (with_reducible repeat (first | apply Kd.R_alloc | apply Kd.R_drewN | apply Kd.R_drew)); exact HO523.out) hb); have n4_ := Aside0.mk (IsS54.below (by repeat (first | (with_reducible first | exact HI499.out | apply IsS54.alloc | apply IsS54.drewN | apply IsS54.drew | apply IsS54.set_1 | refine IsS54.far ?_ NB499_512.out _) | exact HI499.out)) hb); have n5_ := Aside0.mk (blk_below (g := gb512) (o := .cells #[.int .i64 t502, .int .i64 t503, .string t504, .slice Ao22 t505.length co22, .slice Ao23 t508.length co23] 33 (0, 0)) (by (with_reducible repeat (first | refine blk_drewN ?_ _ | refine blk_drew ?_ | refine blk_alloc ?_ _)); exact BK512.out) hb); have n6_ := Aside0.mk (below_step (by repeat (first | (with_reducible first | exact HB.out | apply below_alloc | apply pw_below_drewN | apply below_drew1 | refine below_set ?_ (IsS54.ge HI499.out) | refine below_set ?_ GE512.out) | exact HB.out)) hb); have n7_ := Aside0.mk (hbox); have n8_ := Aside0.mk ((by rw [hg]; exact (below_size (by repeat (first | (with_reducible first | exact HB.out | apply below_alloc | apply pw_below_drewN | apply below_drew1 | refine below_set ?_ (IsS54.ge HI499.out) | refine below_set ?_ GE512.out) | exact HB.out))) : w.heap.size ≤ gb525)); have n9_ := Aside0.mk ((by rw [hg]; exact (below_size (by repeat (first | (with_reducible first | exact HB.out | apply below_alloc | apply pw_below_drewN | apply below_drew1 | refine below_set ?_ (IsS54.ge HI499.out) | refine below_set ?_ GE512.out) | exact HB.out))) : w.heap.size ≤ gb525)); have n10_ := Aside0.mk ((by rw [hg]; exact Nat.ne_of_lt (blk_lt (g := gb512) (o := .cells #[.int .i64 t502, .int .i64 t503, .string t504, .slice Ao22 t505.length co22, .slice Ao23 t508.length co23] 33 (0, 0)) (by (with_reducible repeat (first | refine blk_drewN ?_ _ | refine blk_drew ?_ | refine blk_alloc ?_ _)); exact BK512.out)) : gb512 ≠ gb525)); have n11_ := Aside0.mk ((by rw [hg]; exact Nat.ne_of_gt (blk_lt (g := gb512) (o := .cells #[.int .i64 t502, .int .i64 t503, .string t504, .slice Ao22 t505.length co22, .slice Ao23 t508.length co23] 33 (0, 0)) (by (with_reducible repeat (first | refine blk_drewN ?_ _ | refine blk_drew ?_ | refine blk_alloc ?_ _)); exact BK512.out)) : gb525 ≠ gb512)); have n12_ := Aside0.mk ((by rw [hg]; exact Nat.ne_of_lt (IsS54.lt (show IsS54 w _ g499 t497 t524 from by repeat (first | (with_reducible first | exact HI499.out | apply IsS54.alloc | apply IsS54.drewN | apply IsS54.drew | apply IsS54.set_1 | refine IsS54.far ?_ NB499_512.out _) | exact HI499.out))) : g499 ≠ gb525)); have n13_ := Aside0.mk ((by rw [hg]; exact Nat.ne_of_gt (IsS54.lt (show IsS54 w _ g499 t497 t524 from by repeat (first | (with_reducible first | exact HI499.out | apply IsS54.alloc | apply IsS54.drewN | apply IsS54.drew | apply IsS54.set_1 | refine IsS54.far ?_ NB499_512.out _) | exact HI499.out))) : gb525 ≠ g499)); clear HO507; clear HO510; clear HO520; clear HO523; clear HI499; clear BK512; clear HB; have HO507 := n0_; have HO510 := n1_; have HO520 := n2_; have HO523 := n3_; have HI499 := n4_; have BK512 := n5_; have HB := n6_; have BK525 := n7_; have GW525 := n8_; have GE525 := n9_; have NB512_525 := n10_; have NB525_512 := n11_; have NB499_525 := n12_; have NB525_499 := n13_; clear n0_ n1_ n2_ n3_ n4_ n5_ n6_ n7_ n8_ n9_ n10_ n11_ n12_ n13_; clear hb hbox hg; have hnb27 := NB525_512.out; have hnc27 := NB512_525.out; have hnb28 := NB525_499.out; have hnc28 := NB499_525.out; have hcz29_0 : w26.cell? ⟨gb525, 0, none⟩ = some (.int .i64 0) := (blk_cell BK525.out 0).trans rfl; have hcz29_1 : w26.cell? ⟨gb525, 1, none⟩ = some (.int .i64 0) := (blk_cell BK525.out 1).trans rfl; have hcz29_2 : w26.cell? ⟨gb525, 2, none⟩ = some (.string (⟨#[]⟩ : ByteArray)) := (blk_cell BK525.out 2).trans rfl; have hcz29_3 : w26.cell? ⟨gb525, 3, none⟩ = some (.slice none 0 0) := (blk_cell BK525.out 3).trans rfl; have hcz29_4 : w26.cell? ⟨gb525, 4, none⟩ = some (.slice none 0 0) := (blk_cell BK525.out 4).trans rfl; have hfz29_0 := blk_frozen BK525.out 0; have hfz29_1 := blk_frozen BK525.out 1; have hfz29_2 := blk_frozen BK525.out 2; have hfz29_3 := blk_frozen BK525.out 3; have hfz29_4 := blk_frozen BK525.out 4; obtain ⟨Ao30, co30, eo30⟩ := Kd.R_slice HO520.out; subst eo30; obtain ⟨Ao31, co31, eo31⟩ := Kd.R_slice HO523.out; subst eo31))
    have n0_ : Aside0 (Kd.R k23 23 (((((w26.setCell ⟨gb525, 0, none⟩ (.int .i64 t515)).setCell ⟨gb525, 1, none⟩ (.int .i64 t516)).setCell ⟨gb525, 2, none⟩ (.string t517)).setCell ⟨gb525, 3, none⟩ (.slice Ao30 t518.length co30)).setCell ⟨gb525, 4, none⟩ (.slice Ao31 t521.length co31)) w.heap.size (fun k_ => some k_ ≠ (.slice Ao30 t518.length co30 : Value).ownBlock) (.slice Ao22 t505.length co22) t505) := ⟨by (with_reducible repeat (first | apply Kd.R_alloc | apply Kd.R_drewN | apply Kd.R_drew)); exact Kd.R_mono (Kd.R_far (p := ⟨gb525, 4, none⟩) (Kd.R_far (p := ⟨gb525, 3, none⟩) (Kd.R_far (p := ⟨gb525, 2, none⟩) (Kd.R_far (p := ⟨gb525, 1, none⟩) (Kd.R_far (p := ⟨gb525, 0, none⟩) (Kd.R_types HO507.out BK525.out (by decide)) (fun _ hk => hk.2) (.int .i64 t515)) (fun _ hk => hk.2) (.int .i64 t516)) (fun _ hk => hk.2) (.string t517)) (fun _ hk => hk.2) (.slice Ao30 t518.length co30)) (fun _ hk => hk.2) (.slice Ao31 t521.length co31)) (fun _ hk => hk.1.2)⟩
    have n1_ : Aside0 (Kd.R (Kd.int .i64) 3 (((((w26.setCell ⟨gb525, 0, none⟩ (.int .i64 t515)).setCell ⟨gb525, 1, none⟩ (.int .i64 t516)).setCell ⟨gb525, 2, none⟩ (.string t517)).setCell ⟨gb525, 3, none⟩ (.slice Ao30 t518.length co30)).setCell ⟨gb525, 4, none⟩ (.slice Ao31 t521.length co31)) w.heap.size (fun k_ => some k_ ≠ (.slice Ao31 t521.length co31 : Value).ownBlock) (.slice Ao23 t508.length co23) t508) := ⟨by (with_reducible repeat (first | apply Kd.R_alloc | apply Kd.R_drewN | apply Kd.R_drew)); exact Kd.R_mono (Kd.R_far (p := ⟨gb525, 4, none⟩) (Kd.R_far (p := ⟨gb525, 3, none⟩) (Kd.R_far (p := ⟨gb525, 2, none⟩) (Kd.R_far (p := ⟨gb525, 1, none⟩) (Kd.R_far (p := ⟨gb525, 0, none⟩) (Kd.R_types HO510.out BK525.out (by decide)) (fun _ hk => hk.2) (.int .i64 t515)) (fun _ hk => hk.2) (.int .i64 t516)) (fun _ hk => hk.2) (.string t517)) (fun _ hk => hk.2) (.slice Ao30 t518.length co30)) (fun _ hk => hk.2) (.slice Ao31 t521.length co31)) (fun _ hk => hk.1.2)⟩
    have n2_ : Aside0 (Kd.R k23 23 (((((w26.setCell ⟨gb525, 0, none⟩ (.int .i64 t515)).setCell ⟨gb525, 1, none⟩ (.int .i64 t516)).setCell ⟨gb525, 2, none⟩ (.string t517)).setCell ⟨gb525, 3, none⟩ (.slice Ao30 t518.length co30)).setCell ⟨gb525, 4, none⟩ (.slice Ao31 t521.length co31)) w.heap.size (fun k_ => some k_ ≠ (.slice Ao22 t505.length co22 : Value).ownBlock) (.slice Ao30 t518.length co30) t518) := ⟨by (with_reducible repeat (first | apply Kd.R_alloc | apply Kd.R_drewN | apply Kd.R_drew)); exact Kd.R_mono (Kd.R_far (p := ⟨gb525, 4, none⟩) (Kd.R_far (p := ⟨gb525, 3, none⟩) (Kd.R_far (p := ⟨gb525, 2, none⟩) (Kd.R_far (p := ⟨gb525, 1, none⟩) (Kd.R_far (p := ⟨gb525, 0, none⟩) (Kd.R_types HO520.out BK525.out (by decide)) (fun _ hk => hk.2) (.int .i64 t515)) (fun _ hk => hk.2) (.int .i64 t516)) (fun _ hk => hk.2) (.string t517)) (fun _ hk => hk.2) (.slice Ao30 t518.length co30)) (fun _ hk => hk.2) (.slice Ao31 t521.length co31)) (fun _ hk => hk.1.2)⟩
    have n3_ : Aside0 (Kd.R (Kd.int .i64) 3 (((((w26.setCell ⟨gb525, 0, none⟩ (.int .i64 t515)).setCell ⟨gb525, 1, none⟩ (.int .i64 t516)).setCell ⟨gb525, 2, none⟩ (.string t517)).setCell ⟨gb525, 3, none⟩ (.slice Ao30 t518.length co30)).setCell ⟨gb525, 4, none⟩ (.slice Ao31 t521.length co31)) w.heap.size (fun k_ => some k_ ≠ (.slice Ao23 t508.length co23 : Value).ownBlock) (.slice Ao31 t521.length co31) t521) := ⟨by (with_reducible repeat (first | apply Kd.R_alloc | apply Kd.R_drewN | apply Kd.R_drew)); exact Kd.R_mono (Kd.R_far (p := ⟨gb525, 4, none⟩) (Kd.R_far (p := ⟨gb525, 3, none⟩) (Kd.R_far (p := ⟨gb525, 2, none⟩) (Kd.R_far (p := ⟨gb525, 1, none⟩) (Kd.R_far (p := ⟨gb525, 0, none⟩) (Kd.R_types HO523.out BK525.out (by decide)) (fun _ hk => hk.2) (.int .i64 t515)) (fun _ hk => hk.2) (.int .i64 t516)) (fun _ hk => hk.2) (.string t517)) (fun _ hk => hk.2) (.slice Ao30 t518.length co30)) (fun _ hk => hk.2) (.slice Ao31 t521.length co31)) (fun _ hk => hk.1.2)⟩
    have n4_ : Aside0 ((((((w26.setCell ⟨gb525, 0, none⟩ (.int .i64 t515)).setCell ⟨gb525, 1, none⟩ (.int .i64 t516)).setCell ⟨gb525, 2, none⟩ (.string t517)).setCell ⟨gb525, 3, none⟩ (.slice Ao30 t518.length co30)).setCell ⟨gb525, 4, none⟩ (.slice Ao31 t521.length co31)).heap[gb512]? = some (.cells #[.int .i64 t502, .int .i64 t503, .string t504, .slice Ao22 t505.length co22, .slice Ao23 t508.length co23] 33 (0, 0))) := ⟨by (with_reducible repeat (first | refine blk_drewN ?_ _ | refine blk_drew ?_ | refine blk_alloc ?_ _)); refine blk_far ?_ NB512_525.out _; (with_reducible repeat (first | refine blk_drewN ?_ _ | refine blk_drew ?_ | refine blk_alloc ?_ _)); refine blk_far ?_ NB512_525.out _; (with_reducible repeat (first | refine blk_drewN ?_ _ | refine blk_drew ?_ | refine blk_alloc ?_ _)); refine blk_far ?_ NB512_525.out _; (with_reducible repeat (first | refine blk_drewN ?_ _ | refine blk_drew ?_ | refine blk_alloc ?_ _)); refine blk_far ?_ NB512_525.out _; (with_reducible repeat (first | refine blk_drewN ?_ _ | refine blk_drew ?_ | refine blk_alloc ?_ _)); refine blk_far ?_ NB512_525.out _; (with_reducible repeat (first | refine blk_drewN ?_ _ | refine blk_drew ?_ | refine blk_alloc ?_ _)); exact BK512.out⟩
    have n5_ : Aside0 ((((((w26.setCell ⟨gb525, 0, none⟩ (.int .i64 t515)).setCell ⟨gb525, 1, none⟩ (.int .i64 t516)).setCell ⟨gb525, 2, none⟩ (.string t517)).setCell ⟨gb525, 3, none⟩ (.slice Ao30 t518.length co30)).setCell ⟨gb525, 4, none⟩ (.slice Ao31 t521.length co31)).heap[gb525]? = some (.cells #[.int .i64 t515, .int .i64 t516, .string t517, .slice Ao30 t518.length co30, .slice Ao31 t521.length co31] 33 (0, 0))) := ⟨by (with_reducible repeat (first | refine blk_drewN ?_ _ | refine blk_drew ?_ | refine blk_alloc ?_ _)); refine blk_put (cs := #[.int .i64 t515, .int .i64 t516, .string t517, .slice Ao30 t518.length co30, .slice none 0 0]) ?_ 4 _ rfl; (with_reducible repeat (first | refine blk_drewN ?_ _ | refine blk_drew ?_ | refine blk_alloc ?_ _)); refine blk_put (cs := #[.int .i64 t515, .int .i64 t516, .string t517, .slice none 0 0, .slice none 0 0]) ?_ 3 _ rfl; (with_reducible repeat (first | refine blk_drewN ?_ _ | refine blk_drew ?_ | refine blk_alloc ?_ _)); refine blk_put (cs := #[.int .i64 t515, .int .i64 t516, .string (⟨#[]⟩ : ByteArray), .slice none 0 0, .slice none 0 0]) ?_ 2 _ rfl; (with_reducible repeat (first | refine blk_drewN ?_ _ | refine blk_drew ?_ | refine blk_alloc ?_ _)); refine blk_put (cs := #[.int .i64 t515, .int .i64 0, .string (⟨#[]⟩ : ByteArray), .slice none 0 0, .slice none 0 0]) ?_ 1 _ rfl; (with_reducible repeat (first | refine blk_drewN ?_ _ | refine blk_drew ?_ | refine blk_alloc ?_ _)); refine blk_put (cs := #[.int .i64 0, .int .i64 0, .string (⟨#[]⟩ : ByteArray), .slice none 0 0, .slice none 0 0]) ?_ 0 _ rfl; (with_reducible repeat (first | refine blk_drewN ?_ _ | refine blk_drew ?_ | refine blk_alloc ?_ _)); exact BK525.out⟩
    have n6_ : Aside0 (IsS54 w (((((w26.setCell ⟨gb525, 0, none⟩ (.int .i64 t515)).setCell ⟨gb525, 1, none⟩ (.int .i64 t516)).setCell ⟨gb525, 2, none⟩ (.string t517)).setCell ⟨gb525, 3, none⟩ (.slice Ao30 t518.length co30)).setCell ⟨gb525, 4, none⟩ (.slice Ao31 t521.length co31)) g499 t497 t524) := ⟨by repeat (first | (with_reducible first | exact HI499.out | apply IsS54.alloc | apply IsS54.drewN | apply IsS54.drew | apply IsS54.set_1 | refine IsS54.far ?_ NB499_512.out _ | refine IsS54.far ?_ NB499_525.out _) | exact HI499.out)⟩
    have n7_ : Aside0 (Below w.heap.size w (((((w26.setCell ⟨gb525, 0, none⟩ (.int .i64 t515)).setCell ⟨gb525, 1, none⟩ (.int .i64 t516)).setCell ⟨gb525, 2, none⟩ (.string t517)).setCell ⟨gb525, 3, none⟩ (.slice Ao30 t518.length co30)).setCell ⟨gb525, 4, none⟩ (.slice Ao31 t521.length co31))) := ⟨by repeat (first | (with_reducible first | exact HB.out | apply below_alloc | apply pw_below_drewN | apply below_drew1 | refine below_set ?_ (IsS54.ge HI499.out) | refine below_set ?_ GE512.out | refine below_set ?_ GE525.out) | exact HB.out)⟩
    (try clear HO507)
    (try clear HO510)
    (try clear HO520)
    (try clear HO523)
    (try clear BK512)
    (try clear BK525)
    (try clear HI499)
    (try clear HB)
    generalize (((((w26.setCell ⟨gb525, 0, none⟩ (.int .i64 t515)).setCell ⟨gb525, 1, none⟩ (.int .i64 t516)).setCell ⟨gb525, 2, none⟩ (.string t517)).setCell ⟨gb525, 3, none⟩ (.slice Ao30 t518.length co30)).setCell ⟨gb525, 4, none⟩ (.slice Ao31 t521.length co31)) = w32 at n0_ n1_ n2_ n3_ n4_ n5_ n6_ n7_ ⊢
    have HO507 := n0_
    have HO510 := n1_
    have HO520 := n2_
    have HO523 := n3_
    have BK512 := n4_
    have BK525 := n5_
    have HI499 := n6_
    have HB := n7_
    clear n0_ n1_ n2_ n3_ n4_ n5_ n6_ n7_
    have n0_ := Aside0.mk (Kd.R_drew HO507.out)
    have n1_ := Aside0.mk (Kd.R_drew HO510.out)
    have n2_ := Aside0.mk (Kd.R_drew HO520.out)
    have n3_ := Aside0.mk (Kd.R_drew HO523.out)
    have n4_ := Aside0.mk (blk_drew BK512.out)
    have n5_ := Aside0.mk (blk_drew BK525.out)
    have n6_ := Aside0.mk (IsS54.drew HI499.out)
    have n7_ := Aside0.mk (below_drew1 HB.out)
    clear HO507
    clear HO510
    clear HO520
    clear HO523
    clear BK512
    clear BK525
    clear HI499
    clear HB
    have HO507 := n0_
    have HO510 := n1_
    have HO520 := n2_
    have HO523 := n3_
    have BK512 := n4_
    have BK525 := n5_
    have HI499 := n6_
    have HB := n7_
    clear n0_ n1_ n2_ n3_ n4_ n5_ n6_ n7_
    refine start_ (n := 26) (S := fun w' => w'.cell? ⟨gb512, 0, none⟩ = some (.int .i64 t502) ∧ w'.cell? ⟨gb512, 1, none⟩ = some (.int .i64 t503) ∧ w'.cell? ⟨gb512, 2, none⟩ = some (.string t504) ∧ w'.cell? ⟨gb512, 3, none⟩ = some (.slice Ao22 t505.length co22) ∧ w'.cell? ⟨gb512, 4, none⟩ = some (.slice Ao23 t508.length co23) ∧ w'.cell? ⟨gb525, 0, none⟩ = some (.int .i64 t515) ∧ w'.cell? ⟨gb525, 1, none⟩ = some (.int .i64 t516) ∧ w'.cell? ⟨gb525, 2, none⟩ = some (.string t517) ∧ w'.cell? ⟨gb525, 3, none⟩ = some (.slice Ao30 t518.length co30) ∧ w'.cell? ⟨gb525, 4, none⟩ = some (.slice Ao31 t521.length co31)) (ds := []) #[false, false, false, false, false, false, false, false, false, false, false, false, false, false, false, false, false, false, false, false, false, false, false, false, false, false] (by kernel_rfl) rfl rfl ⟨(blk_cell BK512.out 0).trans rfl, (blk_cell BK512.out 1).trans rfl, (blk_cell BK512.out 2).trans rfl, (blk_cell BK512.out 3).trans rfl, (blk_cell BK512.out 4).trans rfl, (blk_cell BK525.out 0).trans rfl, (blk_cell BK525.out 1).trans rfl, (blk_cell BK525.out 2).trans rfl, (blk_cell BK525.out 3).trans rfl, (blk_cell BK525.out 4).trans rfl⟩ (fun hHeld => ?_); refine with_tabW awardingbodylaw06_ItemEnemies.tab4 awardingbodylaw06_ItemEnemies.bits4 (fun HT_ HW_ => ?_)
    generalize w32.drew = w33 at HO507 HO510 HO520 HO523 BK512 BK525 HI499 HB hHeld ⊢
    refine take_ (i := 0) (N := some 16) (v := ?_) (a' := ?_) #[true, false, false, false, false, false, false, false, false, false, false, false, false, false, false, false, false, false, false, false, false, false, false, false, false, false] rfl rfl (take_ofW HT_.out HW_.out (by kernel_rfl)) (fun _ _ _ h => h) (Or.inl ⟨by rfl, ?_⟩) hHeld ?_ ?_
    rotate_left
    ·rintro w' ⟨s0, s1, s2, s3, s4, s5, s6, s7, s8, s9⟩
     go_simp
     with_reducible rfl
    rotate_left
    ·simp only [Act.put, List.setIfInBounds_toArray, List.set_cons_zero, List.set_cons_succ, i64_w, i32_w]
     rfl
    refine take_ (i := 1) (N := some 17) (v := ?_) (a' := ?_) #[true, true, false, false, false, false, false, false, false, false, false, false, false, false, false, false, false, false, false, false, false, false, false, false, false, false] rfl rfl (take_ofW HT_.out HW_.out (by kernel_rfl)) (fun _ _ _ h => h) (Or.inl ⟨by rfl, ?_⟩) hHeld ?_ ?_
    rotate_left
    ·rintro w' ⟨s0, s1, s2, s3, s4, s5, s6, s7, s8, s9⟩
     go_simp
     with_reducible rfl
    rotate_left
    ·simp only [Act.put, List.setIfInBounds_toArray, List.set_cons_zero, List.set_cons_succ, i64_w, i32_w]
     rfl
    refine take_ (i := 3) (N := some 19) (v := ?_) (a' := ?_) #[true, true, false, true, false, false, false, false, false, false, false, false, false, false, false, false, false, false, false, false, false, false, false, false, false, false] rfl rfl (take_ofW HT_.out HW_.out (by kernel_rfl)) (fun _ _ _ h => h) (Or.inl ⟨by rfl, ?_⟩) hHeld ?_ ?_
    rotate_left
    ·rintro w' ⟨s0, s1, s2, s3, s4, s5, s6, s7, s8, s9⟩
     go_simp
     with_reducible rfl
    rotate_left
    ·simp only [Act.put, List.setIfInBounds_toArray, List.set_cons_zero, List.set_cons_succ, i64_w, i32_w]
     rfl
    refine take_ (i := 4) (N := some 20) (v := ?_) (a' := ?_) #[true, true, false, true, true, false, false, false, false, false, false, false, false, false, false, false, false, false, false, false, false, false, false, false, false, false] rfl rfl (take_ofW HT_.out HW_.out (by kernel_rfl)) (fun _ _ _ h => h) (Or.inl ⟨by rfl, ?_⟩) hHeld ?_ ?_
    rotate_left
    ·rintro w' ⟨s0, s1, s2, s3, s4, s5, s6, s7, s8, s9⟩
     go_simp
     with_reducible rfl
    rotate_left
    ·simp only [Act.put, List.setIfInBounds_toArray, List.set_cons_zero, List.set_cons_succ, i64_w, i32_w]
     rfl
    refine one_ (i := 2) (N := some 18) #[true, true, true, true, true, false, false, false, false, false, false, false, false, false, false, false, false, false, false, false, false, false, false, false, false, false] rfl rfl (one_of HT_.out (by kernel_rfl)) (by decide) (fun K hK => ?_)
    refine goes_ Try.func31 (by kernel_rfl) rfl #[.agg #[.int .i64 t502, .int .i64 t503, .string t504, .slice Ao22 t505.length co22, .slice Ao23 t508.length co23], .agg #[.int .i64 t515, .int .i64 t516, .string t517, .slice Ao30 t518.length co30, .slice Ao31 t521.length co31]] (by rfl) rfl rfl (by (try simp only [List.map_toArray, List.map_cons, List.map_nil]); first | done | rfl | (simp only [List.length_drop, List.length_take]; rfl)) ?_
    with_reducible refine (item_Enemy.calls k t502 t503 t504 _ _ t505 _ _ t508 t515 t516 t517 _ _ t518 _ _ t521 t526 _ ?side1 ?side2 ?side3 ?side4 ?side5 ?side6 ?side7 ?side8 A7.out).mono ?_
    (case side1 => repeat (first | exact (Kd.R_reads' HO507.out).2.2 | (with_reducible refine Kd.C_alloc ?_ _) | (with_reducible refine Kd.C_drewN ?_ _) | (with_reducible refine Kd.C_drew ?_)))
    (case side2 => exact (Kd.R_reads' HO507.out).2.1)
    (case side3 => repeat (first | exact (Kd.R_reads' HO510.out).2.2 | (with_reducible refine Kd.C_alloc ?_ _) | (with_reducible refine Kd.C_drewN ?_ _) | (with_reducible refine Kd.C_drew ?_)))
    (case side4 => exact (Kd.R_reads' HO510.out).2.1)
    (case side5 => repeat (first | exact (Kd.R_reads' HO520.out).2.2 | (with_reducible refine Kd.C_alloc ?_ _) | (with_reducible refine Kd.C_drewN ?_ _) | (with_reducible refine Kd.C_drew ?_)))
    (case side6 => exact (Kd.R_reads' HO520.out).2.1)
    (case side7 => repeat (first | exact (Kd.R_reads' HO523.out).2.2 | (with_reducible refine Kd.C_alloc ?_ _) | (with_reducible refine Kd.C_drewN ?_ _) | (with_reducible refine Kd.C_drew ?_)))
    (case side8 => exact (Kd.R_reads' HO523.out).2.1)
    rintro e w34 ⟨rfl, hb⟩
    refine ⟨_, rfl, ?_⟩
    have n0_ := Aside0.mk (Kd.R_below (by (with_reducible repeat (first | apply Kd.R_alloc | apply Kd.R_drewN | apply Kd.R_drew)); exact HO507.out) hb)
    have n1_ := Aside0.mk (Kd.R_below (by (with_reducible repeat (first | apply Kd.R_alloc | apply Kd.R_drewN | apply Kd.R_drew)); exact HO510.out) hb)
    have n2_ := Aside0.mk (Kd.R_below (by (with_reducible repeat (first | apply Kd.R_alloc | apply Kd.R_drewN | apply Kd.R_drew)); exact HO520.out) hb)
    have n3_ := Aside0.mk (Kd.R_below (by (with_reducible repeat (first | apply Kd.R_alloc | apply Kd.R_drewN | apply Kd.R_drew)); exact HO523.out) hb)
    have n4_ := Aside0.mk (IsS54.below (by repeat (first | (with_reducible first | exact HI499.out | apply IsS54.alloc | apply IsS54.drewN | apply IsS54.drew | apply IsS54.set_1 | refine IsS54.far ?_ NB499_512.out _ | refine IsS54.far ?_ NB499_525.out _) | exact HI499.out)) hb)
    have n5_ := Aside0.mk (blk_below (g := gb512) (o := .cells #[.int .i64 t502, .int .i64 t503, .string t504, .slice Ao22 t505.length co22, .slice Ao23 t508.length co23] 33 (0, 0)) (by (with_reducible repeat (first | refine blk_drewN ?_ _ | refine blk_drew ?_ | refine blk_alloc ?_ _)); exact BK512.out) hb)
    have n6_ := Aside0.mk (blk_below (g := gb525) (o := .cells #[.int .i64 t515, .int .i64 t516, .string t517, .slice Ao30 t518.length co30, .slice Ao31 t521.length co31] 33 (0, 0)) (by (with_reducible repeat (first | refine blk_drewN ?_ _ | refine blk_drew ?_ | refine blk_alloc ?_ _)); exact BK525.out) hb)
    have n7_ := Aside0.mk (below_step (by repeat (first | (with_reducible first | exact HB.out | apply below_alloc | apply pw_below_drewN | apply below_drew1 | refine below_set ?_ (IsS54.ge HI499.out) | refine below_set ?_ GE512.out | refine below_set ?_ GE525.out) | exact HB.out)) hb)
    clear HO507
    clear HO510
    clear HO520
    clear HO523
    clear HI499
    clear BK512
    clear BK525
    clear HB
    have HO507 := n0_
    have HO510 := n1_
    have HO520 := n2_
    have HO523 := n3_
    have HI499 := n4_
    have BK512 := n5_
    have BK525 := n6_
    have HB := n7_
    clear n0_ n1_ n2_ n3_ n4_ n5_ n6_ n7_
    (try clear hb)
    (try clear hb2)
    (try clear hk)
    (try clear hi)
    refine hK.out _ _ ⟨(blk_cell BK512.out 0).trans rfl, (blk_cell BK512.out 1).trans rfl, (blk_cell BK512.out 2).trans rfl, (blk_cell BK512.out 3).trans rfl, (blk_cell BK512.out 4).trans rfl, (blk_cell BK525.out 0).trans rfl, (blk_cell BK525.out 1).trans rfl, (blk_cell BK525.out 2).trans rfl, (blk_cell BK525.out 3).trans rfl, (blk_cell BK525.out 4).trans rfl⟩ (fun hHeld => ?_)
    clear hK K
    refine norm_ (a' := ?_) ?_ ?_
    rotate_left
    ·show Act.put _ (some 18) _ = _
     simp only [Act.put, List.setIfInBounds_toArray, List.set_cons_zero, List.set_cons_succ, i64_w, i32_w]
     rfl
    refine one_ (i := 5) (N := some 21) #[true, true, true, true, true, true, false, false, false, false, false, false, false, false, false, false, false, false, false, false, false, false, false, false, false, false] rfl rfl (one_of HT_.out (by kernel_rfl)) (by decide) (fun K hK => ?_)
    refine goes_ Try.func32 (by kernel_rfl) rfl #[.agg #[.int .i64 t502, .int .i64 t503, .string t504, .slice Ao22 t505.length co22, .slice Ao23 t508.length co23], .agg #[.int .i64 t515, .int .i64 t516, .string t517, .slice Ao30 t518.length co30, .slice Ao31 t521.length co31]] (by rfl) rfl rfl (by (try simp only [List.map_toArray, List.map_cons, List.map_nil]); first | done | rfl | (simp only [List.length_drop, List.length_take]; rfl)) ?_
    with_reducible refine (awardingbodyref06_Enemy.calls k t502 t503 t504 _ _ t505 _ _ t508 t515 t516 t517 _ _ t518 _ _ t521 t527 _ ?side1 ?side2 ?side3 ?side4 ?side5 ?side6 ?side7 ?side8 A8.out).mono ?_
    (case side1 => repeat (first | exact (Kd.R_reads' HO507.out).2.2 | (with_reducible refine Kd.C_alloc ?_ _) | (with_reducible refine Kd.C_drewN ?_ _) | (with_reducible refine Kd.C_drew ?_)))
    (case side2 => exact (Kd.R_reads' HO507.out).2.1)
    (case side3 => repeat (first | exact (Kd.R_reads' HO510.out).2.2 | (with_reducible refine Kd.C_alloc ?_ _) | (with_reducible refine Kd.C_drewN ?_ _) | (with_reducible refine Kd.C_drew ?_)))
    (case side4 => exact (Kd.R_reads' HO510.out).2.1)
    (case side5 => repeat (first | exact (Kd.R_reads' HO520.out).2.2 | (with_reducible refine Kd.C_alloc ?_ _) | (with_reducible refine Kd.C_drewN ?_ _) | (with_reducible refine Kd.C_drew ?_)))
    (case side6 => exact (Kd.R_reads' HO520.out).2.1)
    (case side7 => repeat (first | exact (Kd.R_reads' HO523.out).2.2 | (with_reducible refine Kd.C_alloc ?_ _) | (with_reducible refine Kd.C_drewN ?_ _) | (with_reducible refine Kd.C_drew ?_)))
    (case side8 => exact (Kd.R_reads' HO523.out).2.1)
    rintro e w35 ⟨rfl, hb⟩
    refine ⟨_, rfl, ?_⟩
    have n0_ := Aside0.mk (Kd.R_below (by (with_reducible repeat (first | apply Kd.R_alloc | apply Kd.R_drewN | apply Kd.R_drew)); exact HO507.out) hb)
    have n1_ := Aside0.mk (Kd.R_below (by (with_reducible repeat (first | apply Kd.R_alloc | apply Kd.R_drewN | apply Kd.R_drew)); exact HO510.out) hb)
    have n2_ := Aside0.mk (Kd.R_below (by (with_reducible repeat (first | apply Kd.R_alloc | apply Kd.R_drewN | apply Kd.R_drew)); exact HO520.out) hb)
    have n3_ := Aside0.mk (Kd.R_below (by (with_reducible repeat (first | apply Kd.R_alloc | apply Kd.R_drewN | apply Kd.R_drew)); exact HO523.out) hb)
    have n4_ := Aside0.mk (IsS54.below (by repeat (first | (with_reducible first | exact HI499.out | apply IsS54.alloc | apply IsS54.drewN | apply IsS54.drew | apply IsS54.set_1 | refine IsS54.far ?_ NB499_512.out _ | refine IsS54.far ?_ NB499_525.out _) | exact HI499.out)) hb)
    have n5_ := Aside0.mk (blk_below (g := gb512) (o := .cells #[.int .i64 t502, .int .i64 t503, .string t504, .slice Ao22 t505.length co22, .slice Ao23 t508.length co23] 33 (0, 0)) (by (with_reducible repeat (first | refine blk_drewN ?_ _ | refine blk_drew ?_ | refine blk_alloc ?_ _)); exact BK512.out) hb)
    have n6_ := Aside0.mk (blk_below (g := gb525) (o := .cells #[.int .i64 t515, .int .i64 t516, .string t517, .slice Ao30 t518.length co30, .slice Ao31 t521.length co31] 33 (0, 0)) (by (with_reducible repeat (first | refine blk_drewN ?_ _ | refine blk_drew ?_ | refine blk_alloc ?_ _)); exact BK525.out) hb)
    have n7_ := Aside0.mk (below_step (by repeat (first | (with_reducible first | exact HB.out | apply below_alloc | apply pw_below_drewN | apply below_drew1 | refine below_set ?_ (IsS54.ge HI499.out) | refine below_set ?_ GE512.out | refine below_set ?_ GE525.out) | exact HB.out)) hb)
    clear HO507
    clear HO510
    clear HO520
    clear HO523
    clear HI499
    clear BK512
    clear BK525
    clear HB
    have HO507 := n0_
    have HO510 := n1_
    have HO520 := n2_
    have HO523 := n3_
    have HI499 := n4_
    have BK512 := n5_
    have BK525 := n6_
    have HB := n7_
    clear n0_ n1_ n2_ n3_ n4_ n5_ n6_ n7_
    (try clear hb)
    (try clear hb2)
    (try clear hk)
    (try clear hi)
    refine hK.out _ _ ⟨(blk_cell BK512.out 0).trans rfl, (blk_cell BK512.out 1).trans rfl, (blk_cell BK512.out 2).trans rfl, (blk_cell BK512.out 3).trans rfl, (blk_cell BK512.out 4).trans rfl, (blk_cell BK525.out 0).trans rfl, (blk_cell BK525.out 1).trans rfl, (blk_cell BK525.out 2).trans rfl, (blk_cell BK525.out 3).trans rfl, (blk_cell BK525.out 4).trans rfl⟩ (fun hHeld => ?_)
    clear hK K
    refine norm_ (a' := ?_) ?_ ?_
    rotate_left
    ·show Act.put _ (some 21) _ = _
     simp only [Act.put, List.setIfInBounds_toArray, List.set_cons_zero, List.set_cons_succ, i64_w, i32_w]
     rfl
    refine pure_ (i := 6) (N := some 22) (v := ?_) (a' := ?_) #[true, true, true, true, true, true, true, false, false, false, false, false, false, false, false, false, false, false, false, false, false, false, false, false, false, false] rfl rfl (any_of HT_.out (by kernel_rfl)) (fun _ _ _ h => h) (Or.inl ⟨by rfl, ?_⟩) ?_ ?_
    rotate_left
    ·intro w'
     go_simp
     with_reducible rfl
    rotate_left
    ·simp only [Act.put, List.setIfInBounds_toArray, List.set_cons_zero, List.set_cons_succ, i64_w, i32_w]
     rfl
    refine pure_ (i := 7) (N := some 23) (v := ?_) (a' := ?_) #[true, true, true, true, true, true, true, true, false, false, false, false, false, false, false, false, false, false, false, false, false, false, false, false, false, false] rfl rfl (any_of HT_.out (by kernel_rfl)) (fun _ _ _ h => h) (Or.inl ⟨by rfl, ?_⟩) ?_ ?_
    rotate_left
    ·intro w'
     go_simp
     with_reducible rfl
    rotate_left
    ·simp only [Act.put, List.setIfInBounds_toArray, List.set_cons_zero, List.set_cons_succ, i64_w, i32_w]
     rfl
    refine take_ (i := 8) (N := some 24) (v := ?_) (a' := ?_) #[true, true, true, true, true, true, true, true, true, false, false, false, false, false, false, false, false, false, false, false, false, false, false, false, false, false] rfl rfl (take_ofW HT_.out HW_.out (by kernel_rfl)) (fun _ _ _ h => h) (Or.inl ⟨by rfl, ?_⟩) hHeld ?_ ?_
    rotate_left
    ·rintro w' ⟨s0, s1, s2, s3, s4, s5, s6, s7, s8, s9⟩
     go_simp
     with_reducible rfl
    rotate_left
    ·simp only [Act.put, List.setIfInBounds_toArray, List.set_cons_zero, List.set_cons_succ, i64_w, i32_w]
     rfl
    refine take_ (i := 9) (N := some 25) (v := ?_) (a' := ?_) #[true, true, true, true, true, true, true, true, true, true, false, false, false, false, false, false, false, false, false, false, false, false, false, false, false, false] rfl rfl (take_ofW HT_.out HW_.out (by kernel_rfl)) (fun _ _ _ h => h) (Or.inl ⟨by rfl, ?_⟩) hHeld ?_ ?_
    rotate_left
    ·rintro w' ⟨s0, s1, s2, s3, s4, s5, s6, s7, s8, s9⟩
     go_simp
     with_reducible rfl
    rotate_left
    ·simp only [Act.put, List.setIfInBounds_toArray, List.set_cons_zero, List.set_cons_succ, i64_w, i32_w]
     rfl
    refine take_ (i := 11) (N := some 27) (v := ?_) (a' := ?_) #[true, true, true, true, true, true, true, true, true, true, false, true, false, false, false, false, false, false, false, false, false, false, false, false, false, false] rfl rfl (take_ofW HT_.out HW_.out (by kernel_rfl)) (fun _ _ _ h => h) (Or.inl ⟨by rfl, ?_⟩) hHeld ?_ ?_
    rotate_left
    ·rintro w' ⟨s0, s1, s2, s3, s4, s5, s6, s7, s8, s9⟩
     go_simp
     with_reducible rfl
    rotate_left
    ·simp only [Act.put, List.setIfInBounds_toArray, List.set_cons_zero, List.set_cons_succ, i64_w, i32_w]
     rfl
    refine take_ (i := 12) (N := some 28) (v := ?_) (a' := ?_) #[true, true, true, true, true, true, true, true, true, true, false, true, true, false, false, false, false, false, false, false, false, false, false, false, false, false] rfl rfl (take_ofW HT_.out HW_.out (by kernel_rfl)) (fun _ _ _ h => h) (Or.inl ⟨by rfl, ?_⟩) hHeld ?_ ?_
    rotate_left
    ·rintro w' ⟨s0, s1, s2, s3, s4, s5, s6, s7, s8, s9⟩
     go_simp
     with_reducible rfl
    rotate_left
    ·simp only [Act.put, List.setIfInBounds_toArray, List.set_cons_zero, List.set_cons_succ, i64_w, i32_w]
     rfl
    refine one_ (i := 10) (N := some 26) #[true, true, true, true, true, true, true, true, true, true, true, true, true, false, false, false, false, false, false, false, false, false, false, false, false, false] rfl rfl (one_of HT_.out (by kernel_rfl)) (by decide) (fun K hK => ?_)
    refine goes_ Try.func31 (by kernel_rfl) rfl #[.agg #[.int .i64 t502, .int .i64 t503, .string t504, .slice Ao22 t505.length co22, .slice Ao23 t508.length co23], .agg #[.int .i64 t515, .int .i64 t516, .string t517, .slice Ao30 t518.length co30, .slice Ao31 t521.length co31]] (by rfl) rfl rfl (by (try simp only [List.map_toArray, List.map_cons, List.map_nil]); first | done | rfl | (simp only [List.length_drop, List.length_take]; rfl)) ?_
    with_reducible refine (item_Enemy.calls k t502 t503 t504 _ _ t505 _ _ t508 t515 t516 t517 _ _ t518 _ _ t521 t528 _ ?side1 ?side2 ?side3 ?side4 ?side5 ?side6 ?side7 ?side8 A10.out).mono ?_
    (case side1 => repeat (first | exact (Kd.R_reads' HO507.out).2.2 | (with_reducible refine Kd.C_alloc ?_ _) | (with_reducible refine Kd.C_drewN ?_ _) | (with_reducible refine Kd.C_drew ?_)))
    (case side2 => exact (Kd.R_reads' HO507.out).2.1)
    (case side3 => repeat (first | exact (Kd.R_reads' HO510.out).2.2 | (with_reducible refine Kd.C_alloc ?_ _) | (with_reducible refine Kd.C_drewN ?_ _) | (with_reducible refine Kd.C_drew ?_)))
    (case side4 => exact (Kd.R_reads' HO510.out).2.1)
    (case side5 => repeat (first | exact (Kd.R_reads' HO520.out).2.2 | (with_reducible refine Kd.C_alloc ?_ _) | (with_reducible refine Kd.C_drewN ?_ _) | (with_reducible refine Kd.C_drew ?_)))
    (case side6 => exact (Kd.R_reads' HO520.out).2.1)
    (case side7 => repeat (first | exact (Kd.R_reads' HO523.out).2.2 | (with_reducible refine Kd.C_alloc ?_ _) | (with_reducible refine Kd.C_drewN ?_ _) | (with_reducible refine Kd.C_drew ?_)))
    (case side8 => exact (Kd.R_reads' HO523.out).2.1)
    rintro e w36 ⟨rfl, hb⟩
    refine ⟨_, rfl, ?_⟩
    have n0_ := Aside0.mk (Kd.R_below (by (with_reducible repeat (first | apply Kd.R_alloc | apply Kd.R_drewN | apply Kd.R_drew)); exact HO507.out) hb)
    have n1_ := Aside0.mk (Kd.R_below (by (with_reducible repeat (first | apply Kd.R_alloc | apply Kd.R_drewN | apply Kd.R_drew)); exact HO510.out) hb)
    have n2_ := Aside0.mk (Kd.R_below (by (with_reducible repeat (first | apply Kd.R_alloc | apply Kd.R_drewN | apply Kd.R_drew)); exact HO520.out) hb)
    have n3_ := Aside0.mk (Kd.R_below (by (with_reducible repeat (first | apply Kd.R_alloc | apply Kd.R_drewN | apply Kd.R_drew)); exact HO523.out) hb)
    have n4_ := Aside0.mk (IsS54.below (by repeat (first | (with_reducible first | exact HI499.out | apply IsS54.alloc | apply IsS54.drewN | apply IsS54.drew | apply IsS54.set_1 | refine IsS54.far ?_ NB499_512.out _ | refine IsS54.far ?_ NB499_525.out _) | exact HI499.out)) hb)
    have n5_ := Aside0.mk (blk_below (g := gb512) (o := .cells #[.int .i64 t502, .int .i64 t503, .string t504, .slice Ao22 t505.length co22, .slice Ao23 t508.length co23] 33 (0, 0)) (by (with_reducible repeat (first | refine blk_drewN ?_ _ | refine blk_drew ?_ | refine blk_alloc ?_ _)); exact BK512.out) hb)
    have n6_ := Aside0.mk (blk_below (g := gb525) (o := .cells #[.int .i64 t515, .int .i64 t516, .string t517, .slice Ao30 t518.length co30, .slice Ao31 t521.length co31] 33 (0, 0)) (by (with_reducible repeat (first | refine blk_drewN ?_ _ | refine blk_drew ?_ | refine blk_alloc ?_ _)); exact BK525.out) hb)
    have n7_ := Aside0.mk (below_step (by repeat (first | (with_reducible first | exact HB.out | apply below_alloc | apply pw_below_drewN | apply below_drew1 | refine below_set ?_ (IsS54.ge HI499.out) | refine below_set ?_ GE512.out | refine below_set ?_ GE525.out) | exact HB.out)) hb)
    clear HO507
    clear HO510
    clear HO520
    clear HO523
    clear HI499
    clear BK512
    clear BK525
    clear HB
    have HO507 := n0_
    have HO510 := n1_
    have HO520 := n2_
    have HO523 := n3_
    have HI499 := n4_
    have BK512 := n5_
    have BK525 := n6_
    have HB := n7_
    clear n0_ n1_ n2_ n3_ n4_ n5_ n6_ n7_
    (try clear hb)
    (try clear hb2)
    (try clear hk)
    (try clear hi)
    refine hK.out _ _ ⟨(blk_cell BK512.out 0).trans rfl, (blk_cell BK512.out 1).trans rfl, (blk_cell BK512.out 2).trans rfl, (blk_cell BK512.out 3).trans rfl, (blk_cell BK512.out 4).trans rfl, (blk_cell BK525.out 0).trans rfl, (blk_cell BK525.out 1).trans rfl, (blk_cell BK525.out 2).trans rfl, (blk_cell BK525.out 3).trans rfl, (blk_cell BK525.out 4).trans rfl⟩ (fun hHeld => ?_)
    clear hK K
    refine norm_ (a' := ?_) ?_ ?_
    rotate_left
    ·show Act.put _ (some 26) _ = _
     simp only [Act.put, List.setIfInBounds_toArray, List.set_cons_zero, List.set_cons_succ, i64_w, i32_w]
     rfl
    refine one_ (i := 13) (N := some 29) #[true, true, true, true, true, true, true, true, true, true, true, true, true, true, false, false, false, false, false, false, false, false, false, false, false, false] rfl rfl (one_of HT_.out (by kernel_rfl)) (by decide) (fun K hK => ?_)
    refine goes_ Try.func31 (by kernel_rfl) rfl #[.agg #[.int .i64 t515, .int .i64 t516, .string t517, .slice Ao30 t518.length co30, .slice Ao31 t521.length co31], .agg #[.int .i64 t502, .int .i64 t503, .string t504, .slice Ao22 t505.length co22, .slice Ao23 t508.length co23]] (by rfl) rfl rfl (by (try simp only [List.map_toArray, List.map_cons, List.map_nil]); first | done | rfl | (simp only [List.length_drop, List.length_take]; rfl)) ?_
    with_reducible refine (item_Enemy.calls k t515 t516 t517 _ _ t518 _ _ t521 t502 t503 t504 _ _ t505 _ _ t508 t529 _ ?side1 ?side2 ?side3 ?side4 ?side5 ?side6 ?side7 ?side8 A11.out).mono ?_
    (case side1 => repeat (first | exact (Kd.R_reads' HO520.out).2.2 | (with_reducible refine Kd.C_alloc ?_ _) | (with_reducible refine Kd.C_drewN ?_ _) | (with_reducible refine Kd.C_drew ?_)))
    (case side2 => exact (Kd.R_reads' HO520.out).2.1)
    (case side3 => repeat (first | exact (Kd.R_reads' HO523.out).2.2 | (with_reducible refine Kd.C_alloc ?_ _) | (with_reducible refine Kd.C_drewN ?_ _) | (with_reducible refine Kd.C_drew ?_)))
    (case side4 => exact (Kd.R_reads' HO523.out).2.1)
    (case side5 => repeat (first | exact (Kd.R_reads' HO507.out).2.2 | (with_reducible refine Kd.C_alloc ?_ _) | (with_reducible refine Kd.C_drewN ?_ _) | (with_reducible refine Kd.C_drew ?_)))
    (case side6 => exact (Kd.R_reads' HO507.out).2.1)
    (case side7 => repeat (first | exact (Kd.R_reads' HO510.out).2.2 | (with_reducible refine Kd.C_alloc ?_ _) | (with_reducible refine Kd.C_drewN ?_ _) | (with_reducible refine Kd.C_drew ?_)))
    (case side8 => exact (Kd.R_reads' HO510.out).2.1)
    rintro e w37 ⟨rfl, hb⟩
    refine ⟨_, rfl, ?_⟩
    have n0_ := Aside0.mk (Kd.R_below (by (with_reducible repeat (first | apply Kd.R_alloc | apply Kd.R_drewN | apply Kd.R_drew)); exact HO507.out) hb)
    have n1_ := Aside0.mk (Kd.R_below (by (with_reducible repeat (first | apply Kd.R_alloc | apply Kd.R_drewN | apply Kd.R_drew)); exact HO510.out) hb)
    have n2_ := Aside0.mk (Kd.R_below (by (with_reducible repeat (first | apply Kd.R_alloc | apply Kd.R_drewN | apply Kd.R_drew)); exact HO520.out) hb)
    have n3_ := Aside0.mk (Kd.R_below (by (with_reducible repeat (first | apply Kd.R_alloc | apply Kd.R_drewN | apply Kd.R_drew)); exact HO523.out) hb)
    have n4_ := Aside0.mk (IsS54.below (by repeat (first | (with_reducible first | exact HI499.out | apply IsS54.alloc | apply IsS54.drewN | apply IsS54.drew | apply IsS54.set_1 | refine IsS54.far ?_ NB499_512.out _ | refine IsS54.far ?_ NB499_525.out _) | exact HI499.out)) hb)
    have n5_ := Aside0.mk (blk_below (g := gb512) (o := .cells #[.int .i64 t502, .int .i64 t503, .string t504, .slice Ao22 t505.length co22, .slice Ao23 t508.length co23] 33 (0, 0)) (by (with_reducible repeat (first | refine blk_drewN ?_ _ | refine blk_drew ?_ | refine blk_alloc ?_ _)); exact BK512.out) hb)
    have n6_ := Aside0.mk (blk_below (g := gb525) (o := .cells #[.int .i64 t515, .int .i64 t516, .string t517, .slice Ao30 t518.length co30, .slice Ao31 t521.length co31] 33 (0, 0)) (by (with_reducible repeat (first | refine blk_drewN ?_ _ | refine blk_drew ?_ | refine blk_alloc ?_ _)); exact BK525.out) hb)
    have n7_ := Aside0.mk (below_step (by repeat (first | (with_reducible first | exact HB.out | apply below_alloc | apply pw_below_drewN | apply below_drew1 | refine below_set ?_ (IsS54.ge HI499.out) | refine below_set ?_ GE512.out | refine below_set ?_ GE525.out) | exact HB.out)) hb)
    clear HO507
    clear HO510
    clear HO520
    clear HO523
    clear HI499
    clear BK512
    clear BK525
    clear HB
    have HO507 := n0_
    have HO510 := n1_
    have HO520 := n2_
    have HO523 := n3_
    have HI499 := n4_
    have BK512 := n5_
    have BK525 := n6_
    have HB := n7_
    clear n0_ n1_ n2_ n3_ n4_ n5_ n6_ n7_
    (try clear hb)
    (try clear hb2)
    (try clear hk)
    (try clear hi)
    refine hK.out _ _ ⟨(blk_cell BK512.out 0).trans rfl, (blk_cell BK512.out 1).trans rfl, (blk_cell BK512.out 2).trans rfl, (blk_cell BK512.out 3).trans rfl, (blk_cell BK512.out 4).trans rfl, (blk_cell BK525.out 0).trans rfl, (blk_cell BK525.out 1).trans rfl, (blk_cell BK525.out 2).trans rfl, (blk_cell BK525.out 3).trans rfl, (blk_cell BK525.out 4).trans rfl⟩ (fun hHeld => ?_)
    clear hK K
    refine norm_ (a' := ?_) ?_ ?_
    rotate_left
    ·show Act.put _ (some 29) _ = _
     simp only [Act.put, List.setIfInBounds_toArray, List.set_cons_zero, List.set_cons_succ, i64_w, i32_w]
     rfl
    refine pure_ (i := 14) (N := some 30) (v := ?_) (a' := ?_) #[true, true, true, true, true, true, true, true, true, true, true, true, true, true, true, false, false, false, false, false, false, false, false, false, false, false] rfl rfl (any_of HT_.out (by kernel_rfl)) (fun _ _ _ h => h) (Or.inl ⟨by rfl, ?_⟩) ?_ ?_
    rotate_left
    ·intro w'
     go_simp
     with_reducible rfl
    rotate_left
    ·simp only [Act.put, List.setIfInBounds_toArray, List.set_cons_zero, List.set_cons_succ, i64_w, i32_w]
     rfl
    refine pure_ (i := 15) (N := some 31) (v := ?_) (a' := ?_) #[true, true, true, true, true, true, true, true, true, true, true, true, true, true, true, true, false, false, false, false, false, false, false, false, false, false] rfl rfl (any_of HT_.out (by kernel_rfl)) (fun _ _ _ h => h) (Or.inl ⟨by rfl, ?_⟩) ?_ ?_
    rotate_left
    ·intro w'
     go_simp
     with_reducible rfl
    rotate_left
    ·simp only [Act.put, List.setIfInBounds_toArray, List.set_cons_zero, List.set_cons_succ, i64_w, i32_w]
     rfl
    refine pure_ (i := 16) (N := some 32) (v := ?_) (a' := ?_) #[true, true, true, true, true, true, true, true, true, true, true, true, true, true, true, true, true, false, false, false, false, false, false, false, false, false] rfl rfl (any_of HT_.out (by kernel_rfl)) (fun _ _ _ h => h) (Or.inl ⟨by rfl, ?_⟩) ?_ ?_
    rotate_left
    ·intro w'
     go_simp
     with_reducible rfl
    rotate_left
    ·simp only [Act.put, List.setIfInBounds_toArray, List.set_cons_zero, List.set_cons_succ, i64_w, i32_w]
     rfl
    refine take_ (i := 17) (N := some 33) (v := ?_) (a' := ?_) #[true, true, true, true, true, true, true, true, true, true, true, true, true, true, true, true, true, true, false, false, false, false, false, false, false, false] rfl rfl (take_ofW HT_.out HW_.out (by kernel_rfl)) (fun _ _ _ h => h) (Or.inl ⟨by rfl, ?_⟩) hHeld ?_ ?_
    rotate_left
    ·rintro w' ⟨s0, s1, s2, s3, s4, s5, s6, s7, s8, s9⟩
     go_simp
     with_reducible rfl
    rotate_left
    ·simp only [Act.put, List.setIfInBounds_toArray, List.set_cons_zero, List.set_cons_succ, i64_w, i32_w]
     rfl
    refine take_ (i := 18) (N := some 34) (v := ?_) (a' := ?_) #[true, true, true, true, true, true, true, true, true, true, true, true, true, true, true, true, true, true, true, false, false, false, false, false, false, false] rfl rfl (take_ofW HT_.out HW_.out (by kernel_rfl)) (fun _ _ _ h => h) (Or.inl ⟨by rfl, ?_⟩) hHeld ?_ ?_
    rotate_left
    ·rintro w' ⟨s0, s1, s2, s3, s4, s5, s6, s7, s8, s9⟩
     go_simp
     with_reducible rfl
    rotate_left
    ·simp only [Act.put, List.setIfInBounds_toArray, List.set_cons_zero, List.set_cons_succ, i64_w, i32_w]
     rfl
    refine one_ (i := 19) (N := some 35) #[true, true, true, true, true, true, true, true, true, true, true, true, true, true, true, true, true, true, true, true, false, false, false, false, false, false] rfl rfl (one_of HT_.out (by kernel_rfl)) (by decide) (fun K hK => ?_)
    refine goes_ Try.func31 (by kernel_rfl) rfl #[.agg #[.int .i64 t502, .int .i64 t503, .string t504, .slice Ao22 t505.length co22, .slice Ao23 t508.length co23], .agg #[.int .i64 t502, .int .i64 t503, .string t504, .slice Ao22 t505.length co22, .slice Ao23 t508.length co23]] (by rfl) rfl rfl (by (try simp only [List.map_toArray, List.map_cons, List.map_nil]); first | done | rfl | (simp only [List.length_drop, List.length_take]; rfl)) ?_
    with_reducible refine (item_Enemy.calls k t502 t503 t504 _ _ t505 _ _ t508 t502 t503 t504 _ _ t505 _ _ t508 false _ ?side1 ?side2 ?side3 ?side4 ?side5 ?side6 ?side7 ?side8 A13.out).mono ?_
    (case side1 => repeat (first | exact (Kd.R_reads' HO507.out).2.2 | (with_reducible refine Kd.C_alloc ?_ _) | (with_reducible refine Kd.C_drewN ?_ _) | (with_reducible refine Kd.C_drew ?_)))
    (case side2 => exact (Kd.R_reads' HO507.out).2.1)
    (case side3 => repeat (first | exact (Kd.R_reads' HO510.out).2.2 | (with_reducible refine Kd.C_alloc ?_ _) | (with_reducible refine Kd.C_drewN ?_ _) | (with_reducible refine Kd.C_drew ?_)))
    (case side4 => exact (Kd.R_reads' HO510.out).2.1)
    (case side5 => repeat (first | exact (Kd.R_reads' HO507.out).2.2 | (with_reducible refine Kd.C_alloc ?_ _) | (with_reducible refine Kd.C_drewN ?_ _) | (with_reducible refine Kd.C_drew ?_)))
    (case side6 => exact (Kd.R_reads' HO507.out).2.1)
    (case side7 => repeat (first | exact (Kd.R_reads' HO510.out).2.2 | (with_reducible refine Kd.C_alloc ?_ _) | (with_reducible refine Kd.C_drewN ?_ _) | (with_reducible refine Kd.C_drew ?_)))
    (case side8 => exact (Kd.R_reads' HO510.out).2.1)
    rintro e w38 ⟨rfl, hb⟩
    refine ⟨_, rfl, ?_⟩
    have n0_ := Aside0.mk (Kd.R_below (by (with_reducible repeat (first | apply Kd.R_alloc | apply Kd.R_drewN | apply Kd.R_drew)); exact HO507.out) hb)
    have n1_ := Aside0.mk (Kd.R_below (by (with_reducible repeat (first | apply Kd.R_alloc | apply Kd.R_drewN | apply Kd.R_drew)); exact HO510.out) hb)
    have n2_ := Aside0.mk (Kd.R_below (by (with_reducible repeat (first | apply Kd.R_alloc | apply Kd.R_drewN | apply Kd.R_drew)); exact HO520.out) hb)
    have n3_ := Aside0.mk (Kd.R_below (by (with_reducible repeat (first | apply Kd.R_alloc | apply Kd.R_drewN | apply Kd.R_drew)); exact HO523.out) hb)
    have n4_ := Aside0.mk (IsS54.below (by repeat (first | (with_reducible first | exact HI499.out | apply IsS54.alloc | apply IsS54.drewN | apply IsS54.drew | apply IsS54.set_1 | refine IsS54.far ?_ NB499_512.out _ | refine IsS54.far ?_ NB499_525.out _) | exact HI499.out)) hb)
    have n5_ := Aside0.mk (blk_below (g := gb512) (o := .cells #[.int .i64 t502, .int .i64 t503, .string t504, .slice Ao22 t505.length co22, .slice Ao23 t508.length co23] 33 (0, 0)) (by (with_reducible repeat (first | refine blk_drewN ?_ _ | refine blk_drew ?_ | refine blk_alloc ?_ _)); exact BK512.out) hb)
    have n6_ := Aside0.mk (blk_below (g := gb525) (o := .cells #[.int .i64 t515, .int .i64 t516, .string t517, .slice Ao30 t518.length co30, .slice Ao31 t521.length co31] 33 (0, 0)) (by (with_reducible repeat (first | refine blk_drewN ?_ _ | refine blk_drew ?_ | refine blk_alloc ?_ _)); exact BK525.out) hb)
    have n7_ := Aside0.mk (below_step (by repeat (first | (with_reducible first | exact HB.out | apply below_alloc | apply pw_below_drewN | apply below_drew1 | refine below_set ?_ (IsS54.ge HI499.out) | refine below_set ?_ GE512.out | refine below_set ?_ GE525.out) | exact HB.out)) hb)
    clear HO507
    clear HO510
    clear HO520
    clear HO523
    clear HI499
    clear BK512
    clear BK525
    clear HB
    have HO507 := n0_
    have HO510 := n1_
    have HO520 := n2_
    have HO523 := n3_
    have HI499 := n4_
    have BK512 := n5_
    have BK525 := n6_
    have HB := n7_
    clear n0_ n1_ n2_ n3_ n4_ n5_ n6_ n7_
    (try clear hb)
    (try clear hb2)
    (try clear hk)
    (try clear hi)
    refine hK.out _ _ ⟨(blk_cell BK512.out 0).trans rfl, (blk_cell BK512.out 1).trans rfl, (blk_cell BK512.out 2).trans rfl, (blk_cell BK512.out 3).trans rfl, (blk_cell BK512.out 4).trans rfl, (blk_cell BK525.out 0).trans rfl, (blk_cell BK525.out 1).trans rfl, (blk_cell BK525.out 2).trans rfl, (blk_cell BK525.out 3).trans rfl, (blk_cell BK525.out 4).trans rfl⟩ (fun hHeld => ?_)
    clear hK K
    refine norm_ (a' := ?_) ?_ ?_
    rotate_left
    ·show Act.put _ (some 35) _ = _
     simp only [Act.put, List.setIfInBounds_toArray, List.set_cons_zero, List.set_cons_succ, i64_w, i32_w]
     rfl
    refine pure_ (i := 20) (N := some 36) (v := ?_) (a' := ?_) #[true, true, true, true, true, true, true, true, true, true, true, true, true, true, true, true, true, true, true, true, true, false, false, false, false, false] rfl rfl (any_of HT_.out (by kernel_rfl)) (fun _ _ _ h => h) (Or.inl ⟨by rfl, ?_⟩) ?_ ?_
    rotate_left
    ·intro w'
     go_simp
     with_reducible rfl
    rotate_left
    ·simp only [Act.put, List.setIfInBounds_toArray, List.set_cons_zero, List.set_cons_succ, i64_w, i32_w]
     rfl
    refine pure_ (i := 21) (N := some 37) (v := ?_) (a' := ?_) #[true, true, true, true, true, true, true, true, true, true, true, true, true, true, true, true, true, true, true, true, true, true, false, false, false, false] rfl rfl (any_of HT_.out (by kernel_rfl)) (fun _ _ _ h => h) (Or.inl ⟨by rfl, ?_⟩) ?_ ?_
    rotate_left
    ·intro w'
     go_simp
     with_reducible rfl
    rotate_left
    ·simp only [Act.put, List.setIfInBounds_toArray, List.set_cons_zero, List.set_cons_succ, i64_w, i32_w]
     rfl
    refine pure_ (i := 22) (N := some 38) (v := ?_) (a' := ?_) #[true, true, true, true, true, true, true, true, true, true, true, true, true, true, true, true, true, true, true, true, true, true, true, false, false, false] rfl rfl (any_of HT_.out (by kernel_rfl)) (fun _ _ _ h => h) (Or.inl ⟨by rfl, ?_⟩) ?_ ?_
    rotate_left
    ·intro w'
     go_simp
     with_reducible rfl
    rotate_left
    ·simp only [Act.put, List.setIfInBounds_toArray, List.set_cons_zero, List.set_cons_succ, i64_w, i32_w]
     rfl
    refine one_ (i := 23) (N := some 39) #[true, true, true, true, true, true, true, true, true, true, true, true, true, true, true, true, true, true, true, true, true, true, true, true, false, false] rfl rfl (one_of HT_.out (by kernel_rfl)) (by decide) (fun K hK => ?_)
    refine goes_ Try.func14 (by kernel_rfl) rfl #[] (by rfl) rfl rfl (by (try simp only [List.map_toArray, List.map_cons, List.map_nil]); first | done | rfl | (simp only [List.length_drop, List.length_take]; rfl)) ?_
    with_reducible refine (awardingbodylaw06_awake.calls k  t531 _ A15.out).mono ?_
    rintro e w39 ⟨rfl, hb⟩
    refine ⟨_, rfl, ?_⟩
    have n0_ := Aside0.mk (Kd.R_below (by (with_reducible repeat (first | apply Kd.R_alloc | apply Kd.R_drewN | apply Kd.R_drew)); exact HO507.out) hb)
    have n1_ := Aside0.mk (Kd.R_below (by (with_reducible repeat (first | apply Kd.R_alloc | apply Kd.R_drewN | apply Kd.R_drew)); exact HO510.out) hb)
    have n2_ := Aside0.mk (Kd.R_below (by (with_reducible repeat (first | apply Kd.R_alloc | apply Kd.R_drewN | apply Kd.R_drew)); exact HO520.out) hb)
    have n3_ := Aside0.mk (Kd.R_below (by (with_reducible repeat (first | apply Kd.R_alloc | apply Kd.R_drewN | apply Kd.R_drew)); exact HO523.out) hb)
    have n4_ := Aside0.mk (IsS54.below (by repeat (first | (with_reducible first | exact HI499.out | apply IsS54.alloc | apply IsS54.drewN | apply IsS54.drew | apply IsS54.set_1 | refine IsS54.far ?_ NB499_512.out _ | refine IsS54.far ?_ NB499_525.out _) | exact HI499.out)) hb)
    have n5_ := Aside0.mk (blk_below (g := gb512) (o := .cells #[.int .i64 t502, .int .i64 t503, .string t504, .slice Ao22 t505.length co22, .slice Ao23 t508.length co23] 33 (0, 0)) (by (with_reducible repeat (first | refine blk_drewN ?_ _ | refine blk_drew ?_ | refine blk_alloc ?_ _)); exact BK512.out) hb)
    have n6_ := Aside0.mk (blk_below (g := gb525) (o := .cells #[.int .i64 t515, .int .i64 t516, .string t517, .slice Ao30 t518.length co30, .slice Ao31 t521.length co31] 33 (0, 0)) (by (with_reducible repeat (first | refine blk_drewN ?_ _ | refine blk_drew ?_ | refine blk_alloc ?_ _)); exact BK525.out) hb)
    have n7_ := Aside0.mk (below_step (by repeat (first | (with_reducible first | exact HB.out | apply below_alloc | apply pw_below_drewN | apply below_drew1 | refine below_set ?_ (IsS54.ge HI499.out) | refine below_set ?_ GE512.out | refine below_set ?_ GE525.out) | exact HB.out)) hb)
    clear HO507
    clear HO510
    clear HO520
    clear HO523
    clear HI499
    clear BK512
    clear BK525
    clear HB
    have HO507 := n0_
    have HO510 := n1_
    have HO520 := n2_
    have HO523 := n3_
    have HI499 := n4_
    have BK512 := n5_
    have BK525 := n6_
    have HB := n7_
    clear n0_ n1_ n2_ n3_ n4_ n5_ n6_ n7_
    (try clear hb)
    (try clear hb2)
    (try clear hk)
    (try clear hi)
    refine hK.out _ _ ⟨(blk_cell BK512.out 0).trans rfl, (blk_cell BK512.out 1).trans rfl, (blk_cell BK512.out 2).trans rfl, (blk_cell BK512.out 3).trans rfl, (blk_cell BK512.out 4).trans rfl, (blk_cell BK525.out 0).trans rfl, (blk_cell BK525.out 1).trans rfl, (blk_cell BK525.out 2).trans rfl, (blk_cell BK525.out 3).trans rfl, (blk_cell BK525.out 4).trans rfl⟩ (fun hHeld => ?_)
    clear hK K
    refine norm_ (a' := ?_) ?_ ?_
    rotate_left
    ·show Act.put _ (some 39) _ = _
     simp only [Act.put, List.setIfInBounds_toArray, List.set_cons_zero, List.set_cons_succ, i64_w, i32_w]
     rfl
    refine pure_ (i := 24) (N := some 40) (v := ?_) (a' := ?_) #[true, true, true, true, true, true, true, true, true, true, true, true, true, true, true, true, true, true, true, true, true, true, true, true, true, false] rfl rfl (any_of HT_.out (by kernel_rfl)) (fun _ _ _ h => h) (Or.inl ⟨by rfl, ?_⟩) ?_ ?_
    rotate_left
    ·intro w'
     go_simp
     with_reducible rfl
    rotate_left
    ·simp only [Act.put, List.setIfInBounds_toArray, List.set_cons_zero, List.set_cons_succ, i64_w, i32_w]
     rfl
    refine pure_ (i := 25) (N := some 2) (v := ?_) (a' := ?_) #[true, true, true, true, true, true, true, true, true, true, true, true, true, true, true, true, true, true, true, true, true, true, true, true, true, true] rfl rfl (any_of HT_.out (by kernel_rfl)) (fun _ _ _ h => h) (Or.inl ⟨by rfl, ?_⟩) ?_ ?_
    rotate_left
    ·intro w'
     go_simp
     with_reducible rfl
    rotate_left
    ·simp only [Act.put, List.setIfInBounds_toArray, List.set_cons_zero, List.set_cons_succ, i64_w, i32_w]
     rfl
    refine done_ (done_of HT_.out (by kernel_rfl)) ?_
    try go_wp2
    go_ret
    exact ⟨by first | rfl | (simp [errW_none, errW_some] <;> rfl) | (simp [*, errW_none, errW_some] <;> rfl), by repeat (first | (with_reducible first | exact HB.out | apply below_alloc | apply pw_below_drewN | apply below_drew1 | refine below_set ?_ (IsS54.ge HI499.out) | refine below_set ?_ GE512.out | refine below_set ?_ GE525.out) | exact HB.out)⟩
  ·rw [if_neg c12] at H
   have c12b0 : (t528 == t529) = false := by simpa using c12
   (try (have c12b1 : decide (t528 = t529) = false := by simpa using c12))
   (try (have c12b2 : (t528 == t529) = false := by simpa using c12))
   (try (have c12b3 : ¬ (t528 = t529) := by simpa using c12))
   clear c12
   exact absurd H (by simp)
 ·rw [if_neg c9] at H
  have c9b0 : (t526 == t527) = false := by simpa using c9
  (try (have c9b1 : decide (t526 = t527) = false := by simpa using c9))
  (try (have c9b2 : (t526 == t527) = false := by simpa using c9))
  (try (have c9b3 : ¬ (t526 = t527) := by simpa using c9))
  clear c9
  exact absurd H (by simp)

/-- THE ONE PURE STATEMENT of awardingbodylaw06_ItemEnemies: yours. -/
def awardingbodylaw06_ItemEnemies.Pure : Prop := ∀ (l0 : List Int), l0.length ≤ maxLen → l0.length * 8 ≤ 140737488351232 → (∀ x ∈ l0, (Lit.int .i64 x).wf = true) → ∃ k, awardingbodylaw06_ItemEnemies.f k l0 = some true
theorem awardingbodylaw06_ItemEnemies.walk (P : awardingbodylaw06_ItemEnemies.Pure) (a0 : Option Addr) (len0 cap0 : Nat) (z0 : List Int) (w : World) (w0 : (a0 = none ∧ len0 = 0 ∧ cap0 = 0 ∧ z0 = []) ∨ ∃ x, a0 = some x ∧ len0 ≤ cap0 ∧ cap0 ≤ maxLen ∧ z0.length = cap0 ∧ (∀ i, i < z0.length → w.cell? (x.add i) = some (.int .i64 (z0.getD i 0))) ∧ ∀ n ∈ z0, (Lit.int .i64 n).wf = true) (y0 : len0 * 8 ≤ 140737488351232) :
  Calls Try.prog 8 #[.slice a0 len0 cap0] w fun e w' => e = .returned (.bool true) ∧ Below w.heap.size w w' := by
 obtain ⟨l0, rfl, hr0, hm0, hw0, hc0⟩ := ReadsInt.ofRowC w0
 obtain ⟨k, h⟩ := P l0 hm0 y0 hw0
 refine (awardingbodylaw06_ItemEnemies.calls k _ _ l0 true w (Kd.C_of_reads (d := (0 : Int)) (h1 := fun _ => rfl) hr0) hc0 h).mono ?_
 rintro e w' ⟨rfl, hd⟩
 exact ⟨rfl, hd⟩

end Go.Proofs.Ytinmdoemkejanaa.Print
