-- Printed by a program of this session (wip/own_print.py) out of the translation; Lean checks it.
import Derived.Test.YtbgeoadaeihgkaaPrint0
import Derived.Test.YtbgeoadaeihgkaaPrint1
import Derived.Test.YtbgeoadaeihgkaaPrint2
import Derived.Test.YtbgeoadaeihgkaaPrint4
import Derived.Test.YtbgeoadaeihgkaaPrint5
import Derived.Test.YtbgeoadaeihgkaaPrint14
import Derived.Test.YtbgeoadaeihgkaaPrint16
namespace Go.Proofs.Ytbgeoadaeihgkaa.Print
open Go.RowKit Go.Proofs.YtbgeoadaeihgkaaW.PrintWords Go.Proofs.YtbgeoadaeihgkaaW.PrintLast Go.Proofs.YtbgeoadaeihgkaaW.PrintMore
attribute [local go_sem] max2_int min2_int max_two min_two max_three min_three max_four min_four   -- for this text's walks alone
set_option linter.unusedVariables false
set_option linter.unusedSimpArgs false

attribute [local go_sem high] eqA38
/-! ### awardingbodylaw14_AccessAlgebra: function 11 -/
def awardingbodylaw14_AccessAlgebra.f (k : Nat) (l0 : List Int) : Option (Bool) := (awardingbodymake_New.f l0).bind fun bt487 => ((awardingbodymake_Tape_Access.f bt487.1 bt487.2 0).bind fun bt490 => ((awardingbodymake_Tape_Access.f bt487.1 bt490.2.2 0).bind fun bt493 => ((awardingbodymake_Tape_Access.f bt487.1 bt493.2.2 0).bind fun bt496 => ((access_Join.f k bt490.1 bt490.2.1 bt493.1 bt493.2.1).bind fun bt502 => ((access_Imply.f bt502.1 bt502.2).bind fun bt504 => ((access_Join.f k bt490.1 bt490.2.1 bt493.1 bt493.2.1).bind fun bt507 => ((access_Join.f k bt493.1 bt493.2.1 bt490.1 bt490.2.1).bind fun bt509 => (if (bt507.1 == bt509.1 && (bt507.2 == bt509.2)) = true then ((access_Join.f k bt490.1 bt490.2.1 bt493.1 bt493.2.1).bind fun bt511 => ((access_Join.f k bt511.1 bt511.2 bt496.1 bt496.2.1).bind fun bt513 => ((access_Join.f k bt493.1 bt493.2.1 bt496.1 bt496.2.1).bind fun bt515 => ((access_Join.f k bt490.1 bt490.2.1 bt515.1 bt515.2).bind fun bt517 => (if (bt513.1 == bt517.1 && (bt513.2 == bt517.2)) = true then ((access_Join.f k bt490.1 bt490.2.1 bt490.1 bt490.2.1).bind fun bt519 => (if (bt519.1 == bt490.1 && (bt519.2 == bt490.2.1)) = true then ((access_Imply.f bt504.1 bt504.2).bind fun bt521 => (if (bt521.1 == bt504.1 && (bt521.2 == bt504.2)) = true then ((access_Imply.f bt490.1 bt490.2.1).bind fun bt523 => ((access_Imply.f bt493.1 bt493.2.1).bind fun bt525 => ((access_Join.f k bt523.1 bt523.2 bt525.1 bt525.2).bind fun bt527 => ((access_Imply.f bt527.1 bt527.2).bind fun bt529 => (if (bt529.1 == bt504.1 && (bt529.2 == bt504.2)) = true then ((awardingbodylaw14_awake.f k).bind fun t531 => (some t531)) else (none)))))) else (none))) else (none))) else (none)))))) else (none)))))))))
theorem awardingbodylaw14_AccessAlgebra.mono : ∀ a0 k, LeO (awardingbodylaw14_AccessAlgebra.f k a0) (awardingbodylaw14_AccessAlgebra.f (k + 1) a0) := by
  intro a0 k
  unfold awardingbodylaw14_AccessAlgebra.f
  repeat' first
      | (with_reducible exact access_Join.mono _ _ _ _ _)
      | (with_reducible exact awardingbodylaw14_awake.mono _)
      | (with_reducible exact LeO.refl _)
      | (with_reducible exact LeO.none _)
      | (with_reducible refine LeO.ite ?_ ?_)
      | (with_reducible refine LeO.bind ?_ (fun _ => ?_))
      | exact access_Join.mono _ _ _ _ _
      | exact awardingbodylaw14_awake.mono _
      | exact LeO.none _
      | refine LeO.ite ?_ ?_
      | refine LeO.bind ?_ (fun _ => ?_)
def awardingbodylaw14_AccessAlgebra.T4 : Bool × List (List Nat × List Nat) := (true, [([], []), ([], []), ([0, 1], [0, 1]), ([], []), ([], []), ([3, 4, 2], [3, 4]), ([2, 5], [2, 5]), ([6, 5], [6]), ([7], [7]), ([7], [7]), ([8, 9, 7, 7], [7, 8, 9]), ([7], [7]), ([10, 11, 10, 7], [7, 10, 11]), ([7], [7]), ([7], [7]), ([7], [7]), ([14, 15, 12, 7], [7, 14, 15]), ([13, 16, 16, 7], [7, 13, 16]), ([12, 17, 7], [7, 12, 17]), ([7, 18], [7, 18]), ([19, 17], [19]), ([20], [20]), ([20], [20]), ([21, 22, 20, 20], [20, 21, 22]), ([20], [20]), ([23, 24, 20], [20, 23, 24]), ([20, 25], [20, 25]), ([26, 23], [26]), ([27], [27]), ([28, 27, 27], [27, 28]), ([27], [27]), ([29, 30, 27], [27, 29, 30]), ([27, 31], [27, 31]), ([32, 29], [32]), ([33], [33]), ([34, 33, 33], [33, 34]), ([33], [33]), ([36, 35, 33], [33, 36]), ([35, 37, 37, 33], [33, 35, 37]), ([38, 38, 33], [33, 38]), ([33], [33]), ([39, 40, 33], [33, 39, 40]), ([33, 41], [33, 41]), ([42, 39], [42]), ([43, 43], [43]), ([43, 44], [43, 44]), ([45, 44, 0, 1, 2, 3, 4, 5, 6, 7, 8, 9, 10, 11, 12, 13, 14, 15, 16, 17, 18, 19, 20, 21, 22, 23, 24, 25, 26, 27, 28, 29, 30, 31, 32, 33, 34, 35, 36, 37, 38, 39, 40, 41, 42, 43, 44, 45], [45])])
def awardingbodylaw14_AccessAlgebra.B4 : List Nat := [0, 0, 3, 0, 0, 31, 63, 127, 255, 255, 1023, 255, 4095, 255, 255, 255, 57343, 131071, 262143, 524287, 1048575, 2097151, 2097151, 8388607, 2097151, 33554431, 67108863, 134217727, 268435455, 536870911, 268435455, 2147483647, 4294967295, 8589934591, 17179869183, 34359738367, 17179869183, 137438953471, 274877906943, 549755813887, 17179869183, 2199023255551, 4398046511103, 8796093022207, 17592186044415, 35184372088831, 70368744177663]
theorem awardingbodylaw14_AccessAlgebra.tab4 : rtab .any (opsOf Try.f11 4) = awardingbodylaw14_AccessAlgebra.T4 := by kernel_rfl
theorem awardingbodylaw14_AccessAlgebra.bits4 : waitsOk awardingbodylaw14_AccessAlgebra.T4.2 awardingbodylaw14_AccessAlgebra.B4 = true := by kernel_rfl
set_option maxHeartbeats 8000000 in
set_option maxRecDepth 100000 in
theorem awardingbodylaw14_AccessAlgebra.calls (k : Nat) (A0 : Option Addr) (c0 : Nat) (l0 : List Int) (r : Bool) (w : World) (hr0 : Kd.C (Kd.int .i64) w A0 l0.length l0) (hc0 : l0.length ≤ c0) (h : awardingbodylaw14_AccessAlgebra.f k l0 = some r) :
    Calls Try.prog 11 #[.slice A0 l0.length c0] w fun e w' => e = .returned (.bool r) ∧ Below w.heap.size w w' := by
 have hu38 := Try.underlying38
 have HR0 := Aside0.mk hr0
 have HC0 := Aside0.mk hc0
 clear hr0 hc0
 have HB := Aside0.mk (Below.refl w.heap.size w)
 have H : ((awardingbodymake_New.f l0).bind fun bt487 => ((awardingbodymake_Tape_Access.f bt487.1 bt487.2 0).bind fun bt490 => ((awardingbodymake_Tape_Access.f bt487.1 bt490.2.2 0).bind fun bt493 => ((awardingbodymake_Tape_Access.f bt487.1 bt493.2.2 0).bind fun bt496 => ((access_Join.f k bt490.1 bt490.2.1 bt493.1 bt493.2.1).bind fun bt502 => ((access_Imply.f bt502.1 bt502.2).bind fun bt504 => ((access_Join.f k bt490.1 bt490.2.1 bt493.1 bt493.2.1).bind fun bt507 => ((access_Join.f k bt493.1 bt493.2.1 bt490.1 bt490.2.1).bind fun bt509 => (if (bt507.1 == bt509.1 && (bt507.2 == bt509.2)) = true then ((access_Join.f k bt490.1 bt490.2.1 bt493.1 bt493.2.1).bind fun bt511 => ((access_Join.f k bt511.1 bt511.2 bt496.1 bt496.2.1).bind fun bt513 => ((access_Join.f k bt493.1 bt493.2.1 bt496.1 bt496.2.1).bind fun bt515 => ((access_Join.f k bt490.1 bt490.2.1 bt515.1 bt515.2).bind fun bt517 => (if (bt513.1 == bt517.1 && (bt513.2 == bt517.2)) = true then ((access_Join.f k bt490.1 bt490.2.1 bt490.1 bt490.2.1).bind fun bt519 => (if (bt519.1 == bt490.1 && (bt519.2 == bt490.2.1)) = true then ((access_Imply.f bt504.1 bt504.2).bind fun bt521 => (if (bt521.1 == bt504.1 && (bt521.2 == bt504.2)) = true then ((access_Imply.f bt490.1 bt490.2.1).bind fun bt523 => ((access_Imply.f bt493.1 bt493.2.1).bind fun bt525 => ((access_Join.f k bt523.1 bt523.2 bt525.1 bt525.2).bind fun bt527 => ((access_Imply.f bt527.1 bt527.2).bind fun bt529 => (if (bt529.1 == bt504.1 && (bt529.2 == bt504.2)) = true then ((awardingbodylaw14_awake.f k).bind fun t531 => (some t531)) else (none)))))) else (none))) else (none))) else (none)))))) else (none)))))))))) = some r := h
 clear h
 replace H := Option.bind_eq_some_iff.mp H
 obtain ⟨⟨t487, t488⟩, A20, H⟩ := H
 replace H : ((awardingbodymake_Tape_Access.f t487 t488 0).bind fun bt490 => ((awardingbodymake_Tape_Access.f t487 bt490.2.2 0).bind fun bt493 => ((awardingbodymake_Tape_Access.f t487 bt493.2.2 0).bind fun bt496 => ((access_Join.f k bt490.1 bt490.2.1 bt493.1 bt493.2.1).bind fun bt502 => ((access_Imply.f bt502.1 bt502.2).bind fun bt504 => ((access_Join.f k bt490.1 bt490.2.1 bt493.1 bt493.2.1).bind fun bt507 => ((access_Join.f k bt493.1 bt493.2.1 bt490.1 bt490.2.1).bind fun bt509 => (if (bt507.1 == bt509.1 && (bt507.2 == bt509.2)) = true then ((access_Join.f k bt490.1 bt490.2.1 bt493.1 bt493.2.1).bind fun bt511 => ((access_Join.f k bt511.1 bt511.2 bt496.1 bt496.2.1).bind fun bt513 => ((access_Join.f k bt493.1 bt493.2.1 bt496.1 bt496.2.1).bind fun bt515 => ((access_Join.f k bt490.1 bt490.2.1 bt515.1 bt515.2).bind fun bt517 => (if (bt513.1 == bt517.1 && (bt513.2 == bt517.2)) = true then ((access_Join.f k bt490.1 bt490.2.1 bt490.1 bt490.2.1).bind fun bt519 => (if (bt519.1 == bt490.1 && (bt519.2 == bt490.2.1)) = true then ((access_Imply.f bt504.1 bt504.2).bind fun bt521 => (if (bt521.1 == bt504.1 && (bt521.2 == bt504.2)) = true then ((access_Imply.f bt490.1 bt490.2.1).bind fun bt523 => ((access_Imply.f bt493.1 bt493.2.1).bind fun bt525 => ((access_Join.f k bt523.1 bt523.2 bt525.1 bt525.2).bind fun bt527 => ((access_Imply.f bt527.1 bt527.2).bind fun bt529 => (if (bt529.1 == bt504.1 && (bt529.2 == bt504.2)) = true then ((awardingbodylaw14_awake.f k).bind fun t531 => (some t531)) else (none)))))) else (none))) else (none))) else (none)))))) else (none))))))))) = some r := H
 have A2 := Aside0.mk A20
 clear A20
 replace H := Option.bind_eq_some_iff.mp H
 obtain ⟨⟨t490, t491, t492⟩, A30, H⟩ := H
 replace H : ((awardingbodymake_Tape_Access.f t487 t492 0).bind fun bt493 => ((awardingbodymake_Tape_Access.f t487 bt493.2.2 0).bind fun bt496 => ((access_Join.f k t490 t491 bt493.1 bt493.2.1).bind fun bt502 => ((access_Imply.f bt502.1 bt502.2).bind fun bt504 => ((access_Join.f k t490 t491 bt493.1 bt493.2.1).bind fun bt507 => ((access_Join.f k bt493.1 bt493.2.1 t490 t491).bind fun bt509 => (if (bt507.1 == bt509.1 && (bt507.2 == bt509.2)) = true then ((access_Join.f k t490 t491 bt493.1 bt493.2.1).bind fun bt511 => ((access_Join.f k bt511.1 bt511.2 bt496.1 bt496.2.1).bind fun bt513 => ((access_Join.f k bt493.1 bt493.2.1 bt496.1 bt496.2.1).bind fun bt515 => ((access_Join.f k t490 t491 bt515.1 bt515.2).bind fun bt517 => (if (bt513.1 == bt517.1 && (bt513.2 == bt517.2)) = true then ((access_Join.f k t490 t491 t490 t491).bind fun bt519 => (if (bt519.1 == t490 && (bt519.2 == t491)) = true then ((access_Imply.f bt504.1 bt504.2).bind fun bt521 => (if (bt521.1 == bt504.1 && (bt521.2 == bt504.2)) = true then ((access_Imply.f t490 t491).bind fun bt523 => ((access_Imply.f bt493.1 bt493.2.1).bind fun bt525 => ((access_Join.f k bt523.1 bt523.2 bt525.1 bt525.2).bind fun bt527 => ((access_Imply.f bt527.1 bt527.2).bind fun bt529 => (if (bt529.1 == bt504.1 && (bt529.2 == bt504.2)) = true then ((awardingbodylaw14_awake.f k).bind fun t531 => (some t531)) else (none)))))) else (none))) else (none))) else (none)))))) else (none)))))))) = some r := H
 have A3 := Aside0.mk A30
 clear A30
 replace H := Option.bind_eq_some_iff.mp H
 obtain ⟨⟨t493, t494, t495⟩, A40, H⟩ := H
 replace H : ((awardingbodymake_Tape_Access.f t487 t495 0).bind fun bt496 => ((access_Join.f k t490 t491 t493 t494).bind fun bt502 => ((access_Imply.f bt502.1 bt502.2).bind fun bt504 => ((access_Join.f k t490 t491 t493 t494).bind fun bt507 => ((access_Join.f k t493 t494 t490 t491).bind fun bt509 => (if (bt507.1 == bt509.1 && (bt507.2 == bt509.2)) = true then ((access_Join.f k t490 t491 t493 t494).bind fun bt511 => ((access_Join.f k bt511.1 bt511.2 bt496.1 bt496.2.1).bind fun bt513 => ((access_Join.f k t493 t494 bt496.1 bt496.2.1).bind fun bt515 => ((access_Join.f k t490 t491 bt515.1 bt515.2).bind fun bt517 => (if (bt513.1 == bt517.1 && (bt513.2 == bt517.2)) = true then ((access_Join.f k t490 t491 t490 t491).bind fun bt519 => (if (bt519.1 == t490 && (bt519.2 == t491)) = true then ((access_Imply.f bt504.1 bt504.2).bind fun bt521 => (if (bt521.1 == bt504.1 && (bt521.2 == bt504.2)) = true then ((access_Imply.f t490 t491).bind fun bt523 => ((access_Imply.f t493 t494).bind fun bt525 => ((access_Join.f k bt523.1 bt523.2 bt525.1 bt525.2).bind fun bt527 => ((access_Imply.f bt527.1 bt527.2).bind fun bt529 => (if (bt529.1 == bt504.1 && (bt529.2 == bt504.2)) = true then ((awardingbodylaw14_awake.f k).bind fun t531 => (some t531)) else (none)))))) else (none))) else (none))) else (none)))))) else (none))))))) = some r := H
 have A4 := Aside0.mk A40
 clear A40
 replace H := Option.bind_eq_some_iff.mp H
 obtain ⟨⟨t496, t497, t498⟩, A50, H⟩ := H
 replace H : ((access_Join.f k t490 t491 t493 t494).bind fun bt502 => ((access_Imply.f bt502.1 bt502.2).bind fun bt504 => ((access_Join.f k t490 t491 t493 t494).bind fun bt507 => ((access_Join.f k t493 t494 t490 t491).bind fun bt509 => (if (bt507.1 == bt509.1 && (bt507.2 == bt509.2)) = true then ((access_Join.f k t490 t491 t493 t494).bind fun bt511 => ((access_Join.f k bt511.1 bt511.2 t496 t497).bind fun bt513 => ((access_Join.f k t493 t494 t496 t497).bind fun bt515 => ((access_Join.f k t490 t491 bt515.1 bt515.2).bind fun bt517 => (if (bt513.1 == bt517.1 && (bt513.2 == bt517.2)) = true then ((access_Join.f k t490 t491 t490 t491).bind fun bt519 => (if (bt519.1 == t490 && (bt519.2 == t491)) = true then ((access_Imply.f bt504.1 bt504.2).bind fun bt521 => (if (bt521.1 == bt504.1 && (bt521.2 == bt504.2)) = true then ((access_Imply.f t490 t491).bind fun bt523 => ((access_Imply.f t493 t494).bind fun bt525 => ((access_Join.f k bt523.1 bt523.2 bt525.1 bt525.2).bind fun bt527 => ((access_Imply.f bt527.1 bt527.2).bind fun bt529 => (if (bt529.1 == bt504.1 && (bt529.2 == bt504.2)) = true then ((awardingbodylaw14_awake.f k).bind fun t531 => (some t531)) else (none)))))) else (none))) else (none))) else (none)))))) else (none)))))) = some r := H
 have A5 := Aside0.mk A50
 clear A50
 replace H := Option.bind_eq_some_iff.mp H
 obtain ⟨⟨t502, t503⟩, A60, H⟩ := H
 replace H : ((access_Imply.f t502 t503).bind fun bt504 => ((access_Join.f k t490 t491 t493 t494).bind fun bt507 => ((access_Join.f k t493 t494 t490 t491).bind fun bt509 => (if (bt507.1 == bt509.1 && (bt507.2 == bt509.2)) = true then ((access_Join.f k t490 t491 t493 t494).bind fun bt511 => ((access_Join.f k bt511.1 bt511.2 t496 t497).bind fun bt513 => ((access_Join.f k t493 t494 t496 t497).bind fun bt515 => ((access_Join.f k t490 t491 bt515.1 bt515.2).bind fun bt517 => (if (bt513.1 == bt517.1 && (bt513.2 == bt517.2)) = true then ((access_Join.f k t490 t491 t490 t491).bind fun bt519 => (if (bt519.1 == t490 && (bt519.2 == t491)) = true then ((access_Imply.f bt504.1 bt504.2).bind fun bt521 => (if (bt521.1 == bt504.1 && (bt521.2 == bt504.2)) = true then ((access_Imply.f t490 t491).bind fun bt523 => ((access_Imply.f t493 t494).bind fun bt525 => ((access_Join.f k bt523.1 bt523.2 bt525.1 bt525.2).bind fun bt527 => ((access_Imply.f bt527.1 bt527.2).bind fun bt529 => (if (bt529.1 == bt504.1 && (bt529.2 == bt504.2)) = true then ((awardingbodylaw14_awake.f k).bind fun t531 => (some t531)) else (none)))))) else (none))) else (none))) else (none)))))) else (none))))) = some r := H
 have A6 := Aside0.mk A60
 clear A60
 replace H := Option.bind_eq_some_iff.mp H
 obtain ⟨⟨t504, t505⟩, A70, H⟩ := H
 replace H : ((access_Join.f k t490 t491 t493 t494).bind fun bt507 => ((access_Join.f k t493 t494 t490 t491).bind fun bt509 => (if (bt507.1 == bt509.1 && (bt507.2 == bt509.2)) = true then ((access_Join.f k t490 t491 t493 t494).bind fun bt511 => ((access_Join.f k bt511.1 bt511.2 t496 t497).bind fun bt513 => ((access_Join.f k t493 t494 t496 t497).bind fun bt515 => ((access_Join.f k t490 t491 bt515.1 bt515.2).bind fun bt517 => (if (bt513.1 == bt517.1 && (bt513.2 == bt517.2)) = true then ((access_Join.f k t490 t491 t490 t491).bind fun bt519 => (if (bt519.1 == t490 && (bt519.2 == t491)) = true then ((access_Imply.f t504 t505).bind fun bt521 => (if (bt521.1 == t504 && (bt521.2 == t505)) = true then ((access_Imply.f t490 t491).bind fun bt523 => ((access_Imply.f t493 t494).bind fun bt525 => ((access_Join.f k bt523.1 bt523.2 bt525.1 bt525.2).bind fun bt527 => ((access_Imply.f bt527.1 bt527.2).bind fun bt529 => (if (bt529.1 == t504 && (bt529.2 == t505)) = true then ((awardingbodylaw14_awake.f k).bind fun t531 => (some t531)) else (none)))))) else (none))) else (none))) else (none)))))) else (none)))) = some r := H
 have A7 := Aside0.mk A70
 clear A70
 replace H := Option.bind_eq_some_iff.mp H
 obtain ⟨⟨t507, t508⟩, A80, H⟩ := H
 replace H : ((access_Join.f k t493 t494 t490 t491).bind fun bt509 => (if (t507 == bt509.1 && (t508 == bt509.2)) = true then ((access_Join.f k t490 t491 t493 t494).bind fun bt511 => ((access_Join.f k bt511.1 bt511.2 t496 t497).bind fun bt513 => ((access_Join.f k t493 t494 t496 t497).bind fun bt515 => ((access_Join.f k t490 t491 bt515.1 bt515.2).bind fun bt517 => (if (bt513.1 == bt517.1 && (bt513.2 == bt517.2)) = true then ((access_Join.f k t490 t491 t490 t491).bind fun bt519 => (if (bt519.1 == t490 && (bt519.2 == t491)) = true then ((access_Imply.f t504 t505).bind fun bt521 => (if (bt521.1 == t504 && (bt521.2 == t505)) = true then ((access_Imply.f t490 t491).bind fun bt523 => ((access_Imply.f t493 t494).bind fun bt525 => ((access_Join.f k bt523.1 bt523.2 bt525.1 bt525.2).bind fun bt527 => ((access_Imply.f bt527.1 bt527.2).bind fun bt529 => (if (bt529.1 == t504 && (bt529.2 == t505)) = true then ((awardingbodylaw14_awake.f k).bind fun t531 => (some t531)) else (none)))))) else (none))) else (none))) else (none)))))) else (none))) = some r := H
 have A8 := Aside0.mk A80
 clear A80
 replace H := Option.bind_eq_some_iff.mp H
 obtain ⟨⟨t509, t510⟩, A90, H⟩ := H
 replace H : (if (t507 == t509 && (t508 == t510)) = true then ((access_Join.f k t490 t491 t493 t494).bind fun bt511 => ((access_Join.f k bt511.1 bt511.2 t496 t497).bind fun bt513 => ((access_Join.f k t493 t494 t496 t497).bind fun bt515 => ((access_Join.f k t490 t491 bt515.1 bt515.2).bind fun bt517 => (if (bt513.1 == bt517.1 && (bt513.2 == bt517.2)) = true then ((access_Join.f k t490 t491 t490 t491).bind fun bt519 => (if (bt519.1 == t490 && (bt519.2 == t491)) = true then ((access_Imply.f t504 t505).bind fun bt521 => (if (bt521.1 == t504 && (bt521.2 == t505)) = true then ((access_Imply.f t490 t491).bind fun bt523 => ((access_Imply.f t493 t494).bind fun bt525 => ((access_Join.f k bt523.1 bt523.2 bt525.1 bt525.2).bind fun bt527 => ((access_Imply.f bt527.1 bt527.2).bind fun bt529 => (if (bt529.1 == t504 && (bt529.2 == t505)) = true then ((awardingbodylaw14_awake.f k).bind fun t531 => (some t531)) else (none)))))) else (none))) else (none))) else (none)))))) else (none)) = some r := H
 have A9 := Aside0.mk A90
 clear A90
 by_cases c10 : (t507 == t509 && (t508 == t510)) = true
 ·rw [if_pos c10] at H
  have c10b0 : (t507 == t509 && (t508 == t510)) = true := c10
  (try (have c10b1 : decide (t507 = t509 && (t508 == t510)) = true := by simpa using c10))
  (try (have c10b2 : (t507 == t509 && (t508 == t510)) = true := by simpa using c10))
  clear c10
  replace H := Option.bind_eq_some_iff.mp H
  obtain ⟨⟨t511, t512⟩, A110, H⟩ := H
  replace H : ((access_Join.f k t511 t512 t496 t497).bind fun bt513 => ((access_Join.f k t493 t494 t496 t497).bind fun bt515 => ((access_Join.f k t490 t491 bt515.1 bt515.2).bind fun bt517 => (if (bt513.1 == bt517.1 && (bt513.2 == bt517.2)) = true then ((access_Join.f k t490 t491 t490 t491).bind fun bt519 => (if (bt519.1 == t490 && (bt519.2 == t491)) = true then ((access_Imply.f t504 t505).bind fun bt521 => (if (bt521.1 == t504 && (bt521.2 == t505)) = true then ((access_Imply.f t490 t491).bind fun bt523 => ((access_Imply.f t493 t494).bind fun bt525 => ((access_Join.f k bt523.1 bt523.2 bt525.1 bt525.2).bind fun bt527 => ((access_Imply.f bt527.1 bt527.2).bind fun bt529 => (if (bt529.1 == t504 && (bt529.2 == t505)) = true then ((awardingbodylaw14_awake.f k).bind fun t531 => (some t531)) else (none)))))) else (none))) else (none))) else (none))))) = some r := H
  have A11 := Aside0.mk A110
  clear A110
  replace H := Option.bind_eq_some_iff.mp H
  obtain ⟨⟨t513, t514⟩, A120, H⟩ := H
  replace H : ((access_Join.f k t493 t494 t496 t497).bind fun bt515 => ((access_Join.f k t490 t491 bt515.1 bt515.2).bind fun bt517 => (if (t513 == bt517.1 && (t514 == bt517.2)) = true then ((access_Join.f k t490 t491 t490 t491).bind fun bt519 => (if (bt519.1 == t490 && (bt519.2 == t491)) = true then ((access_Imply.f t504 t505).bind fun bt521 => (if (bt521.1 == t504 && (bt521.2 == t505)) = true then ((access_Imply.f t490 t491).bind fun bt523 => ((access_Imply.f t493 t494).bind fun bt525 => ((access_Join.f k bt523.1 bt523.2 bt525.1 bt525.2).bind fun bt527 => ((access_Imply.f bt527.1 bt527.2).bind fun bt529 => (if (bt529.1 == t504 && (bt529.2 == t505)) = true then ((awardingbodylaw14_awake.f k).bind fun t531 => (some t531)) else (none)))))) else (none))) else (none))) else (none)))) = some r := H
  have A12 := Aside0.mk A120
  clear A120
  replace H := Option.bind_eq_some_iff.mp H
  obtain ⟨⟨t515, t516⟩, A130, H⟩ := H
  replace H : ((access_Join.f k t490 t491 t515 t516).bind fun bt517 => (if (t513 == bt517.1 && (t514 == bt517.2)) = true then ((access_Join.f k t490 t491 t490 t491).bind fun bt519 => (if (bt519.1 == t490 && (bt519.2 == t491)) = true then ((access_Imply.f t504 t505).bind fun bt521 => (if (bt521.1 == t504 && (bt521.2 == t505)) = true then ((access_Imply.f t490 t491).bind fun bt523 => ((access_Imply.f t493 t494).bind fun bt525 => ((access_Join.f k bt523.1 bt523.2 bt525.1 bt525.2).bind fun bt527 => ((access_Imply.f bt527.1 bt527.2).bind fun bt529 => (if (bt529.1 == t504 && (bt529.2 == t505)) = true then ((awardingbodylaw14_awake.f k).bind fun t531 => (some t531)) else (none)))))) else (none))) else (none))) else (none))) = some r := H
  have A13 := Aside0.mk A130
  clear A130
  replace H := Option.bind_eq_some_iff.mp H
  obtain ⟨⟨t517, t518⟩, A140, H⟩ := H
  replace H : (if (t513 == t517 && (t514 == t518)) = true then ((access_Join.f k t490 t491 t490 t491).bind fun bt519 => (if (bt519.1 == t490 && (bt519.2 == t491)) = true then ((access_Imply.f t504 t505).bind fun bt521 => (if (bt521.1 == t504 && (bt521.2 == t505)) = true then ((access_Imply.f t490 t491).bind fun bt523 => ((access_Imply.f t493 t494).bind fun bt525 => ((access_Join.f k bt523.1 bt523.2 bt525.1 bt525.2).bind fun bt527 => ((access_Imply.f bt527.1 bt527.2).bind fun bt529 => (if (bt529.1 == t504 && (bt529.2 == t505)) = true then ((awardingbodylaw14_awake.f k).bind fun t531 => (some t531)) else (none)))))) else (none))) else (none))) else (none)) = some r := H
  have A14 := Aside0.mk A140
  clear A140
  by_cases c15 : (t513 == t517 && (t514 == t518)) = true
  ·rw [if_pos c15] at H
   have c15b0 : (t513 == t517 && (t514 == t518)) = true := c15
   (try (have c15b1 : decide (t513 = t517 && (t514 == t518)) = true := by simpa using c15))
   (try (have c15b2 : (t513 == t517 && (t514 == t518)) = true := by simpa using c15))
   clear c15
   replace H := Option.bind_eq_some_iff.mp H
   obtain ⟨⟨t519, t520⟩, A160, H⟩ := H
   replace H : (if (t519 == t490 && (t520 == t491)) = true then ((access_Imply.f t504 t505).bind fun bt521 => (if (bt521.1 == t504 && (bt521.2 == t505)) = true then ((access_Imply.f t490 t491).bind fun bt523 => ((access_Imply.f t493 t494).bind fun bt525 => ((access_Join.f k bt523.1 bt523.2 bt525.1 bt525.2).bind fun bt527 => ((access_Imply.f bt527.1 bt527.2).bind fun bt529 => (if (bt529.1 == t504 && (bt529.2 == t505)) = true then ((awardingbodylaw14_awake.f k).bind fun t531 => (some t531)) else (none)))))) else (none))) else (none)) = some r := H
   have A16 := Aside0.mk A160
   clear A160
   by_cases c17 : (t519 == t490 && (t520 == t491)) = true
   ·rw [if_pos c17] at H
    have c17b0 : (t519 == t490 && (t520 == t491)) = true := c17
    (try (have c17b1 : decide (t519 = t490 && (t520 == t491)) = true := by simpa using c17))
    (try (have c17b2 : (t519 == t490 && (t520 == t491)) = true := by simpa using c17))
    clear c17
    replace H := Option.bind_eq_some_iff.mp H
    obtain ⟨⟨t521, t522⟩, A180, H⟩ := H
    replace H : (if (t521 == t504 && (t522 == t505)) = true then ((access_Imply.f t490 t491).bind fun bt523 => ((access_Imply.f t493 t494).bind fun bt525 => ((access_Join.f k bt523.1 bt523.2 bt525.1 bt525.2).bind fun bt527 => ((access_Imply.f bt527.1 bt527.2).bind fun bt529 => (if (bt529.1 == t504 && (bt529.2 == t505)) = true then ((awardingbodylaw14_awake.f k).bind fun t531 => (some t531)) else (none)))))) else (none)) = some r := H
    have A18 := Aside0.mk A180
    clear A180
    by_cases c19 : (t521 == t504 && (t522 == t505)) = true
    ·rw [if_pos c19] at H
     have c19b0 : (t521 == t504 && (t522 == t505)) = true := c19
     (try (have c19b1 : decide (t521 = t504 && (t522 == t505)) = true := by simpa using c19))
     (try (have c19b2 : (t521 == t504 && (t522 == t505)) = true := by simpa using c19))
     clear c19
     replace H := Option.bind_eq_some_iff.mp H
     obtain ⟨⟨t523, t524⟩, A200, H⟩ := H
     replace H : ((access_Imply.f t493 t494).bind fun bt525 => ((access_Join.f k t523 t524 bt525.1 bt525.2).bind fun bt527 => ((access_Imply.f bt527.1 bt527.2).bind fun bt529 => (if (bt529.1 == t504 && (bt529.2 == t505)) = true then ((awardingbodylaw14_awake.f k).bind fun t531 => (some t531)) else (none))))) = some r := H
     have A20 := Aside0.mk A200
     clear A200
     replace H := Option.bind_eq_some_iff.mp H
     obtain ⟨⟨t525, t526⟩, A210, H⟩ := H
     replace H : ((access_Join.f k t523 t524 t525 t526).bind fun bt527 => ((access_Imply.f bt527.1 bt527.2).bind fun bt529 => (if (bt529.1 == t504 && (bt529.2 == t505)) = true then ((awardingbodylaw14_awake.f k).bind fun t531 => (some t531)) else (none)))) = some r := H
     have A21 := Aside0.mk A210
     clear A210
     replace H := Option.bind_eq_some_iff.mp H
     obtain ⟨⟨t527, t528⟩, A220, H⟩ := H
     replace H : ((access_Imply.f t527 t528).bind fun bt529 => (if (bt529.1 == t504 && (bt529.2 == t505)) = true then ((awardingbodylaw14_awake.f k).bind fun t531 => (some t531)) else (none))) = some r := H
     have A22 := Aside0.mk A220
     clear A220
     replace H := Option.bind_eq_some_iff.mp H
     obtain ⟨⟨t529, t530⟩, A230, H⟩ := H
     replace H : (if (t529 == t504 && (t530 == t505)) = true then ((awardingbodylaw14_awake.f k).bind fun t531 => (some t531)) else (none)) = some r := H
     have A23 := Aside0.mk A230
     clear A230
     by_cases c24 : (t529 == t504 && (t530 == t505)) = true
     ·rw [if_pos c24] at H
      have c24b0 : (t529 == t504 && (t530 == t505)) = true := c24
      (try (have c24b1 : decide (t529 = t504 && (t530 == t505)) = true := by simpa using c24))
      (try (have c24b2 : (t529 == t504 && (t530 == t505)) = true := by simpa using c24))
      clear c24
      replace H := Option.bind_eq_some_iff.mp H
      obtain ⟨t531, A250, H⟩ := H
      replace H : (some t531) = some r := H
      have A25 := Aside0.mk A250
      clear A250
      obtain rfl := Option.some.inj H
      go_enter Try.func11, Try.ntmps11
      try go_wp2_with (first | ((with_reducible refine gate_callee (f := 12) rfl ?_); refine goesL_ (some 9) rfl rfl Try.func12 (by kernel_rfl) rfl #[.slice A0 l0.length c0] rfl (by (try simp only [List.map_toArray, List.map_cons, List.map_nil]); first | done | rfl | (simp only [List.length_drop, List.length_take]; rfl)) ?_; (with_reducible refine (awardingbodymake_New.calls _ _ l0 t487 t488 w _ ?side1 ?side2 ?side3 A2.out).mono ?_); (case side1 => repeat (first | (with_reducible first | exact HB.out | apply below_alloc | apply pw_below_drewN | apply below_drew1) | exact HB.out)); (case side2 => exact HR0.out); (case side3 => exact HC0.out); rintro e w26 ⟨g489, rfl, hi, hb, hb2⟩; refine ⟨_, rfl, ?_⟩; have n0_ := Aside0.mk (hb); have n1_ := Aside0.mk (hi); clear HB; have HB := n0_; have HI489 := n1_; clear n0_ n1_; (try clear hb); (try clear hb2); (try clear hk); (try clear hi)) | ((with_reducible refine gate_callee (f := 34) rfl ?_); refine goesL_ (some 11) rfl rfl Try.func34 (by kernel_rfl) rfl #[.pointer (some ⟨g489, 0, none⟩), .int .i64 0] rfl (by (try simp only [List.map_toArray, List.map_cons, List.map_nil]); first | done | rfl | (simp only [List.length_drop, List.length_take]; rfl)) ?_; (with_reducible refine (awardingbodymake_Tape_Access.calls g489 t487 t488 0 t490 t491 t492 w _ ?side1 ?side2 A3.out).mono ?_); (case side1 => repeat (first | (with_reducible first | exact HI489.out | apply IsS57.alloc | apply IsS57.drewN | apply IsS57.drew | apply IsS57.set_1) | exact HI489.out)); (case side2 => repeat (first | (with_reducible first | exact HB.out | apply below_alloc | apply pw_below_drewN | apply below_drew1 | refine below_set ?_ (IsS57.ge HI489.out)) | exact HB.out)); rintro e w27 ⟨rfl, hi, hb, hk⟩; refine ⟨_, rfl, ?_⟩; have n0_ := Aside0.mk (hb); have n1_ := Aside0.mk (hi); clear HB; clear HI489; have HB := n0_; have HI489 := n1_; clear n0_ n1_; (try clear hb); (try clear hb2); (try clear hk); (try clear hi)) | ((with_reducible refine gate_callee (f := 34) rfl ?_); refine goesL_ (some 13) rfl rfl Try.func34 (by kernel_rfl) rfl #[.pointer (some ⟨g489, 0, none⟩), .int .i64 0] rfl (by (try simp only [List.map_toArray, List.map_cons, List.map_nil]); first | done | rfl | (simp only [List.length_drop, List.length_take]; rfl)) ?_; (with_reducible refine (awardingbodymake_Tape_Access.calls g489 t487 t492 0 t493 t494 t495 w _ ?side1 ?side2 A4.out).mono ?_); (case side1 => repeat (first | (with_reducible first | exact HI489.out | apply IsS57.alloc | apply IsS57.drewN | apply IsS57.drew | apply IsS57.set_1) | exact HI489.out)); (case side2 => repeat (first | (with_reducible first | exact HB.out | apply below_alloc | apply pw_below_drewN | apply below_drew1 | refine below_set ?_ (IsS57.ge HI489.out)) | exact HB.out)); rintro e w28 ⟨rfl, hi, hb, hk⟩; refine ⟨_, rfl, ?_⟩; have n0_ := Aside0.mk (hb); have n1_ := Aside0.mk (hi); clear HB; clear HI489; have HB := n0_; have HI489 := n1_; clear n0_ n1_; (try clear hb); (try clear hb2); (try clear hk); (try clear hi)) | ((with_reducible refine gate_callee (f := 34) rfl ?_); refine goesL_ (some 15) rfl rfl Try.func34 (by kernel_rfl) rfl #[.pointer (some ⟨g489, 0, none⟩), .int .i64 0] rfl (by (try simp only [List.map_toArray, List.map_cons, List.map_nil]); first | done | rfl | (simp only [List.length_drop, List.length_take]; rfl)) ?_; (with_reducible refine (awardingbodymake_Tape_Access.calls g489 t487 t495 0 t496 t497 t498 w _ ?side1 ?side2 A5.out).mono ?_); (case side1 => repeat (first | (with_reducible first | exact HI489.out | apply IsS57.alloc | apply IsS57.drewN | apply IsS57.drew | apply IsS57.set_1) | exact HI489.out)); (case side2 => repeat (first | (with_reducible first | exact HB.out | apply below_alloc | apply pw_below_drewN | apply below_drew1 | refine below_set ?_ (IsS57.ge HI489.out)) | exact HB.out)); rintro e w29 ⟨rfl, hi, hb, hk⟩; refine ⟨_, rfl, ?_⟩; have n0_ := Aside0.mk (hb); have n1_ := Aside0.mk (hi); clear HB; clear HI489; have HB := n0_; have HI489 := n1_; clear n0_ n1_; (try clear hb); (try clear hb2); (try clear hk); (try clear hi)) | ((with_reducible refine gate_dst (N := 4) rfl ?_); refine box_event ?hg (N := 4) ?hd (cs := #[.int .i64 0, .int .i64 0]) (t := 38) ?hr ?_; (case hd => rfl); (case hg => rfl); (case hr => first | (go_simp; done) | (go_simp; rfl)); intro gb499 hg w30 hbox hb; have n0_ := Aside0.mk (IsS57.below (by repeat (first | (with_reducible first | exact HI489.out | apply IsS57.alloc | apply IsS57.drewN | apply IsS57.drew | apply IsS57.set_1) | exact HI489.out)) hb); have n1_ := Aside0.mk (below_step (by repeat (first | (with_reducible first | exact HB.out | apply below_alloc | apply pw_below_drewN | apply below_drew1 | refine below_set ?_ (IsS57.ge HI489.out)) | exact HB.out)) hb); have n2_ := Aside0.mk (hbox); have n3_ := Aside0.mk ((by rw [hg]; exact (below_size (by repeat (first | (with_reducible first | exact HB.out | apply below_alloc | apply pw_below_drewN | apply below_drew1 | refine below_set ?_ (IsS57.ge HI489.out)) | exact HB.out))) : w.heap.size ≤ gb499)); have n4_ := Aside0.mk ((by rw [hg]; exact (below_size (by repeat (first | (with_reducible first | exact HB.out | apply below_alloc | apply pw_below_drewN | apply below_drew1 | refine below_set ?_ (IsS57.ge HI489.out)) | exact HB.out))) : w.heap.size ≤ gb499)); have n5_ := Aside0.mk ((by rw [hg]; exact Nat.ne_of_lt (IsS57.lt (show IsS57 w _ g489 t487 t498 from by repeat (first | (with_reducible first | exact HI489.out | apply IsS57.alloc | apply IsS57.drewN | apply IsS57.drew | apply IsS57.set_1) | exact HI489.out))) : g489 ≠ gb499)); have n6_ := Aside0.mk ((by rw [hg]; exact Nat.ne_of_gt (IsS57.lt (show IsS57 w _ g489 t487 t498 from by repeat (first | (with_reducible first | exact HI489.out | apply IsS57.alloc | apply IsS57.drewN | apply IsS57.drew | apply IsS57.set_1) | exact HI489.out))) : gb499 ≠ g489)); clear HI489; clear HB; have HI489 := n0_; have HB := n1_; have BK499 := n2_; have GW499 := n3_; have GE499 := n4_; have NB489_499 := n5_; have NB499_489 := n6_; clear n0_ n1_ n2_ n3_ n4_ n5_ n6_; clear hb hbox hg) | ((with_reducible refine gate_dst (N := 5) rfl ?_); refine box_event ?hg (N := 5) ?hd (cs := #[.int .i64 0, .int .i64 0]) (t := 38) ?hr ?_; (case hd => rfl); (case hg => rfl); (case hr => first | (go_simp; done) | (go_simp; rfl)); intro gb500 hg w31 hbox hb; have n0_ := Aside0.mk (IsS57.below (by repeat (first | (with_reducible first | exact HI489.out | apply IsS57.alloc | apply IsS57.drewN | apply IsS57.drew | apply IsS57.set_1 | refine IsS57.far ?_ NB489_499.out _) | exact HI489.out)) hb); have n1_ := Aside0.mk (blk_below (g := gb499) (o := .cells #[.int .i64 0, .int .i64 0] 38 (0, 0)) (by (with_reducible repeat (first | refine blk_drewN ?_ _ | refine blk_drew ?_ | refine blk_alloc ?_ _)); exact BK499.out) hb); have n2_ := Aside0.mk (below_step (by repeat (first | (with_reducible first | exact HB.out | apply below_alloc | apply pw_below_drewN | apply below_drew1 | refine below_set ?_ (IsS57.ge HI489.out) | refine below_set ?_ GE499.out) | exact HB.out)) hb); have n3_ := Aside0.mk (hbox); have n4_ := Aside0.mk ((by rw [hg]; exact (below_size (by repeat (first | (with_reducible first | exact HB.out | apply below_alloc | apply pw_below_drewN | apply below_drew1 | refine below_set ?_ (IsS57.ge HI489.out) | refine below_set ?_ GE499.out) | exact HB.out))) : w.heap.size ≤ gb500)); have n5_ := Aside0.mk ((by rw [hg]; exact (below_size (by repeat (first | (with_reducible first | exact HB.out | apply below_alloc | apply pw_below_drewN | apply below_drew1 | refine below_set ?_ (IsS57.ge HI489.out) | refine below_set ?_ GE499.out) | exact HB.out))) : w.heap.size ≤ gb500)); have n6_ := Aside0.mk ((by rw [hg]; exact Nat.ne_of_lt (blk_lt (g := gb499) (o := .cells #[.int .i64 0, .int .i64 0] 38 (0, 0)) (by (with_reducible repeat (first | refine blk_drewN ?_ _ | refine blk_drew ?_ | refine blk_alloc ?_ _)); exact BK499.out)) : gb499 ≠ gb500)); have n7_ := Aside0.mk ((by rw [hg]; exact Nat.ne_of_gt (blk_lt (g := gb499) (o := .cells #[.int .i64 0, .int .i64 0] 38 (0, 0)) (by (with_reducible repeat (first | refine blk_drewN ?_ _ | refine blk_drew ?_ | refine blk_alloc ?_ _)); exact BK499.out)) : gb500 ≠ gb499)); have n8_ := Aside0.mk ((by rw [hg]; exact Nat.ne_of_lt (IsS57.lt (show IsS57 w _ g489 t487 t498 from by repeat (first | (with_reducible first | exact HI489.out | apply IsS57.alloc | apply IsS57.drewN | apply IsS57.drew | apply IsS57.set_1 | refine IsS57.far ?_ NB489_499.out _) | exact HI489.out))) : g489 ≠ gb500)); have n9_ := Aside0.mk ((by rw [hg]; exact Nat.ne_of_gt (IsS57.lt (show IsS57 w _ g489 t487 t498 from by repeat (first | (with_reducible first | exact HI489.out | apply IsS57.alloc | apply IsS57.drewN | apply IsS57.drew | apply IsS57.set_1 | refine IsS57.far ?_ NB489_499.out _) | exact HI489.out))) : gb500 ≠ g489)); clear HI489; clear BK499; clear HB; have HI489 := n0_; have BK499 := n1_; have HB := n2_; have BK500 := n3_; have GW500 := n4_; have GE500 := n5_; have NB499_500 := n6_; have NB500_499 := n7_; have NB489_500 := n8_; have NB500_489 := n9_; clear n0_ n1_ n2_ n3_ n4_ n5_ n6_ n7_ n8_ n9_; clear hb hbox hg) | ((with_reducible refine gate_dst (N := 6) rfl ?_); refine box_event ?hg (N := 6) ?hd (cs := #[.int .i64 0, .int .i64 0]) (t := 38) ?hr ?_; (case hd => rfl); (case hg => rfl); (case hr => first | (go_simp; done) | (go_simp; rfl)); intro gb501 hg w32 hbox hb; have n0_ := Aside0.mk (IsS57.below (by repeat (first | (with_reducible first | exact HI489.out | apply IsS57.alloc | apply IsS57.drewN | apply IsS57.drew | apply IsS57.set_1 | refine IsS57.far ?_ NB489_499.out _ | refine IsS57.far ?_ NB489_500.out _) | exact HI489.out)) hb); have n1_ := Aside0.mk (blk_below (g := gb499) (o := .cells #[.int .i64 0, .int .i64 0] 38 (0, 0)) (by (with_reducible repeat (first | refine blk_drewN ?_ _ | refine blk_drew ?_ | refine blk_alloc ?_ _)); exact BK499.out) hb); have n2_ := Aside0.mk (blk_below (g := gb500) (o := .cells #[.int .i64 0, .int .i64 0] 38 (0, 0)) (by (with_reducible repeat (first | refine blk_drewN ?_ _ | refine blk_drew ?_ | refine blk_alloc ?_ _)); exact BK500.out) hb); have n3_ := Aside0.mk (below_step (by repeat (first | (with_reducible first | exact HB.out | apply below_alloc | apply pw_below_drewN | apply below_drew1 | refine below_set ?_ (IsS57.ge HI489.out) | refine below_set ?_ GE499.out | refine below_set ?_ GE500.out) | exact HB.out)) hb); have n4_ := Aside0.mk (hbox); have n5_ := Aside0.mk ((by rw [hg]; exact (below_size (by repeat (first | (with_reducible first | exact HB.out | apply below_alloc | apply pw_below_drewN | apply below_drew1 | refine below_set ?_ (IsS57.ge HI489.out) | refine below_set ?_ GE499.out | refine below_set ?_ GE500.out) | exact HB.out))) : w.heap.size ≤ gb501)); have n6_ := Aside0.mk ((by rw [hg]; exact (below_size (by repeat (first | (with_reducible first | exact HB.out | apply below_alloc | apply pw_below_drewN | apply below_drew1 | refine below_set ?_ (IsS57.ge HI489.out) | refine below_set ?_ GE499.out | refine below_set ?_ GE500.out) | exact HB.out))) : w.heap.size ≤ gb501)); have n7_ := Aside0.mk ((by rw [hg]; exact Nat.ne_of_lt (blk_lt (g := gb499) (o := .cells #[.int .i64 0, .int .i64 0] 38 (0, 0)) (by (with_reducible repeat (first | refine blk_drewN ?_ _ | refine blk_drew ?_ | refine blk_alloc ?_ _)); exact BK499.out)) : gb499 ≠ gb501)); have n8_ := Aside0.mk ((by rw [hg]; exact Nat.ne_of_gt (blk_lt (g := gb499) (o := .cells #[.int .i64 0, .int .i64 0] 38 (0, 0)) (by (with_reducible repeat (first | refine blk_drewN ?_ _ | refine blk_drew ?_ | refine blk_alloc ?_ _)); exact BK499.out)) : gb501 ≠ gb499)); have n9_ := Aside0.mk ((by rw [hg]; exact Nat.ne_of_lt (blk_lt (g := gb500) (o := .cells #[.int .i64 0, .int .i64 0] 38 (0, 0)) (by (with_reducible repeat (first | refine blk_drewN ?_ _ | refine blk_drew ?_ | refine blk_alloc ?_ _)); exact BK500.out)) : gb500 ≠ gb501)); have n10_ := Aside0.mk ((by rw [hg]; exact Nat.ne_of_gt (blk_lt (g := gb500) (o := .cells #[.int .i64 0, .int .i64 0] 38 (0, 0)) (by (with_reducible repeat (first | refine blk_drewN ?_ _ | refine blk_drew ?_ | refine blk_alloc ?_ _)); exact BK500.out)) : gb501 ≠ gb500)); have n11_ := Aside0.mk ((by rw [hg]; exact Nat.ne_of_lt (IsS57.lt (show IsS57 w _ g489 t487 t498 from by repeat (first | (with_reducible first | exact HI489.out | apply IsS57.alloc | apply IsS57.drewN | apply IsS57.drew | apply IsS57.set_1 | refine IsS57.far ?_ NB489_499.out _ | refine IsS57.far ?_ NB489_500.out _) | exact HI489.out))) : g489 ≠ gb501)); have n12_ := Aside0.mk ((by rw [hg]; exact Nat.ne_of_gt (IsS57.lt (show IsS57 w _ g489 t487 t498 from by repeat (first | (with_reducible first | exact HI489.out | apply IsS57.alloc | apply IsS57.drewN | apply IsS57.drew | apply IsS57.set_1 | refine IsS57.far ?_ NB489_499.out _ | refine IsS57.far ?_ NB489_500.out _) | exact HI489.out))) : gb501 ≠ g489)); clear HI489; clear BK499; clear BK500; clear HB; have HI489 := n0_; have BK499 := n1_; have BK500 := n2_; have HB := n3_; have BK501 := n4_; have GW501 := n5_; have GE501 := n6_; have NB499_501 := n7_; have NB501_499 := n8_; have NB500_501 := n9_; have NB501_500 := n10_; have NB489_501 := n11_; have NB501_489 := n12_; clear n0_ n1_ n2_ n3_ n4_ n5_ n6_ n7_ n8_ n9_ n10_ n11_ n12_; clear hb hbox hg; have hnb33 := NB499_500.out; have hnc33 := NB500_499.out; have hnb34 := NB499_501.out; have hnc34 := NB501_499.out; have hnb35 := NB499_489.out; have hnc35 := NB489_499.out; have hcz36_0 : w32.cell? ⟨gb499, 0, none⟩ = some (.int .i64 0) := (blk_cell BK499.out 0).trans rfl; have hcz36_1 : w32.cell? ⟨gb499, 1, none⟩ = some (.int .i64 0) := (blk_cell BK499.out 1).trans rfl; have hfz36_0 := blk_frozen BK499.out 0; have hfz36_1 := blk_frozen BK499.out 1; have hnb37 := NB500_501.out; have hnc37 := NB501_500.out; have hnb38 := NB500_489.out; have hnc38 := NB489_500.out; have hcz39_0 : w32.cell? ⟨gb500, 0, none⟩ = some (.int .i64 0) := (blk_cell BK500.out 0).trans rfl; have hcz39_1 : w32.cell? ⟨gb500, 1, none⟩ = some (.int .i64 0) := (blk_cell BK500.out 1).trans rfl; have hfz39_0 := blk_frozen BK500.out 0; have hfz39_1 := blk_frozen BK500.out 1; have hnb40 := NB501_489.out; have hnc40 := NB489_501.out; have hcz41_0 : w32.cell? ⟨gb501, 0, none⟩ = some (.int .i64 0) := (blk_cell BK501.out 0).trans rfl; have hcz41_1 : w32.cell? ⟨gb501, 1, none⟩ = some (.int .i64 0) := (blk_cell BK501.out 1).trans rfl; have hfz41_0 := blk_frozen BK501.out 0; have hfz41_1 := blk_frozen BK501.out 1) | ((with_reducible refine gate_callee (f := 30) rfl ?_); refine goesL_ (some 18) rfl rfl Try.func30 (by kernel_rfl) rfl #[.agg #[.int .i64 t490, .int .i64 t491], .agg #[.int .i64 t493, .int .i64 t494]] rfl (by (try simp only [List.map_toArray, List.map_cons, List.map_nil]); first | done | rfl | (simp only [List.length_drop, List.length_take]; rfl)) ?_; (with_reducible refine (access_Join.calls k t490 t491 t493 t494 t502 t503 _ A6.out).mono ?_); rintro e w42 ⟨rfl, hb⟩; refine ⟨_, rfl, ?_⟩; have n0_ := Aside0.mk (IsS57.below (show IsS57 w ((((((w32.setCell ⟨gb499, 0, none⟩ (.int .i64 t490)).setCell ⟨gb499, 1, none⟩ (.int .i64 t491)).setCell ⟨gb500, 0, none⟩ (.int .i64 t493)).setCell ⟨gb500, 1, none⟩ (.int .i64 t494)).setCell ⟨gb501, 0, none⟩ (.int .i64 t496)).setCell ⟨gb501, 1, none⟩ (.int .i64 t497)) g489 t487 t498 from by repeat (first | (with_reducible first | exact HI489.out | apply IsS57.alloc | apply IsS57.drewN | apply IsS57.drew | apply IsS57.set_1 | refine IsS57.far ?_ NB489_499.out _ | refine IsS57.far ?_ NB489_500.out _ | refine IsS57.far ?_ NB489_501.out _) | exact HI489.out)) hb); have n1_ := Aside0.mk (blk_below (g := gb499) (o := .cells #[.int .i64 t490, .int .i64 t491] 38 (0, 0)) (by (with_reducible repeat (first | refine blk_drewN ?_ _ | refine blk_drew ?_ | refine blk_alloc ?_ _)); refine blk_far ?_ NB499_501.out _; (with_reducible repeat (first | refine blk_drewN ?_ _ | refine blk_drew ?_ | refine blk_alloc ?_ _)); refine blk_far ?_ NB499_501.out _; (with_reducible repeat (first | refine blk_drewN ?_ _ | refine blk_drew ?_ | refine blk_alloc ?_ _)); refine blk_far ?_ NB499_500.out _; (with_reducible repeat (first | refine blk_drewN ?_ _ | refine blk_drew ?_ | refine blk_alloc ?_ _)); refine blk_far ?_ NB499_500.out _; (with_reducible repeat (first | refine blk_drewN ?_ _ | refine blk_drew ?_ | refine blk_alloc ?_ _)); refine blk_put (cs := #[.int .i64 t490, .int .i64 0]) ?_ 1 _ rfl; (with_reducible repeat (first | refine blk_drewN ?_ _ | refine blk_drew ?_ | refine blk_alloc ?_ _)); refine blk_put (cs := #[.int .i64 0, .int .i64 0]) ?_ 0 _ rfl; (with_reducible repeat (first | refine blk_drewN ?_ _ | refine blk_drew ?_ | refine blk_alloc ?_ _)); exact BK499.out) hb); have n2_ := Aside0.mk (blk_below (g := gb500) (o := .cells #[.int .i64 t493, .int .i64 t494] 38 (0, 0)) (by (with_reducible repeat (first | refine blk_drewN ?_ _ | refine blk_drew ?_ | refine blk_alloc ?_ _)); refine blk_far ?_ NB500_501.out _; (with_reducible repeat (first | refine blk_drewN ?_ _ | refine blk_drew ?_ | refine blk_alloc ?_ _)); refine blk_far ?_ NB500_501.out _; (with_reducible repeat (first | refine blk_drewN ?_ _ | refine blk_drew ?_ | refine blk_alloc ?_ _)); refine blk_put (cs := #[.int .i64 t493, .int .i64 0]) ?_ 1 _ rfl; (with_reducible repeat (first | refine blk_drewN ?_ _ | refine blk_drew ?_ | refine blk_alloc ?_ _)); refine blk_put (cs := #[.int .i64 0, .int .i64 0]) ?_ 0 _ rfl; (with_reducible repeat (first | refine blk_drewN ?_ _ | refine blk_drew ?_ | refine blk_alloc ?_ _)); refine blk_far ?_ NB500_499.out _; (with_reducible repeat (first | refine blk_drewN ?_ _ | refine blk_drew ?_ | refine blk_alloc ?_ _)); refine blk_far ?_ NB500_499.out _; (with_reducible repeat (first | refine blk_drewN ?_ _ | refine blk_drew ?_ | refine blk_alloc ?_ _)); exact BK500.out) hb); have n3_ := Aside0.mk (blk_below (g := gb501) (o := .cells #[.int .i64 t496, .int .i64 t497] 38 (0, 0)) (by (with_reducible repeat (first | refine blk_drewN ?_ _ | refine blk_drew ?_ | refine blk_alloc ?_ _)); refine blk_put (cs := #[.int .i64 t496, .int .i64 0]) ?_ 1 _ rfl; (with_reducible repeat (first | refine blk_drewN ?_ _ | refine blk_drew ?_ | refine blk_alloc ?_ _)); refine blk_put (cs := #[.int .i64 0, .int .i64 0]) ?_ 0 _ rfl; (with_reducible repeat (first | refine blk_drewN ?_ _ | refine blk_drew ?_ | refine blk_alloc ?_ _)); refine blk_far ?_ NB501_500.out _; (with_reducible repeat (first | refine blk_drewN ?_ _ | refine blk_drew ?_ | refine blk_alloc ?_ _)); refine blk_far ?_ NB501_500.out _; (with_reducible repeat (first | refine blk_drewN ?_ _ | refine blk_drew ?_ | refine blk_alloc ?_ _)); refine blk_far ?_ NB501_499.out _; (with_reducible repeat (first | refine blk_drewN ?_ _ | refine blk_drew ?_ | refine blk_alloc ?_ _)); refine blk_far ?_ NB501_499.out _; (with_reducible repeat (first | refine blk_drewN ?_ _ | refine blk_drew ?_ | refine blk_alloc ?_ _)); exact BK501.out) hb); have n4_ := Aside0.mk (below_step (by repeat (first | (with_reducible first | exact HB.out | apply below_alloc | apply pw_below_drewN | apply below_drew1 | refine below_set ?_ (IsS57.ge HI489.out) | refine below_set ?_ GE499.out | refine below_set ?_ GE500.out | refine below_set ?_ GE501.out) | exact HB.out)) hb); clear HI489; clear BK499; clear BK500; clear BK501; clear HB; have HI489 := n0_; have BK499 := n1_; have BK500 := n2_; have BK501 := n3_; have HB := n4_; clear n0_ n1_ n2_ n3_ n4_; (try clear hb); (try clear hb2); (try clear hk); (try clear hi)) | ((with_reducible refine gate_callee (f := 32) rfl ?_); refine goesL_ (some 19) rfl rfl Try.func32 (by kernel_rfl) rfl #[.agg #[.int .i64 t502, .int .i64 t503]] rfl (by (try simp only [List.map_toArray, List.map_cons, List.map_nil]); first | done | rfl | (simp only [List.length_drop, List.length_take]; rfl)) ?_; (with_reducible refine (access_Imply.calls t502 t503 t504 t505 _ A7.out).mono ?_); rintro e w43 ⟨rfl, hb⟩; refine ⟨_, rfl, ?_⟩; have n0_ := Aside0.mk (IsS57.below (by repeat (first | (with_reducible first | exact HI489.out | apply IsS57.alloc | apply IsS57.drewN | apply IsS57.drew | apply IsS57.set_1 | refine IsS57.far ?_ NB489_499.out _ | refine IsS57.far ?_ NB489_500.out _ | refine IsS57.far ?_ NB489_501.out _) | exact HI489.out)) hb); have n1_ := Aside0.mk (blk_below (g := gb499) (o := .cells #[.int .i64 t490, .int .i64 t491] 38 (0, 0)) (by (with_reducible repeat (first | refine blk_drewN ?_ _ | refine blk_drew ?_ | refine blk_alloc ?_ _)); exact BK499.out) hb); have n2_ := Aside0.mk (blk_below (g := gb500) (o := .cells #[.int .i64 t493, .int .i64 t494] 38 (0, 0)) (by (with_reducible repeat (first | refine blk_drewN ?_ _ | refine blk_drew ?_ | refine blk_alloc ?_ _)); exact BK500.out) hb); have n3_ := Aside0.mk (blk_below (g := gb501) (o := .cells #[.int .i64 t496, .int .i64 t497] 38 (0, 0)) (by (with_reducible repeat (first | refine blk_drewN ?_ _ | refine blk_drew ?_ | refine blk_alloc ?_ _)); exact BK501.out) hb); have n4_ := Aside0.mk (below_step (by repeat (first | (with_reducible first | exact HB.out | apply below_alloc | apply pw_below_drewN | apply below_drew1 | refine below_set ?_ (IsS57.ge HI489.out) | refine below_set ?_ GE499.out | refine below_set ?_ GE500.out | refine below_set ?_ GE501.out) | exact HB.out)) hb); clear HI489; clear BK499; clear BK500; clear BK501; clear HB; have HI489 := n0_; have BK499 := n1_; have BK500 := n2_; have BK501 := n3_; have HB := n4_; clear n0_ n1_ n2_ n3_ n4_; (try clear hb); (try clear hb2); (try clear hk); (try clear hi)) | ((with_reducible refine gate_dst (N := 7) rfl ?_); refine box_event ?hg (N := 7) ?hd (cs := #[.int .i64 0, .int .i64 0]) (t := 38) ?hr ?_; (case hd => rfl); (case hg => rfl); (case hr => first | (go_simp; done) | (go_simp; rfl)); intro gb506 hg w44 hbox hb; have n0_ := Aside0.mk (IsS57.below (by repeat (first | (with_reducible first | exact HI489.out | apply IsS57.alloc | apply IsS57.drewN | apply IsS57.drew | apply IsS57.set_1 | refine IsS57.far ?_ NB489_499.out _ | refine IsS57.far ?_ NB489_500.out _ | refine IsS57.far ?_ NB489_501.out _) | exact HI489.out)) hb); have n1_ := Aside0.mk (blk_below (g := gb499) (o := .cells #[.int .i64 t490, .int .i64 t491] 38 (0, 0)) (by (with_reducible repeat (first | refine blk_drewN ?_ _ | refine blk_drew ?_ | refine blk_alloc ?_ _)); exact BK499.out) hb); have n2_ := Aside0.mk (blk_below (g := gb500) (o := .cells #[.int .i64 t493, .int .i64 t494] 38 (0, 0)) (by (with_reducible repeat (first | refine blk_drewN ?_ _ | refine blk_drew ?_ | refine blk_alloc ?_ _)); exact BK500.out) hb); have n3_ := Aside0.mk (blk_below (g := gb501) (o := .cells #[.int .i64 t496, .int .i64 t497] 38 (0, 0)) (by (with_reducible repeat (first | refine blk_drewN ?_ _ | refine blk_drew ?_ | refine blk_alloc ?_ _)); exact BK501.out) hb); have n4_ := Aside0.mk (below_step (by repeat (first | (with_reducible first | exact HB.out | apply below_alloc | apply pw_below_drewN | apply below_drew1 | refine below_set ?_ (IsS57.ge HI489.out) | refine below_set ?_ GE499.out | refine below_set ?_ GE500.out | refine below_set ?_ GE501.out) | exact HB.out)) hb); have n5_ := Aside0.mk (hbox); have n6_ := Aside0.mk ((by rw [hg]; exact (below_size (by repeat (first | (with_reducible first | exact HB.out | apply below_alloc | apply pw_below_drewN | apply below_drew1 | refine below_set ?_ (IsS57.ge HI489.out) | refine below_set ?_ GE499.out | refine below_set ?_ GE500.out | refine below_set ?_ GE501.out) | exact HB.out))) : w.heap.size ≤ gb506)); have n7_ := Aside0.mk ((by rw [hg]; exact (below_size (by repeat (first | (with_reducible first | exact HB.out | apply below_alloc | apply pw_below_drewN | apply below_drew1 | refine below_set ?_ (IsS57.ge HI489.out) | refine below_set ?_ GE499.out | refine below_set ?_ GE500.out | refine below_set ?_ GE501.out) | exact HB.out))) : w.heap.size ≤ gb506)); have n8_ := Aside0.mk ((by rw [hg]; exact Nat.ne_of_lt (blk_lt (g := gb499) (o := .cells #[.int .i64 t490, .int .i64 t491] 38 (0, 0)) (by (with_reducible repeat (first | refine blk_drewN ?_ _ | refine blk_drew ?_ | refine blk_alloc ?_ _)); exact BK499.out)) : gb499 ≠ gb506)); have n9_ := Aside0.mk ((by rw [hg]; exact Nat.ne_of_gt (blk_lt (g := gb499) (o := .cells #[.int .i64 t490, .int .i64 t491] 38 (0, 0)) (by (with_reducible repeat (first | refine blk_drewN ?_ _ | refine blk_drew ?_ | refine blk_alloc ?_ _)); exact BK499.out)) : gb506 ≠ gb499)); have n10_ := Aside0.mk ((by rw [hg]; exact Nat.ne_of_lt (blk_lt (g := gb500) (o := .cells #[.int .i64 t493, .int .i64 t494] 38 (0, 0)) (by (with_reducible repeat (first | refine blk_drewN ?_ _ | refine blk_drew ?_ | refine blk_alloc ?_ _)); exact BK500.out)) : gb500 ≠ gb506)); have n11_ := Aside0.mk ((by rw [hg]; exact Nat.ne_of_gt (blk_lt (g := gb500) (o := .cells #[.int .i64 t493, .int .i64 t494] 38 (0, 0)) (by (with_reducible repeat (first | refine blk_drewN ?_ _ | refine blk_drew ?_ | refine blk_alloc ?_ _)); exact BK500.out)) : gb506 ≠ gb500)); have n12_ := Aside0.mk ((by rw [hg]; exact Nat.ne_of_lt (blk_lt (g := gb501) (o := .cells #[.int .i64 t496, .int .i64 t497] 38 (0, 0)) (by (with_reducible repeat (first | refine blk_drewN ?_ _ | refine blk_drew ?_ | refine blk_alloc ?_ _)); exact BK501.out)) : gb501 ≠ gb506)); have n13_ := Aside0.mk ((by rw [hg]; exact Nat.ne_of_gt (blk_lt (g := gb501) (o := .cells #[.int .i64 t496, .int .i64 t497] 38 (0, 0)) (by (with_reducible repeat (first | refine blk_drewN ?_ _ | refine blk_drew ?_ | refine blk_alloc ?_ _)); exact BK501.out)) : gb506 ≠ gb501)); have n14_ := Aside0.mk ((by rw [hg]; exact Nat.ne_of_lt (IsS57.lt (show IsS57 w _ g489 t487 t498 from by repeat (first | (with_reducible first | exact HI489.out | apply IsS57.alloc | apply IsS57.drewN | apply IsS57.drew | apply IsS57.set_1 | refine IsS57.far ?_ NB489_499.out _ | refine IsS57.far ?_ NB489_500.out _ | refine IsS57.far ?_ NB489_501.out _) | exact HI489.out))) : g489 ≠ gb506)); have n15_ := Aside0.mk ((by rw [hg]; exact Nat.ne_of_gt (IsS57.lt (show IsS57 w _ g489 t487 t498 from by repeat (first | (with_reducible first | exact HI489.out | apply IsS57.alloc | apply IsS57.drewN | apply IsS57.drew | apply IsS57.set_1 | refine IsS57.far ?_ NB489_499.out _ | refine IsS57.far ?_ NB489_500.out _ | refine IsS57.far ?_ NB489_501.out _) | exact HI489.out))) : gb506 ≠ g489)); clear HI489; clear BK499; clear BK500; clear BK501; clear HB; have HI489 := n0_; have BK499 := n1_; have BK500 := n2_; have BK501 := n3_; have HB := n4_; have BK506 := n5_; have GW506 := n6_; have GE506 := n7_; have NB499_506 := n8_; have NB506_499 := n9_; have NB500_506 := n10_; have NB506_500 := n11_; have NB501_506 := n12_; have NB506_501 := n13_; have NB489_506 := n14_; have NB506_489 := n15_; clear n0_ n1_ n2_ n3_ n4_ n5_ n6_ n7_ n8_ n9_ n10_ n11_ n12_ n13_ n14_ n15_; clear hb hbox hg; have hnb45 := NB506_499.out; have hnc45 := NB499_506.out; have hnb46 := NB506_500.out; have hnc46 := NB500_506.out; have hnb47 := NB506_501.out; have hnc47 := NB501_506.out; have hnb48 := NB506_489.out; have hnc48 := NB489_506.out; have hcz49_0 : w44.cell? ⟨gb506, 0, none⟩ = some (.int .i64 0) := (blk_cell BK506.out 0).trans rfl; have hcz49_1 : w44.cell? ⟨gb506, 1, none⟩ = some (.int .i64 0) := (blk_cell BK506.out 1).trans rfl; have hfz49_0 := blk_frozen BK506.out 0; have hfz49_1 := blk_frozen BK506.out 1))
      have n0_ : Aside0 (((w44.setCell ⟨gb506, 0, none⟩ (.int .i64 t504)).setCell ⟨gb506, 1, none⟩ (.int .i64 t505)).heap[gb499]? = some (.cells #[.int .i64 t490, .int .i64 t491] 38 (0, 0))) := ⟨by (with_reducible repeat (first | refine blk_drewN ?_ _ | refine blk_drew ?_ | refine blk_alloc ?_ _)); refine blk_far ?_ NB499_506.out _; (with_reducible repeat (first | refine blk_drewN ?_ _ | refine blk_drew ?_ | refine blk_alloc ?_ _)); refine blk_far ?_ NB499_506.out _; (with_reducible repeat (first | refine blk_drewN ?_ _ | refine blk_drew ?_ | refine blk_alloc ?_ _)); exact BK499.out⟩
      have n1_ : Aside0 (((w44.setCell ⟨gb506, 0, none⟩ (.int .i64 t504)).setCell ⟨gb506, 1, none⟩ (.int .i64 t505)).heap[gb500]? = some (.cells #[.int .i64 t493, .int .i64 t494] 38 (0, 0))) := ⟨by (with_reducible repeat (first | refine blk_drewN ?_ _ | refine blk_drew ?_ | refine blk_alloc ?_ _)); refine blk_far ?_ NB500_506.out _; (with_reducible repeat (first | refine blk_drewN ?_ _ | refine blk_drew ?_ | refine blk_alloc ?_ _)); refine blk_far ?_ NB500_506.out _; (with_reducible repeat (first | refine blk_drewN ?_ _ | refine blk_drew ?_ | refine blk_alloc ?_ _)); exact BK500.out⟩
      have n2_ : Aside0 (((w44.setCell ⟨gb506, 0, none⟩ (.int .i64 t504)).setCell ⟨gb506, 1, none⟩ (.int .i64 t505)).heap[gb501]? = some (.cells #[.int .i64 t496, .int .i64 t497] 38 (0, 0))) := ⟨by (with_reducible repeat (first | refine blk_drewN ?_ _ | refine blk_drew ?_ | refine blk_alloc ?_ _)); refine blk_far ?_ NB501_506.out _; (with_reducible repeat (first | refine blk_drewN ?_ _ | refine blk_drew ?_ | refine blk_alloc ?_ _)); refine blk_far ?_ NB501_506.out _; (with_reducible repeat (first | refine blk_drewN ?_ _ | refine blk_drew ?_ | refine blk_alloc ?_ _)); exact BK501.out⟩
      have n3_ : Aside0 (((w44.setCell ⟨gb506, 0, none⟩ (.int .i64 t504)).setCell ⟨gb506, 1, none⟩ (.int .i64 t505)).heap[gb506]? = some (.cells #[.int .i64 t504, .int .i64 t505] 38 (0, 0))) := ⟨by (with_reducible repeat (first | refine blk_drewN ?_ _ | refine blk_drew ?_ | refine blk_alloc ?_ _)); refine blk_put (cs := #[.int .i64 t504, .int .i64 0]) ?_ 1 _ rfl; (with_reducible repeat (first | refine blk_drewN ?_ _ | refine blk_drew ?_ | refine blk_alloc ?_ _)); refine blk_put (cs := #[.int .i64 0, .int .i64 0]) ?_ 0 _ rfl; (with_reducible repeat (first | refine blk_drewN ?_ _ | refine blk_drew ?_ | refine blk_alloc ?_ _)); exact BK506.out⟩
      have n4_ : Aside0 (IsS57 w ((w44.setCell ⟨gb506, 0, none⟩ (.int .i64 t504)).setCell ⟨gb506, 1, none⟩ (.int .i64 t505)) g489 t487 t498) := ⟨by repeat (first | (with_reducible first | exact HI489.out | apply IsS57.alloc | apply IsS57.drewN | apply IsS57.drew | apply IsS57.set_1 | refine IsS57.far ?_ NB489_499.out _ | refine IsS57.far ?_ NB489_500.out _ | refine IsS57.far ?_ NB489_501.out _ | refine IsS57.far ?_ NB489_506.out _) | exact HI489.out)⟩
      have n5_ : Aside0 (Below w.heap.size w ((w44.setCell ⟨gb506, 0, none⟩ (.int .i64 t504)).setCell ⟨gb506, 1, none⟩ (.int .i64 t505))) := ⟨by repeat (first | (with_reducible first | exact HB.out | apply below_alloc | apply pw_below_drewN | apply below_drew1 | refine below_set ?_ (IsS57.ge HI489.out) | refine below_set ?_ GE499.out | refine below_set ?_ GE500.out | refine below_set ?_ GE501.out | refine below_set ?_ GE506.out) | exact HB.out)⟩
      (try clear BK499)
      (try clear BK500)
      (try clear BK501)
      (try clear BK506)
      (try clear HI489)
      (try clear HB)
      generalize ((w44.setCell ⟨gb506, 0, none⟩ (.int .i64 t504)).setCell ⟨gb506, 1, none⟩ (.int .i64 t505)) = w50 at n0_ n1_ n2_ n3_ n4_ n5_ ⊢
      have BK499 := n0_
      have BK500 := n1_
      have BK501 := n2_
      have BK506 := n3_
      have HI489 := n4_
      have HB := n5_
      clear n0_ n1_ n2_ n3_ n4_ n5_
      have n0_ := Aside0.mk (blk_drew BK499.out)
      have n1_ := Aside0.mk (blk_drew BK500.out)
      have n2_ := Aside0.mk (blk_drew BK501.out)
      have n3_ := Aside0.mk (blk_drew BK506.out)
      have n4_ := Aside0.mk (IsS57.drew HI489.out)
      have n5_ := Aside0.mk (below_drew1 HB.out)
      clear BK499
      clear BK500
      clear BK501
      clear BK506
      clear HI489
      clear HB
      have BK499 := n0_
      have BK500 := n1_
      have BK501 := n2_
      have BK506 := n3_
      have HI489 := n4_
      have HB := n5_
      clear n0_ n1_ n2_ n3_ n4_ n5_
      refine start_ (n := 47) (S := fun w' => w'.cell? ⟨gb499, 0, none⟩ = some (.int .i64 t490) ∧ w'.cell? ⟨gb499, 1, none⟩ = some (.int .i64 t491) ∧ w'.cell? ⟨gb500, 0, none⟩ = some (.int .i64 t493) ∧ w'.cell? ⟨gb500, 1, none⟩ = some (.int .i64 t494) ∧ w'.cell? ⟨gb501, 0, none⟩ = some (.int .i64 t496) ∧ w'.cell? ⟨gb501, 1, none⟩ = some (.int .i64 t497) ∧ w'.cell? ⟨gb506, 0, none⟩ = some (.int .i64 t504) ∧ w'.cell? ⟨gb506, 1, none⟩ = some (.int .i64 t505)) (ds := []) #[false, false, false, false, false, false, false, false, false, false, false, false, false, false, false, false, false, false, false, false, false, false, false, false, false, false, false, false, false, false, false, false, false, false, false, false, false, false, false, false, false, false, false, false, false, false, false] (by kernel_rfl) rfl rfl ⟨(blk_cell BK499.out 0).trans rfl, (blk_cell BK499.out 1).trans rfl, (blk_cell BK500.out 0).trans rfl, (blk_cell BK500.out 1).trans rfl, (blk_cell BK501.out 0).trans rfl, (blk_cell BK501.out 1).trans rfl, (blk_cell BK506.out 0).trans rfl, (blk_cell BK506.out 1).trans rfl⟩ (fun hHeld => ?_); refine with_tabW awardingbodylaw14_AccessAlgebra.tab4 awardingbodylaw14_AccessAlgebra.bits4 (fun HT_ HW_ => ?_)
      generalize w50.drew = w51 at BK499 BK500 BK501 BK506 HI489 HB hHeld ⊢
      refine take_ (i := 0) (N := some 20) (v := ?_) (a' := ?_) #[true, false, false, false, false, false, false, false, false, false, false, false, false, false, false, false, false, false, false, false, false, false, false, false, false, false, false, false, false, false, false, false, false, false, false, false, false, false, false, false, false, false, false, false, false, false, false] rfl rfl (take_ofW HT_.out HW_.out (by kernel_rfl)) (fun _ _ _ h => h) (Or.inl ⟨by rfl, ?_⟩) hHeld ?_ ?_
      rotate_left
      ·rintro w' ⟨s0, s1, s2, s3, s4, s5, s6, s7⟩
       go_simp
       with_reducible rfl
      rotate_left
      ·simp only [Act.put, List.setIfInBounds_toArray, List.set_cons_zero, List.set_cons_succ, i64_w, i32_w]
       rfl
      refine take_ (i := 1) (N := some 21) (v := ?_) (a' := ?_) #[true, true, false, false, false, false, false, false, false, false, false, false, false, false, false, false, false, false, false, false, false, false, false, false, false, false, false, false, false, false, false, false, false, false, false, false, false, false, false, false, false, false, false, false, false, false, false] rfl rfl (take_ofW HT_.out HW_.out (by kernel_rfl)) (fun _ _ _ h => h) (Or.inl ⟨by rfl, ?_⟩) hHeld ?_ ?_
      rotate_left
      ·rintro w' ⟨s0, s1, s2, s3, s4, s5, s6, s7⟩
       go_simp
       with_reducible rfl
      rotate_left
      ·simp only [Act.put, List.setIfInBounds_toArray, List.set_cons_zero, List.set_cons_succ, i64_w, i32_w]
       rfl
      refine take_ (i := 3) (N := some 23) (v := ?_) (a' := ?_) #[true, true, false, true, false, false, false, false, false, false, false, false, false, false, false, false, false, false, false, false, false, false, false, false, false, false, false, false, false, false, false, false, false, false, false, false, false, false, false, false, false, false, false, false, false, false, false] rfl rfl (take_ofW HT_.out HW_.out (by kernel_rfl)) (fun _ _ _ h => h) (Or.inl ⟨by rfl, ?_⟩) hHeld ?_ ?_
      rotate_left
      ·rintro w' ⟨s0, s1, s2, s3, s4, s5, s6, s7⟩
       go_simp
       with_reducible rfl
      rotate_left
      ·simp only [Act.put, List.setIfInBounds_toArray, List.set_cons_zero, List.set_cons_succ, i64_w, i32_w]
       rfl
      refine take_ (i := 4) (N := some 24) (v := ?_) (a' := ?_) #[true, true, false, true, true, false, false, false, false, false, false, false, false, false, false, false, false, false, false, false, false, false, false, false, false, false, false, false, false, false, false, false, false, false, false, false, false, false, false, false, false, false, false, false, false, false, false] rfl rfl (take_ofW HT_.out HW_.out (by kernel_rfl)) (fun _ _ _ h => h) (Or.inl ⟨by rfl, ?_⟩) hHeld ?_ ?_
      rotate_left
      ·rintro w' ⟨s0, s1, s2, s3, s4, s5, s6, s7⟩
       go_simp
       with_reducible rfl
      rotate_left
      ·simp only [Act.put, List.setIfInBounds_toArray, List.set_cons_zero, List.set_cons_succ, i64_w, i32_w]
       rfl
      refine one_ (i := 2) (N := some 22) #[true, true, true, true, true, false, false, false, false, false, false, false, false, false, false, false, false, false, false, false, false, false, false, false, false, false, false, false, false, false, false, false, false, false, false, false, false, false, false, false, false, false, false, false, false, false, false] rfl rfl (one_of HT_.out (by kernel_rfl)) (by decide) (fun K hK => ?_)
      refine goes_ Try.func30 (by kernel_rfl) rfl #[.agg #[.int .i64 t490, .int .i64 t491], .agg #[.int .i64 t493, .int .i64 t494]] (by rfl) rfl rfl (by (try simp only [List.map_toArray, List.map_cons, List.map_nil]); first | done | rfl | (simp only [List.length_drop, List.length_take]; rfl)) ?_
      with_reducible refine (access_Join.calls k t490 t491 t493 t494 t507 t508 _ A8.out).mono ?_
      rintro e w52 ⟨rfl, hb⟩
      refine ⟨_, rfl, ?_⟩
      have n0_ := Aside0.mk (IsS57.below (by repeat (first | (with_reducible first | exact HI489.out | apply IsS57.alloc | apply IsS57.drewN | apply IsS57.drew | apply IsS57.set_1 | refine IsS57.far ?_ NB489_499.out _ | refine IsS57.far ?_ NB489_500.out _ | refine IsS57.far ?_ NB489_501.out _ | refine IsS57.far ?_ NB489_506.out _) | exact HI489.out)) hb)
      have n1_ := Aside0.mk (blk_below (g := gb499) (o := .cells #[.int .i64 t490, .int .i64 t491] 38 (0, 0)) (by (with_reducible repeat (first | refine blk_drewN ?_ _ | refine blk_drew ?_ | refine blk_alloc ?_ _)); exact BK499.out) hb)
      have n2_ := Aside0.mk (blk_below (g := gb500) (o := .cells #[.int .i64 t493, .int .i64 t494] 38 (0, 0)) (by (with_reducible repeat (first | refine blk_drewN ?_ _ | refine blk_drew ?_ | refine blk_alloc ?_ _)); exact BK500.out) hb)
      have n3_ := Aside0.mk (blk_below (g := gb501) (o := .cells #[.int .i64 t496, .int .i64 t497] 38 (0, 0)) (by (with_reducible repeat (first | refine blk_drewN ?_ _ | refine blk_drew ?_ | refine blk_alloc ?_ _)); exact BK501.out) hb)
      have n4_ := Aside0.mk (blk_below (g := gb506) (o := .cells #[.int .i64 t504, .int .i64 t505] 38 (0, 0)) (by (with_reducible repeat (first | refine blk_drewN ?_ _ | refine blk_drew ?_ | refine blk_alloc ?_ _)); exact BK506.out) hb)
      have n5_ := Aside0.mk (below_step (by repeat (first | (with_reducible first | exact HB.out | apply below_alloc | apply pw_below_drewN | apply below_drew1 | refine below_set ?_ (IsS57.ge HI489.out) | refine below_set ?_ GE499.out | refine below_set ?_ GE500.out | refine below_set ?_ GE501.out | refine below_set ?_ GE506.out) | exact HB.out)) hb)
      clear HI489
      clear BK499
      clear BK500
      clear BK501
      clear BK506
      clear HB
      have HI489 := n0_
      have BK499 := n1_
      have BK500 := n2_
      have BK501 := n3_
      have BK506 := n4_
      have HB := n5_
      clear n0_ n1_ n2_ n3_ n4_ n5_
      (try clear hb)
      (try clear hb2)
      (try clear hk)
      (try clear hi)
      refine hK.out _ _ ⟨(blk_cell BK499.out 0).trans rfl, (blk_cell BK499.out 1).trans rfl, (blk_cell BK500.out 0).trans rfl, (blk_cell BK500.out 1).trans rfl, (blk_cell BK501.out 0).trans rfl, (blk_cell BK501.out 1).trans rfl, (blk_cell BK506.out 0).trans rfl, (blk_cell BK506.out 1).trans rfl⟩ (fun hHeld => ?_)
      clear hK K
      refine norm_ (a' := ?_) ?_ ?_
      rotate_left
      ·show Act.put _ (some 22) _ = _
       simp only [Act.put, List.setIfInBounds_toArray, List.set_cons_zero, List.set_cons_succ, i64_w, i32_w]
       rfl
      refine one_ (i := 5) (N := some 25) #[true, true, true, true, true, true, false, false, false, false, false, false, false, false, false, false, false, false, false, false, false, false, false, false, false, false, false, false, false, false, false, false, false, false, false, false, false, false, false, false, false, false, false, false, false, false, false] rfl rfl (one_of HT_.out (by kernel_rfl)) (by decide) (fun K hK => ?_)
      refine goes_ Try.func30 (by kernel_rfl) rfl #[.agg #[.int .i64 t493, .int .i64 t494], .agg #[.int .i64 t490, .int .i64 t491]] (by rfl) rfl rfl (by (try simp only [List.map_toArray, List.map_cons, List.map_nil]); first | done | rfl | (simp only [List.length_drop, List.length_take]; rfl)) ?_
      with_reducible refine (access_Join.calls k t493 t494 t490 t491 t509 t510 _ A9.out).mono ?_
      rintro e w53 ⟨rfl, hb⟩
      refine ⟨_, rfl, ?_⟩
      have n0_ := Aside0.mk (IsS57.below (by repeat (first | (with_reducible first | exact HI489.out | apply IsS57.alloc | apply IsS57.drewN | apply IsS57.drew | apply IsS57.set_1 | refine IsS57.far ?_ NB489_499.out _ | refine IsS57.far ?_ NB489_500.out _ | refine IsS57.far ?_ NB489_501.out _ | refine IsS57.far ?_ NB489_506.out _) | exact HI489.out)) hb)
      have n1_ := Aside0.mk (blk_below (g := gb499) (o := .cells #[.int .i64 t490, .int .i64 t491] 38 (0, 0)) (by (with_reducible repeat (first | refine blk_drewN ?_ _ | refine blk_drew ?_ | refine blk_alloc ?_ _)); exact BK499.out) hb)
      have n2_ := Aside0.mk (blk_below (g := gb500) (o := .cells #[.int .i64 t493, .int .i64 t494] 38 (0, 0)) (by (with_reducible repeat (first | refine blk_drewN ?_ _ | refine blk_drew ?_ | refine blk_alloc ?_ _)); exact BK500.out) hb)
      have n3_ := Aside0.mk (blk_below (g := gb501) (o := .cells #[.int .i64 t496, .int .i64 t497] 38 (0, 0)) (by (with_reducible repeat (first | refine blk_drewN ?_ _ | refine blk_drew ?_ | refine blk_alloc ?_ _)); exact BK501.out) hb)
      have n4_ := Aside0.mk (blk_below (g := gb506) (o := .cells #[.int .i64 t504, .int .i64 t505] 38 (0, 0)) (by (with_reducible repeat (first | refine blk_drewN ?_ _ | refine blk_drew ?_ | refine blk_alloc ?_ _)); exact BK506.out) hb)
      have n5_ := Aside0.mk (below_step (by repeat (first | (with_reducible first | exact HB.out | apply below_alloc | apply pw_below_drewN | apply below_drew1 | refine below_set ?_ (IsS57.ge HI489.out) | refine below_set ?_ GE499.out | refine below_set ?_ GE500.out | refine below_set ?_ GE501.out | refine below_set ?_ GE506.out) | exact HB.out)) hb)
      clear HI489
      clear BK499
      clear BK500
      clear BK501
      clear BK506
      clear HB
      have HI489 := n0_
      have BK499 := n1_
      have BK500 := n2_
      have BK501 := n3_
      have BK506 := n4_
      have HB := n5_
      clear n0_ n1_ n2_ n3_ n4_ n5_
      (try clear hb)
      (try clear hb2)
      (try clear hk)
      (try clear hi)
      refine hK.out _ _ ⟨(blk_cell BK499.out 0).trans rfl, (blk_cell BK499.out 1).trans rfl, (blk_cell BK500.out 0).trans rfl, (blk_cell BK500.out 1).trans rfl, (blk_cell BK501.out 0).trans rfl, (blk_cell BK501.out 1).trans rfl, (blk_cell BK506.out 0).trans rfl, (blk_cell BK506.out 1).trans rfl⟩ (fun hHeld => ?_)
      clear hK K
      refine norm_ (a' := ?_) ?_ ?_
      rotate_left
      ·show Act.put _ (some 25) _ = _
       simp only [Act.put, List.setIfInBounds_toArray, List.set_cons_zero, List.set_cons_succ, i64_w, i32_w]
       rfl
      refine pure_ (i := 6) (N := some 26) (v := ?_) (a' := ?_) #[true, true, true, true, true, true, true, false, false, false, false, false, false, false, false, false, false, false, false, false, false, false, false, false, false, false, false, false, false, false, false, false, false, false, false, false, false, false, false, false, false, false, false, false, false, false, false] rfl rfl (any_of HT_.out (by kernel_rfl)) (fun _ _ _ h => h) (Or.inl ⟨by rfl, ?_⟩) ?_ ?_
      rotate_left
      ·intro w'
       go_simp
       with_reducible rfl
      rotate_left
      ·simp only [Act.put, List.setIfInBounds_toArray, List.set_cons_zero, List.set_cons_succ, i64_w, i32_w]
       rfl
      refine pure_ (i := 7) (N := some 27) (v := ?_) (a' := ?_) #[true, true, true, true, true, true, true, true, false, false, false, false, false, false, false, false, false, false, false, false, false, false, false, false, false, false, false, false, false, false, false, false, false, false, false, false, false, false, false, false, false, false, false, false, false, false, false] rfl rfl (any_of HT_.out (by kernel_rfl)) (fun _ _ _ h => h) (Or.inl ⟨by rfl, ?_⟩) ?_ ?_
      rotate_left
      ·intro w'
       go_simp
       with_reducible rfl
      rotate_left
      ·simp only [Act.put, List.setIfInBounds_toArray, List.set_cons_zero, List.set_cons_succ, i64_w, i32_w]
       rfl
      refine take_ (i := 8) (N := some 28) (v := ?_) (a' := ?_) #[true, true, true, true, true, true, true, true, true, false, false, false, false, false, false, false, false, false, false, false, false, false, false, false, false, false, false, false, false, false, false, false, false, false, false, false, false, false, false, false, false, false, false, false, false, false, false] rfl rfl (take_ofW HT_.out HW_.out (by kernel_rfl)) (fun _ _ _ h => h) (Or.inl ⟨by rfl, ?_⟩) hHeld ?_ ?_
      rotate_left
      ·rintro w' ⟨s0, s1, s2, s3, s4, s5, s6, s7⟩
       go_simp
       with_reducible rfl
      rotate_left
      ·simp only [Act.put, List.setIfInBounds_toArray, List.set_cons_zero, List.set_cons_succ, i64_w, i32_w]
       rfl
      refine take_ (i := 9) (N := some 29) (v := ?_) (a' := ?_) #[true, true, true, true, true, true, true, true, true, true, false, false, false, false, false, false, false, false, false, false, false, false, false, false, false, false, false, false, false, false, false, false, false, false, false, false, false, false, false, false, false, false, false, false, false, false, false] rfl rfl (take_ofW HT_.out HW_.out (by kernel_rfl)) (fun _ _ _ h => h) (Or.inl ⟨by rfl, ?_⟩) hHeld ?_ ?_
      rotate_left
      ·rintro w' ⟨s0, s1, s2, s3, s4, s5, s6, s7⟩
       go_simp
       with_reducible rfl
      rotate_left
      ·simp only [Act.put, List.setIfInBounds_toArray, List.set_cons_zero, List.set_cons_succ, i64_w, i32_w]
       rfl
      refine take_ (i := 11) (N := some 31) (v := ?_) (a' := ?_) #[true, true, true, true, true, true, true, true, true, true, false, true, false, false, false, false, false, false, false, false, false, false, false, false, false, false, false, false, false, false, false, false, false, false, false, false, false, false, false, false, false, false, false, false, false, false, false] rfl rfl (take_ofW HT_.out HW_.out (by kernel_rfl)) (fun _ _ _ h => h) (Or.inl ⟨by rfl, ?_⟩) hHeld ?_ ?_
      rotate_left
      ·rintro w' ⟨s0, s1, s2, s3, s4, s5, s6, s7⟩
       go_simp
       with_reducible rfl
      rotate_left
      ·simp only [Act.put, List.setIfInBounds_toArray, List.set_cons_zero, List.set_cons_succ, i64_w, i32_w]
       rfl
      refine take_ (i := 13) (N := some 33) (v := ?_) (a' := ?_) #[true, true, true, true, true, true, true, true, true, true, false, true, false, true, false, false, false, false, false, false, false, false, false, false, false, false, false, false, false, false, false, false, false, false, false, false, false, false, false, false, false, false, false, false, false, false, false] rfl rfl (take_ofW HT_.out HW_.out (by kernel_rfl)) (fun _ _ _ h => h) (Or.inl ⟨by rfl, ?_⟩) hHeld ?_ ?_
      rotate_left
      ·rintro w' ⟨s0, s1, s2, s3, s4, s5, s6, s7⟩
       go_simp
       with_reducible rfl
      rotate_left
      ·simp only [Act.put, List.setIfInBounds_toArray, List.set_cons_zero, List.set_cons_succ, i64_w, i32_w]
       rfl
      refine take_ (i := 14) (N := some 34) (v := ?_) (a' := ?_) #[true, true, true, true, true, true, true, true, true, true, false, true, false, true, true, false, false, false, false, false, false, false, false, false, false, false, false, false, false, false, false, false, false, false, false, false, false, false, false, false, false, false, false, false, false, false, false] rfl rfl (take_ofW HT_.out HW_.out (by kernel_rfl)) (fun _ _ _ h => h) (Or.inl ⟨by rfl, ?_⟩) hHeld ?_ ?_
      rotate_left
      ·rintro w' ⟨s0, s1, s2, s3, s4, s5, s6, s7⟩
       go_simp
       with_reducible rfl
      rotate_left
      ·simp only [Act.put, List.setIfInBounds_toArray, List.set_cons_zero, List.set_cons_succ, i64_w, i32_w]
       rfl
      refine take_ (i := 15) (N := some 35) (v := ?_) (a' := ?_) #[true, true, true, true, true, true, true, true, true, true, false, true, false, true, true, true, false, false, false, false, false, false, false, false, false, false, false, false, false, false, false, false, false, false, false, false, false, false, false, false, false, false, false, false, false, false, false] rfl rfl (take_ofW HT_.out HW_.out (by kernel_rfl)) (fun _ _ _ h => h) (Or.inl ⟨by rfl, ?_⟩) hHeld ?_ ?_
      rotate_left
      ·rintro w' ⟨s0, s1, s2, s3, s4, s5, s6, s7⟩
       go_simp
       with_reducible rfl
      rotate_left
      ·simp only [Act.put, List.setIfInBounds_toArray, List.set_cons_zero, List.set_cons_succ, i64_w, i32_w]
       rfl
      refine one_ (i := 10) (N := some 30) #[true, true, true, true, true, true, true, true, true, true, true, true, false, true, true, true, false, false, false, false, false, false, false, false, false, false, false, false, false, false, false, false, false, false, false, false, false, false, false, false, false, false, false, false, false, false, false] rfl rfl (one_of HT_.out (by kernel_rfl)) (by decide) (fun K hK => ?_)
      refine goes_ Try.func30 (by kernel_rfl) rfl #[.agg #[.int .i64 t490, .int .i64 t491], .agg #[.int .i64 t493, .int .i64 t494]] (by rfl) rfl rfl (by (try simp only [List.map_toArray, List.map_cons, List.map_nil]); first | done | rfl | (simp only [List.length_drop, List.length_take]; rfl)) ?_
      with_reducible refine (access_Join.calls k t490 t491 t493 t494 t511 t512 _ A11.out).mono ?_
      rintro e w54 ⟨rfl, hb⟩
      refine ⟨_, rfl, ?_⟩
      have n0_ := Aside0.mk (IsS57.below (by repeat (first | (with_reducible first | exact HI489.out | apply IsS57.alloc | apply IsS57.drewN | apply IsS57.drew | apply IsS57.set_1 | refine IsS57.far ?_ NB489_499.out _ | refine IsS57.far ?_ NB489_500.out _ | refine IsS57.far ?_ NB489_501.out _ | refine IsS57.far ?_ NB489_506.out _) | exact HI489.out)) hb)
      have n1_ := Aside0.mk (blk_below (g := gb499) (o := .cells #[.int .i64 t490, .int .i64 t491] 38 (0, 0)) (by (with_reducible repeat (first | refine blk_drewN ?_ _ | refine blk_drew ?_ | refine blk_alloc ?_ _)); exact BK499.out) hb)
      have n2_ := Aside0.mk (blk_below (g := gb500) (o := .cells #[.int .i64 t493, .int .i64 t494] 38 (0, 0)) (by (with_reducible repeat (first | refine blk_drewN ?_ _ | refine blk_drew ?_ | refine blk_alloc ?_ _)); exact BK500.out) hb)
      have n3_ := Aside0.mk (blk_below (g := gb501) (o := .cells #[.int .i64 t496, .int .i64 t497] 38 (0, 0)) (by (with_reducible repeat (first | refine blk_drewN ?_ _ | refine blk_drew ?_ | refine blk_alloc ?_ _)); exact BK501.out) hb)
      have n4_ := Aside0.mk (blk_below (g := gb506) (o := .cells #[.int .i64 t504, .int .i64 t505] 38 (0, 0)) (by (with_reducible repeat (first | refine blk_drewN ?_ _ | refine blk_drew ?_ | refine blk_alloc ?_ _)); exact BK506.out) hb)
      have n5_ := Aside0.mk (below_step (by repeat (first | (with_reducible first | exact HB.out | apply below_alloc | apply pw_below_drewN | apply below_drew1 | refine below_set ?_ (IsS57.ge HI489.out) | refine below_set ?_ GE499.out | refine below_set ?_ GE500.out | refine below_set ?_ GE501.out | refine below_set ?_ GE506.out) | exact HB.out)) hb)
      clear HI489
      clear BK499
      clear BK500
      clear BK501
      clear BK506
      clear HB
      have HI489 := n0_
      have BK499 := n1_
      have BK500 := n2_
      have BK501 := n3_
      have BK506 := n4_
      have HB := n5_
      clear n0_ n1_ n2_ n3_ n4_ n5_
      (try clear hb)
      (try clear hb2)
      (try clear hk)
      (try clear hi)
      refine hK.out _ _ ⟨(blk_cell BK499.out 0).trans rfl, (blk_cell BK499.out 1).trans rfl, (blk_cell BK500.out 0).trans rfl, (blk_cell BK500.out 1).trans rfl, (blk_cell BK501.out 0).trans rfl, (blk_cell BK501.out 1).trans rfl, (blk_cell BK506.out 0).trans rfl, (blk_cell BK506.out 1).trans rfl⟩ (fun hHeld => ?_)
      clear hK K
      refine norm_ (a' := ?_) ?_ ?_
      rotate_left
      ·show Act.put _ (some 30) _ = _
       simp only [Act.put, List.setIfInBounds_toArray, List.set_cons_zero, List.set_cons_succ, i64_w, i32_w]
       rfl
      refine one_ (i := 12) (N := some 32) #[true, true, true, true, true, true, true, true, true, true, true, true, true, true, true, true, false, false, false, false, false, false, false, false, false, false, false, false, false, false, false, false, false, false, false, false, false, false, false, false, false, false, false, false, false, false, false] rfl rfl (one_of HT_.out (by kernel_rfl)) (by decide) (fun K hK => ?_)
      refine goes_ Try.func30 (by kernel_rfl) rfl #[.agg #[.int .i64 t511, .int .i64 t512], .agg #[.int .i64 t496, .int .i64 t497]] (by rfl) rfl rfl (by (try simp only [List.map_toArray, List.map_cons, List.map_nil]); first | done | rfl | (simp only [List.length_drop, List.length_take]; rfl)) ?_
      with_reducible refine (access_Join.calls k t511 t512 t496 t497 t513 t514 _ A12.out).mono ?_
      rintro e w55 ⟨rfl, hb⟩
      refine ⟨_, rfl, ?_⟩
      have n0_ := Aside0.mk (IsS57.below (by repeat (first | (with_reducible first | exact HI489.out | apply IsS57.alloc | apply IsS57.drewN | apply IsS57.drew | apply IsS57.set_1 | refine IsS57.far ?_ NB489_499.out _ | refine IsS57.far ?_ NB489_500.out _ | refine IsS57.far ?_ NB489_501.out _ | refine IsS57.far ?_ NB489_506.out _) | exact HI489.out)) hb)
      have n1_ := Aside0.mk (blk_below (g := gb499) (o := .cells #[.int .i64 t490, .int .i64 t491] 38 (0, 0)) (by (with_reducible repeat (first | refine blk_drewN ?_ _ | refine blk_drew ?_ | refine blk_alloc ?_ _)); exact BK499.out) hb)
      have n2_ := Aside0.mk (blk_below (g := gb500) (o := .cells #[.int .i64 t493, .int .i64 t494] 38 (0, 0)) (by (with_reducible repeat (first | refine blk_drewN ?_ _ | refine blk_drew ?_ | refine blk_alloc ?_ _)); exact BK500.out) hb)
      have n3_ := Aside0.mk (blk_below (g := gb501) (o := .cells #[.int .i64 t496, .int .i64 t497] 38 (0, 0)) (by (with_reducible repeat (first | refine blk_drewN ?_ _ | refine blk_drew ?_ | refine blk_alloc ?_ _)); exact BK501.out) hb)
      have n4_ := Aside0.mk (blk_below (g := gb506) (o := .cells #[.int .i64 t504, .int .i64 t505] 38 (0, 0)) (by (with_reducible repeat (first | refine blk_drewN ?_ _ | refine blk_drew ?_ | refine blk_alloc ?_ _)); exact BK506.out) hb)
      have n5_ := Aside0.mk (below_step (by repeat (first | (with_reducible first | exact HB.out | apply below_alloc | apply pw_below_drewN | apply below_drew1 | refine below_set ?_ (IsS57.ge HI489.out) | refine below_set ?_ GE499.out | refine below_set ?_ GE500.out | refine below_set ?_ GE501.out | refine below_set ?_ GE506.out) | exact HB.out)) hb)
      clear HI489
      clear BK499
      clear BK500
      clear BK501
      clear BK506
      clear HB
      have HI489 := n0_
      have BK499 := n1_
      have BK500 := n2_
      have BK501 := n3_
      have BK506 := n4_
      have HB := n5_
      clear n0_ n1_ n2_ n3_ n4_ n5_
      (try clear hb)
      (try clear hb2)
      (try clear hk)
      (try clear hi)
      refine hK.out _ _ ⟨(blk_cell BK499.out 0).trans rfl, (blk_cell BK499.out 1).trans rfl, (blk_cell BK500.out 0).trans rfl, (blk_cell BK500.out 1).trans rfl, (blk_cell BK501.out 0).trans rfl, (blk_cell BK501.out 1).trans rfl, (blk_cell BK506.out 0).trans rfl, (blk_cell BK506.out 1).trans rfl⟩ (fun hHeld => ?_)
      clear hK K
      refine norm_ (a' := ?_) ?_ ?_
      rotate_left
      ·show Act.put _ (some 32) _ = _
       simp only [Act.put, List.setIfInBounds_toArray, List.set_cons_zero, List.set_cons_succ, i64_w, i32_w]
       rfl
      refine one_ (i := 16) (N := some 36) #[true, true, true, true, true, true, true, true, true, true, true, true, true, true, true, true, true, false, false, false, false, false, false, false, false, false, false, false, false, false, false, false, false, false, false, false, false, false, false, false, false, false, false, false, false, false, false] rfl rfl (one_of HT_.out (by kernel_rfl)) (by decide) (fun K hK => ?_)
      refine goes_ Try.func30 (by kernel_rfl) rfl #[.agg #[.int .i64 t493, .int .i64 t494], .agg #[.int .i64 t496, .int .i64 t497]] (by rfl) rfl rfl (by (try simp only [List.map_toArray, List.map_cons, List.map_nil]); first | done | rfl | (simp only [List.length_drop, List.length_take]; rfl)) ?_
      with_reducible refine (access_Join.calls k t493 t494 t496 t497 t515 t516 _ A13.out).mono ?_
      rintro e w56 ⟨rfl, hb⟩
      refine ⟨_, rfl, ?_⟩
      have n0_ := Aside0.mk (IsS57.below (by repeat (first | (with_reducible first | exact HI489.out | apply IsS57.alloc | apply IsS57.drewN | apply IsS57.drew | apply IsS57.set_1 | refine IsS57.far ?_ NB489_499.out _ | refine IsS57.far ?_ NB489_500.out _ | refine IsS57.far ?_ NB489_501.out _ | refine IsS57.far ?_ NB489_506.out _) | exact HI489.out)) hb)
      have n1_ := Aside0.mk (blk_below (g := gb499) (o := .cells #[.int .i64 t490, .int .i64 t491] 38 (0, 0)) (by (with_reducible repeat (first | refine blk_drewN ?_ _ | refine blk_drew ?_ | refine blk_alloc ?_ _)); exact BK499.out) hb)
      have n2_ := Aside0.mk (blk_below (g := gb500) (o := .cells #[.int .i64 t493, .int .i64 t494] 38 (0, 0)) (by (with_reducible repeat (first | refine blk_drewN ?_ _ | refine blk_drew ?_ | refine blk_alloc ?_ _)); exact BK500.out) hb)
      have n3_ := Aside0.mk (blk_below (g := gb501) (o := .cells #[.int .i64 t496, .int .i64 t497] 38 (0, 0)) (by (with_reducible repeat (first | refine blk_drewN ?_ _ | refine blk_drew ?_ | refine blk_alloc ?_ _)); exact BK501.out) hb)
      have n4_ := Aside0.mk (blk_below (g := gb506) (o := .cells #[.int .i64 t504, .int .i64 t505] 38 (0, 0)) (by (with_reducible repeat (first | refine blk_drewN ?_ _ | refine blk_drew ?_ | refine blk_alloc ?_ _)); exact BK506.out) hb)
      have n5_ := Aside0.mk (below_step (by repeat (first | (with_reducible first | exact HB.out | apply below_alloc | apply pw_below_drewN | apply below_drew1 | refine below_set ?_ (IsS57.ge HI489.out) | refine below_set ?_ GE499.out | refine below_set ?_ GE500.out | refine below_set ?_ GE501.out | refine below_set ?_ GE506.out) | exact HB.out)) hb)
      clear HI489
      clear BK499
      clear BK500
      clear BK501
      clear BK506
      clear HB
      have HI489 := n0_
      have BK499 := n1_
      have BK500 := n2_
      have BK501 := n3_
      have BK506 := n4_
      have HB := n5_
      clear n0_ n1_ n2_ n3_ n4_ n5_
      (try clear hb)
      (try clear hb2)
      (try clear hk)
      (try clear hi)
      refine hK.out _ _ ⟨(blk_cell BK499.out 0).trans rfl, (blk_cell BK499.out 1).trans rfl, (blk_cell BK500.out 0).trans rfl, (blk_cell BK500.out 1).trans rfl, (blk_cell BK501.out 0).trans rfl, (blk_cell BK501.out 1).trans rfl, (blk_cell BK506.out 0).trans rfl, (blk_cell BK506.out 1).trans rfl⟩ (fun hHeld => ?_)
      clear hK K
      refine norm_ (a' := ?_) ?_ ?_
      rotate_left
      ·show Act.put _ (some 36) _ = _
       simp only [Act.put, List.setIfInBounds_toArray, List.set_cons_zero, List.set_cons_succ, i64_w, i32_w]
       rfl
      refine one_ (i := 17) (N := some 37) #[true, true, true, true, true, true, true, true, true, true, true, true, true, true, true, true, true, true, false, false, false, false, false, false, false, false, false, false, false, false, false, false, false, false, false, false, false, false, false, false, false, false, false, false, false, false, false] rfl rfl (one_of HT_.out (by kernel_rfl)) (by decide) (fun K hK => ?_)
      refine goes_ Try.func30 (by kernel_rfl) rfl #[.agg #[.int .i64 t490, .int .i64 t491], .agg #[.int .i64 t515, .int .i64 t516]] (by rfl) rfl rfl (by (try simp only [List.map_toArray, List.map_cons, List.map_nil]); first | done | rfl | (simp only [List.length_drop, List.length_take]; rfl)) ?_
      with_reducible refine (access_Join.calls k t490 t491 t515 t516 t517 t518 _ A14.out).mono ?_
      rintro e w57 ⟨rfl, hb⟩
      refine ⟨_, rfl, ?_⟩
      have n0_ := Aside0.mk (IsS57.below (by repeat (first | (with_reducible first | exact HI489.out | apply IsS57.alloc | apply IsS57.drewN | apply IsS57.drew | apply IsS57.set_1 | refine IsS57.far ?_ NB489_499.out _ | refine IsS57.far ?_ NB489_500.out _ | refine IsS57.far ?_ NB489_501.out _ | refine IsS57.far ?_ NB489_506.out _) | exact HI489.out)) hb)
      have n1_ := Aside0.mk (blk_below (g := gb499) (o := .cells #[.int .i64 t490, .int .i64 t491] 38 (0, 0)) (by (with_reducible repeat (first | refine blk_drewN ?_ _ | refine blk_drew ?_ | refine blk_alloc ?_ _)); exact BK499.out) hb)
      have n2_ := Aside0.mk (blk_below (g := gb500) (o := .cells #[.int .i64 t493, .int .i64 t494] 38 (0, 0)) (by (with_reducible repeat (first | refine blk_drewN ?_ _ | refine blk_drew ?_ | refine blk_alloc ?_ _)); exact BK500.out) hb)
      have n3_ := Aside0.mk (blk_below (g := gb501) (o := .cells #[.int .i64 t496, .int .i64 t497] 38 (0, 0)) (by (with_reducible repeat (first | refine blk_drewN ?_ _ | refine blk_drew ?_ | refine blk_alloc ?_ _)); exact BK501.out) hb)
      have n4_ := Aside0.mk (blk_below (g := gb506) (o := .cells #[.int .i64 t504, .int .i64 t505] 38 (0, 0)) (by (with_reducible repeat (first | refine blk_drewN ?_ _ | refine blk_drew ?_ | refine blk_alloc ?_ _)); exact BK506.out) hb)
      have n5_ := Aside0.mk (below_step (by repeat (first | (with_reducible first | exact HB.out | apply below_alloc | apply pw_below_drewN | apply below_drew1 | refine below_set ?_ (IsS57.ge HI489.out) | refine below_set ?_ GE499.out | refine below_set ?_ GE500.out | refine below_set ?_ GE501.out | refine below_set ?_ GE506.out) | exact HB.out)) hb)
      clear HI489
      clear BK499
      clear BK500
      clear BK501
      clear BK506
      clear HB
      have HI489 := n0_
      have BK499 := n1_
      have BK500 := n2_
      have BK501 := n3_
      have BK506 := n4_
      have HB := n5_
      clear n0_ n1_ n2_ n3_ n4_ n5_
      (try clear hb)
      (try clear hb2)
      (try clear hk)
      (try clear hi)
      refine hK.out _ _ ⟨(blk_cell BK499.out 0).trans rfl, (blk_cell BK499.out 1).trans rfl, (blk_cell BK500.out 0).trans rfl, (blk_cell BK500.out 1).trans rfl, (blk_cell BK501.out 0).trans rfl, (blk_cell BK501.out 1).trans rfl, (blk_cell BK506.out 0).trans rfl, (blk_cell BK506.out 1).trans rfl⟩ (fun hHeld => ?_)
      clear hK K
      refine norm_ (a' := ?_) ?_ ?_
      rotate_left
      ·show Act.put _ (some 37) _ = _
       simp only [Act.put, List.setIfInBounds_toArray, List.set_cons_zero, List.set_cons_succ, i64_w, i32_w]
       rfl
      refine pure_ (i := 18) (N := some 38) (v := ?_) (a' := ?_) #[true, true, true, true, true, true, true, true, true, true, true, true, true, true, true, true, true, true, true, false, false, false, false, false, false, false, false, false, false, false, false, false, false, false, false, false, false, false, false, false, false, false, false, false, false, false, false] rfl rfl (any_of HT_.out (by kernel_rfl)) (fun _ _ _ h => h) (Or.inl ⟨by rfl, ?_⟩) ?_ ?_
      rotate_left
      ·intro w'
       go_simp
       with_reducible rfl
      rotate_left
      ·simp only [Act.put, List.setIfInBounds_toArray, List.set_cons_zero, List.set_cons_succ, i64_w, i32_w]
       rfl
      refine pure_ (i := 19) (N := some 39) (v := ?_) (a' := ?_) #[true, true, true, true, true, true, true, true, true, true, true, true, true, true, true, true, true, true, true, true, false, false, false, false, false, false, false, false, false, false, false, false, false, false, false, false, false, false, false, false, false, false, false, false, false, false, false] rfl rfl (any_of HT_.out (by kernel_rfl)) (fun _ _ _ h => h) (Or.inl ⟨by rfl, ?_⟩) ?_ ?_
      rotate_left
      ·intro w'
       go_simp
       with_reducible rfl
      rotate_left
      ·simp only [Act.put, List.setIfInBounds_toArray, List.set_cons_zero, List.set_cons_succ, i64_w, i32_w]
       rfl
      refine pure_ (i := 20) (N := some 40) (v := ?_) (a' := ?_) #[true, true, true, true, true, true, true, true, true, true, true, true, true, true, true, true, true, true, true, true, true, false, false, false, false, false, false, false, false, false, false, false, false, false, false, false, false, false, false, false, false, false, false, false, false, false, false] rfl rfl (any_of HT_.out (by kernel_rfl)) (fun _ _ _ h => h) (Or.inl ⟨by rfl, ?_⟩) ?_ ?_
      rotate_left
      ·intro w'
       go_simp
       with_reducible rfl
      rotate_left
      ·simp only [Act.put, List.setIfInBounds_toArray, List.set_cons_zero, List.set_cons_succ, i64_w, i32_w]
       rfl
      refine take_ (i := 21) (N := some 41) (v := ?_) (a' := ?_) #[true, true, true, true, true, true, true, true, true, true, true, true, true, true, true, true, true, true, true, true, true, true, false, false, false, false, false, false, false, false, false, false, false, false, false, false, false, false, false, false, false, false, false, false, false, false, false] rfl rfl (take_ofW HT_.out HW_.out (by kernel_rfl)) (fun _ _ _ h => h) (Or.inl ⟨by rfl, ?_⟩) hHeld ?_ ?_
      rotate_left
      ·rintro w' ⟨s0, s1, s2, s3, s4, s5, s6, s7⟩
       go_simp
       with_reducible rfl
      rotate_left
      ·simp only [Act.put, List.setIfInBounds_toArray, List.set_cons_zero, List.set_cons_succ, i64_w, i32_w]
       rfl
      refine take_ (i := 22) (N := some 42) (v := ?_) (a' := ?_) #[true, true, true, true, true, true, true, true, true, true, true, true, true, true, true, true, true, true, true, true, true, true, true, false, false, false, false, false, false, false, false, false, false, false, false, false, false, false, false, false, false, false, false, false, false, false, false] rfl rfl (take_ofW HT_.out HW_.out (by kernel_rfl)) (fun _ _ _ h => h) (Or.inl ⟨by rfl, ?_⟩) hHeld ?_ ?_
      rotate_left
      ·rintro w' ⟨s0, s1, s2, s3, s4, s5, s6, s7⟩
       go_simp
       with_reducible rfl
      rotate_left
      ·simp only [Act.put, List.setIfInBounds_toArray, List.set_cons_zero, List.set_cons_succ, i64_w, i32_w]
       rfl
      refine take_ (i := 24) (N := some 44) (v := ?_) (a' := ?_) #[true, true, true, true, true, true, true, true, true, true, true, true, true, true, true, true, true, true, true, true, true, true, true, false, true, false, false, false, false, false, false, false, false, false, false, false, false, false, false, false, false, false, false, false, false, false, false] rfl rfl (take_ofW HT_.out HW_.out (by kernel_rfl)) (fun _ _ _ h => h) (Or.inl ⟨by rfl, ?_⟩) hHeld ?_ ?_
      rotate_left
      ·rintro w' ⟨s0, s1, s2, s3, s4, s5, s6, s7⟩
       go_simp
       with_reducible rfl
      rotate_left
      ·simp only [Act.put, List.setIfInBounds_toArray, List.set_cons_zero, List.set_cons_succ, i64_w, i32_w]
       rfl
      refine one_ (i := 23) (N := some 43) #[true, true, true, true, true, true, true, true, true, true, true, true, true, true, true, true, true, true, true, true, true, true, true, true, true, false, false, false, false, false, false, false, false, false, false, false, false, false, false, false, false, false, false, false, false, false, false] rfl rfl (one_of HT_.out (by kernel_rfl)) (by decide) (fun K hK => ?_)
      refine goes_ Try.func30 (by kernel_rfl) rfl #[.agg #[.int .i64 t490, .int .i64 t491], .agg #[.int .i64 t490, .int .i64 t491]] (by rfl) rfl rfl (by (try simp only [List.map_toArray, List.map_cons, List.map_nil]); first | done | rfl | (simp only [List.length_drop, List.length_take]; rfl)) ?_
      with_reducible refine (access_Join.calls k t490 t491 t490 t491 t519 t520 _ A16.out).mono ?_
      rintro e w58 ⟨rfl, hb⟩
      refine ⟨_, rfl, ?_⟩
      have n0_ := Aside0.mk (IsS57.below (by repeat (first | (with_reducible first | exact HI489.out | apply IsS57.alloc | apply IsS57.drewN | apply IsS57.drew | apply IsS57.set_1 | refine IsS57.far ?_ NB489_499.out _ | refine IsS57.far ?_ NB489_500.out _ | refine IsS57.far ?_ NB489_501.out _ | refine IsS57.far ?_ NB489_506.out _) | exact HI489.out)) hb)
      have n1_ := Aside0.mk (blk_below (g := gb499) (o := .cells #[.int .i64 t490, .int .i64 t491] 38 (0, 0)) (by (with_reducible repeat (first | refine blk_drewN ?_ _ | refine blk_drew ?_ | refine blk_alloc ?_ _)); exact BK499.out) hb)
      have n2_ := Aside0.mk (blk_below (g := gb500) (o := .cells #[.int .i64 t493, .int .i64 t494] 38 (0, 0)) (by (with_reducible repeat (first | refine blk_drewN ?_ _ | refine blk_drew ?_ | refine blk_alloc ?_ _)); exact BK500.out) hb)
      have n3_ := Aside0.mk (blk_below (g := gb501) (o := .cells #[.int .i64 t496, .int .i64 t497] 38 (0, 0)) (by (with_reducible repeat (first | refine blk_drewN ?_ _ | refine blk_drew ?_ | refine blk_alloc ?_ _)); exact BK501.out) hb)
      have n4_ := Aside0.mk (blk_below (g := gb506) (o := .cells #[.int .i64 t504, .int .i64 t505] 38 (0, 0)) (by (with_reducible repeat (first | refine blk_drewN ?_ _ | refine blk_drew ?_ | refine blk_alloc ?_ _)); exact BK506.out) hb)
      have n5_ := Aside0.mk (below_step (by repeat (first | (with_reducible first | exact HB.out | apply below_alloc | apply pw_below_drewN | apply below_drew1 | refine below_set ?_ (IsS57.ge HI489.out) | refine below_set ?_ GE499.out | refine below_set ?_ GE500.out | refine below_set ?_ GE501.out | refine below_set ?_ GE506.out) | exact HB.out)) hb)
      clear HI489
      clear BK499
      clear BK500
      clear BK501
      clear BK506
      clear HB
      have HI489 := n0_
      have BK499 := n1_
      have BK500 := n2_
      have BK501 := n3_
      have BK506 := n4_
      have HB := n5_
      clear n0_ n1_ n2_ n3_ n4_ n5_
      (try clear hb)
      (try clear hb2)
      (try clear hk)
      (try clear hi)
      refine hK.out _ _ ⟨(blk_cell BK499.out 0).trans rfl, (blk_cell BK499.out 1).trans rfl, (blk_cell BK500.out 0).trans rfl, (blk_cell BK500.out 1).trans rfl, (blk_cell BK501.out 0).trans rfl, (blk_cell BK501.out 1).trans rfl, (blk_cell BK506.out 0).trans rfl, (blk_cell BK506.out 1).trans rfl⟩ (fun hHeld => ?_)
      clear hK K
      refine norm_ (a' := ?_) ?_ ?_
      rotate_left
      ·show Act.put _ (some 43) _ = _
       simp only [Act.put, List.setIfInBounds_toArray, List.set_cons_zero, List.set_cons_succ, i64_w, i32_w]
       rfl
      refine pure_ (i := 25) (N := some 45) (v := ?_) (a' := ?_) #[true, true, true, true, true, true, true, true, true, true, true, true, true, true, true, true, true, true, true, true, true, true, true, true, true, true, false, false, false, false, false, false, false, false, false, false, false, false, false, false, false, false, false, false, false, false, false] rfl rfl (any_of HT_.out (by kernel_rfl)) (fun _ _ _ h => h) (Or.inl ⟨by rfl, ?_⟩) ?_ ?_
      rotate_left
      ·intro w'
       go_simp
       with_reducible rfl
      rotate_left
      ·simp only [Act.put, List.setIfInBounds_toArray, List.set_cons_zero, List.set_cons_succ, i64_w, i32_w]
       rfl
      refine pure_ (i := 26) (N := some 46) (v := ?_) (a' := ?_) #[true, true, true, true, true, true, true, true, true, true, true, true, true, true, true, true, true, true, true, true, true, true, true, true, true, true, true, false, false, false, false, false, false, false, false, false, false, false, false, false, false, false, false, false, false, false, false] rfl rfl (any_of HT_.out (by kernel_rfl)) (fun _ _ _ h => h) (Or.inl ⟨by rfl, ?_⟩) ?_ ?_
      rotate_left
      ·intro w'
       go_simp
       with_reducible rfl
      rotate_left
      ·simp only [Act.put, List.setIfInBounds_toArray, List.set_cons_zero, List.set_cons_succ, i64_w, i32_w]
       rfl
      refine pure_ (i := 27) (N := some 47) (v := ?_) (a' := ?_) #[true, true, true, true, true, true, true, true, true, true, true, true, true, true, true, true, true, true, true, true, true, true, true, true, true, true, true, true, false, false, false, false, false, false, false, false, false, false, false, false, false, false, false, false, false, false, false] rfl rfl (any_of HT_.out (by kernel_rfl)) (fun _ _ _ h => h) (Or.inl ⟨by rfl, ?_⟩) ?_ ?_
      rotate_left
      ·intro w'
       go_simp
       with_reducible rfl
      rotate_left
      ·simp only [Act.put, List.setIfInBounds_toArray, List.set_cons_zero, List.set_cons_succ, i64_w, i32_w]
       rfl
      refine take_ (i := 28) (N := some 48) (v := ?_) (a' := ?_) #[true, true, true, true, true, true, true, true, true, true, true, true, true, true, true, true, true, true, true, true, true, true, true, true, true, true, true, true, true, false, false, false, false, false, false, false, false, false, false, false, false, false, false, false, false, false, false] rfl rfl (take_ofW HT_.out HW_.out (by kernel_rfl)) (fun _ _ _ h => h) (Or.inl ⟨by rfl, ?_⟩) hHeld ?_ ?_
      rotate_left
      ·rintro w' ⟨s0, s1, s2, s3, s4, s5, s6, s7⟩
       go_simp
       with_reducible rfl
      rotate_left
      ·simp only [Act.put, List.setIfInBounds_toArray, List.set_cons_zero, List.set_cons_succ, i64_w, i32_w]
       rfl
      refine take_ (i := 30) (N := some 50) (v := ?_) (a' := ?_) #[true, true, true, true, true, true, true, true, true, true, true, true, true, true, true, true, true, true, true, true, true, true, true, true, true, true, true, true, true, false, true, false, false, false, false, false, false, false, false, false, false, false, false, false, false, false, false] rfl rfl (take_ofW HT_.out HW_.out (by kernel_rfl)) (fun _ _ _ h => h) (Or.inl ⟨by rfl, ?_⟩) hHeld ?_ ?_
      rotate_left
      ·rintro w' ⟨s0, s1, s2, s3, s4, s5, s6, s7⟩
       go_simp
       with_reducible rfl
      rotate_left
      ·simp only [Act.put, List.setIfInBounds_toArray, List.set_cons_zero, List.set_cons_succ, i64_w, i32_w]
       rfl
      refine one_ (i := 29) (N := some 49) #[true, true, true, true, true, true, true, true, true, true, true, true, true, true, true, true, true, true, true, true, true, true, true, true, true, true, true, true, true, true, true, false, false, false, false, false, false, false, false, false, false, false, false, false, false, false, false] rfl rfl (one_of HT_.out (by kernel_rfl)) (by decide) (fun K hK => ?_)
      refine goes_ Try.func32 (by kernel_rfl) rfl #[.agg #[.int .i64 t504, .int .i64 t505]] (by rfl) rfl rfl (by (try simp only [List.map_toArray, List.map_cons, List.map_nil]); first | done | rfl | (simp only [List.length_drop, List.length_take]; rfl)) ?_
      with_reducible refine (access_Imply.calls t504 t505 t521 t522 _ A18.out).mono ?_
      rintro e w59 ⟨rfl, hb⟩
      refine ⟨_, rfl, ?_⟩
      have n0_ := Aside0.mk (IsS57.below (by repeat (first | (with_reducible first | exact HI489.out | apply IsS57.alloc | apply IsS57.drewN | apply IsS57.drew | apply IsS57.set_1 | refine IsS57.far ?_ NB489_499.out _ | refine IsS57.far ?_ NB489_500.out _ | refine IsS57.far ?_ NB489_501.out _ | refine IsS57.far ?_ NB489_506.out _) | exact HI489.out)) hb)
      have n1_ := Aside0.mk (blk_below (g := gb499) (o := .cells #[.int .i64 t490, .int .i64 t491] 38 (0, 0)) (by (with_reducible repeat (first | refine blk_drewN ?_ _ | refine blk_drew ?_ | refine blk_alloc ?_ _)); exact BK499.out) hb)
      have n2_ := Aside0.mk (blk_below (g := gb500) (o := .cells #[.int .i64 t493, .int .i64 t494] 38 (0, 0)) (by (with_reducible repeat (first | refine blk_drewN ?_ _ | refine blk_drew ?_ | refine blk_alloc ?_ _)); exact BK500.out) hb)
      have n3_ := Aside0.mk (blk_below (g := gb501) (o := .cells #[.int .i64 t496, .int .i64 t497] 38 (0, 0)) (by (with_reducible repeat (first | refine blk_drewN ?_ _ | refine blk_drew ?_ | refine blk_alloc ?_ _)); exact BK501.out) hb)
      have n4_ := Aside0.mk (blk_below (g := gb506) (o := .cells #[.int .i64 t504, .int .i64 t505] 38 (0, 0)) (by (with_reducible repeat (first | refine blk_drewN ?_ _ | refine blk_drew ?_ | refine blk_alloc ?_ _)); exact BK506.out) hb)
      have n5_ := Aside0.mk (below_step (by repeat (first | (with_reducible first | exact HB.out | apply below_alloc | apply pw_below_drewN | apply below_drew1 | refine below_set ?_ (IsS57.ge HI489.out) | refine below_set ?_ GE499.out | refine below_set ?_ GE500.out | refine below_set ?_ GE501.out | refine below_set ?_ GE506.out) | exact HB.out)) hb)
      clear HI489
      clear BK499
      clear BK500
      clear BK501
      clear BK506
      clear HB
      have HI489 := n0_
      have BK499 := n1_
      have BK500 := n2_
      have BK501 := n3_
      have BK506 := n4_
      have HB := n5_
      clear n0_ n1_ n2_ n3_ n4_ n5_
      (try clear hb)
      (try clear hb2)
      (try clear hk)
      (try clear hi)
      refine hK.out _ _ ⟨(blk_cell BK499.out 0).trans rfl, (blk_cell BK499.out 1).trans rfl, (blk_cell BK500.out 0).trans rfl, (blk_cell BK500.out 1).trans rfl, (blk_cell BK501.out 0).trans rfl, (blk_cell BK501.out 1).trans rfl, (blk_cell BK506.out 0).trans rfl, (blk_cell BK506.out 1).trans rfl⟩ (fun hHeld => ?_)
      clear hK K
      refine norm_ (a' := ?_) ?_ ?_
      rotate_left
      ·show Act.put _ (some 49) _ = _
       simp only [Act.put, List.setIfInBounds_toArray, List.set_cons_zero, List.set_cons_succ, i64_w, i32_w]
       rfl
      refine pure_ (i := 31) (N := some 51) (v := ?_) (a' := ?_) #[true, true, true, true, true, true, true, true, true, true, true, true, true, true, true, true, true, true, true, true, true, true, true, true, true, true, true, true, true, true, true, true, false, false, false, false, false, false, false, false, false, false, false, false, false, false, false] rfl rfl (any_of HT_.out (by kernel_rfl)) (fun _ _ _ h => h) (Or.inl ⟨by rfl, ?_⟩) ?_ ?_
      rotate_left
      ·intro w'
       go_simp
       with_reducible rfl
      rotate_left
      ·simp only [Act.put, List.setIfInBounds_toArray, List.set_cons_zero, List.set_cons_succ, i64_w, i32_w]
       rfl
      refine pure_ (i := 32) (N := some 52) (v := ?_) (a' := ?_) #[true, true, true, true, true, true, true, true, true, true, true, true, true, true, true, true, true, true, true, true, true, true, true, true, true, true, true, true, true, true, true, true, true, false, false, false, false, false, false, false, false, false, false, false, false, false, false] rfl rfl (any_of HT_.out (by kernel_rfl)) (fun _ _ _ h => h) (Or.inl ⟨by rfl, ?_⟩) ?_ ?_
      rotate_left
      ·intro w'
       go_simp
       with_reducible rfl
      rotate_left
      ·simp only [Act.put, List.setIfInBounds_toArray, List.set_cons_zero, List.set_cons_succ, i64_w, i32_w]
       rfl
      refine pure_ (i := 33) (N := some 53) (v := ?_) (a' := ?_) #[true, true, true, true, true, true, true, true, true, true, true, true, true, true, true, true, true, true, true, true, true, true, true, true, true, true, true, true, true, true, true, true, true, true, false, false, false, false, false, false, false, false, false, false, false, false, false] rfl rfl (any_of HT_.out (by kernel_rfl)) (fun _ _ _ h => h) (Or.inl ⟨by rfl, ?_⟩) ?_ ?_
      rotate_left
      ·intro w'
       go_simp
       with_reducible rfl
      rotate_left
      ·simp only [Act.put, List.setIfInBounds_toArray, List.set_cons_zero, List.set_cons_succ, i64_w, i32_w]
       rfl
      refine take_ (i := 34) (N := some 54) (v := ?_) (a' := ?_) #[true, true, true, true, true, true, true, true, true, true, true, true, true, true, true, true, true, true, true, true, true, true, true, true, true, true, true, true, true, true, true, true, true, true, true, false, false, false, false, false, false, false, false, false, false, false, false] rfl rfl (take_ofW HT_.out HW_.out (by kernel_rfl)) (fun _ _ _ h => h) (Or.inl ⟨by rfl, ?_⟩) hHeld ?_ ?_
      rotate_left
      ·rintro w' ⟨s0, s1, s2, s3, s4, s5, s6, s7⟩
       go_simp
       with_reducible rfl
      rotate_left
      ·simp only [Act.put, List.setIfInBounds_toArray, List.set_cons_zero, List.set_cons_succ, i64_w, i32_w]
       rfl
      refine take_ (i := 36) (N := some 56) (v := ?_) (a' := ?_) #[true, true, true, true, true, true, true, true, true, true, true, true, true, true, true, true, true, true, true, true, true, true, true, true, true, true, true, true, true, true, true, true, true, true, true, false, true, false, false, false, false, false, false, false, false, false, false] rfl rfl (take_ofW HT_.out HW_.out (by kernel_rfl)) (fun _ _ _ h => h) (Or.inl ⟨by rfl, ?_⟩) hHeld ?_ ?_
      rotate_left
      ·rintro w' ⟨s0, s1, s2, s3, s4, s5, s6, s7⟩
       go_simp
       with_reducible rfl
      rotate_left
      ·simp only [Act.put, List.setIfInBounds_toArray, List.set_cons_zero, List.set_cons_succ, i64_w, i32_w]
       rfl
      refine take_ (i := 40) (N := some 60) (v := ?_) (a' := ?_) #[true, true, true, true, true, true, true, true, true, true, true, true, true, true, true, true, true, true, true, true, true, true, true, true, true, true, true, true, true, true, true, true, true, true, true, false, true, false, false, false, true, false, false, false, false, false, false] rfl rfl (take_ofW HT_.out HW_.out (by kernel_rfl)) (fun _ _ _ h => h) (Or.inl ⟨by rfl, ?_⟩) hHeld ?_ ?_
      rotate_left
      ·rintro w' ⟨s0, s1, s2, s3, s4, s5, s6, s7⟩
       go_simp
       with_reducible rfl
      rotate_left
      ·simp only [Act.put, List.setIfInBounds_toArray, List.set_cons_zero, List.set_cons_succ, i64_w, i32_w]
       rfl
      refine one_ (i := 35) (N := some 55) #[true, true, true, true, true, true, true, true, true, true, true, true, true, true, true, true, true, true, true, true, true, true, true, true, true, true, true, true, true, true, true, true, true, true, true, true, true, false, false, false, true, false, false, false, false, false, false] rfl rfl (one_of HT_.out (by kernel_rfl)) (by decide) (fun K hK => ?_)
      refine goes_ Try.func32 (by kernel_rfl) rfl #[.agg #[.int .i64 t490, .int .i64 t491]] (by rfl) rfl rfl (by (try simp only [List.map_toArray, List.map_cons, List.map_nil]); first | done | rfl | (simp only [List.length_drop, List.length_take]; rfl)) ?_
      with_reducible refine (access_Imply.calls t490 t491 t523 t524 _ A20.out).mono ?_
      rintro e w60 ⟨rfl, hb⟩
      refine ⟨_, rfl, ?_⟩
      have n0_ := Aside0.mk (IsS57.below (by repeat (first | (with_reducible first | exact HI489.out | apply IsS57.alloc | apply IsS57.drewN | apply IsS57.drew | apply IsS57.set_1 | refine IsS57.far ?_ NB489_499.out _ | refine IsS57.far ?_ NB489_500.out _ | refine IsS57.far ?_ NB489_501.out _ | refine IsS57.far ?_ NB489_506.out _) | exact HI489.out)) hb)
      have n1_ := Aside0.mk (blk_below (g := gb499) (o := .cells #[.int .i64 t490, .int .i64 t491] 38 (0, 0)) (by (with_reducible repeat (first | refine blk_drewN ?_ _ | refine blk_drew ?_ | refine blk_alloc ?_ _)); exact BK499.out) hb)
      have n2_ := Aside0.mk (blk_below (g := gb500) (o := .cells #[.int .i64 t493, .int .i64 t494] 38 (0, 0)) (by (with_reducible repeat (first | refine blk_drewN ?_ _ | refine blk_drew ?_ | refine blk_alloc ?_ _)); exact BK500.out) hb)
      have n3_ := Aside0.mk (blk_below (g := gb501) (o := .cells #[.int .i64 t496, .int .i64 t497] 38 (0, 0)) (by (with_reducible repeat (first | refine blk_drewN ?_ _ | refine blk_drew ?_ | refine blk_alloc ?_ _)); exact BK501.out) hb)
      have n4_ := Aside0.mk (blk_below (g := gb506) (o := .cells #[.int .i64 t504, .int .i64 t505] 38 (0, 0)) (by (with_reducible repeat (first | refine blk_drewN ?_ _ | refine blk_drew ?_ | refine blk_alloc ?_ _)); exact BK506.out) hb)
      have n5_ := Aside0.mk (below_step (by repeat (first | (with_reducible first | exact HB.out | apply below_alloc | apply pw_below_drewN | apply below_drew1 | refine below_set ?_ (IsS57.ge HI489.out) | refine below_set ?_ GE499.out | refine below_set ?_ GE500.out | refine below_set ?_ GE501.out | refine below_set ?_ GE506.out) | exact HB.out)) hb)
      clear HI489
      clear BK499
      clear BK500
      clear BK501
      clear BK506
      clear HB
      have HI489 := n0_
      have BK499 := n1_
      have BK500 := n2_
      have BK501 := n3_
      have BK506 := n4_
      have HB := n5_
      clear n0_ n1_ n2_ n3_ n4_ n5_
      (try clear hb)
      (try clear hb2)
      (try clear hk)
      (try clear hi)
      refine hK.out _ _ ⟨(blk_cell BK499.out 0).trans rfl, (blk_cell BK499.out 1).trans rfl, (blk_cell BK500.out 0).trans rfl, (blk_cell BK500.out 1).trans rfl, (blk_cell BK501.out 0).trans rfl, (blk_cell BK501.out 1).trans rfl, (blk_cell BK506.out 0).trans rfl, (blk_cell BK506.out 1).trans rfl⟩ (fun hHeld => ?_)
      clear hK K
      refine norm_ (a' := ?_) ?_ ?_
      rotate_left
      ·show Act.put _ (some 55) _ = _
       simp only [Act.put, List.setIfInBounds_toArray, List.set_cons_zero, List.set_cons_succ, i64_w, i32_w]
       rfl
      refine one_ (i := 37) (N := some 57) #[true, true, true, true, true, true, true, true, true, true, true, true, true, true, true, true, true, true, true, true, true, true, true, true, true, true, true, true, true, true, true, true, true, true, true, true, true, true, false, false, true, false, false, false, false, false, false] rfl rfl (one_of HT_.out (by kernel_rfl)) (by decide) (fun K hK => ?_)
      refine goes_ Try.func32 (by kernel_rfl) rfl #[.agg #[.int .i64 t493, .int .i64 t494]] (by rfl) rfl rfl (by (try simp only [List.map_toArray, List.map_cons, List.map_nil]); first | done | rfl | (simp only [List.length_drop, List.length_take]; rfl)) ?_
      with_reducible refine (access_Imply.calls t493 t494 t525 t526 _ A21.out).mono ?_
      rintro e w61 ⟨rfl, hb⟩
      refine ⟨_, rfl, ?_⟩
      have n0_ := Aside0.mk (IsS57.below (by repeat (first | (with_reducible first | exact HI489.out | apply IsS57.alloc | apply IsS57.drewN | apply IsS57.drew | apply IsS57.set_1 | refine IsS57.far ?_ NB489_499.out _ | refine IsS57.far ?_ NB489_500.out _ | refine IsS57.far ?_ NB489_501.out _ | refine IsS57.far ?_ NB489_506.out _) | exact HI489.out)) hb)
      have n1_ := Aside0.mk (blk_below (g := gb499) (o := .cells #[.int .i64 t490, .int .i64 t491] 38 (0, 0)) (by (with_reducible repeat (first | refine blk_drewN ?_ _ | refine blk_drew ?_ | refine blk_alloc ?_ _)); exact BK499.out) hb)
      have n2_ := Aside0.mk (blk_below (g := gb500) (o := .cells #[.int .i64 t493, .int .i64 t494] 38 (0, 0)) (by (with_reducible repeat (first | refine blk_drewN ?_ _ | refine blk_drew ?_ | refine blk_alloc ?_ _)); exact BK500.out) hb)
      have n3_ := Aside0.mk (blk_below (g := gb501) (o := .cells #[.int .i64 t496, .int .i64 t497] 38 (0, 0)) (by (with_reducible repeat (first | refine blk_drewN ?_ _ | refine blk_drew ?_ | refine blk_alloc ?_ _)); exact BK501.out) hb)
      have n4_ := Aside0.mk (blk_below (g := gb506) (o := .cells #[.int .i64 t504, .int .i64 t505] 38 (0, 0)) (by (with_reducible repeat (first | refine blk_drewN ?_ _ | refine blk_drew ?_ | refine blk_alloc ?_ _)); exact BK506.out) hb)
      have n5_ := Aside0.mk (below_step (by repeat (first | (with_reducible first | exact HB.out | apply below_alloc | apply pw_below_drewN | apply below_drew1 | refine below_set ?_ (IsS57.ge HI489.out) | refine below_set ?_ GE499.out | refine below_set ?_ GE500.out | refine below_set ?_ GE501.out | refine below_set ?_ GE506.out) | exact HB.out)) hb)
      clear HI489
      clear BK499
      clear BK500
      clear BK501
      clear BK506
      clear HB
      have HI489 := n0_
      have BK499 := n1_
      have BK500 := n2_
      have BK501 := n3_
      have BK506 := n4_
      have HB := n5_
      clear n0_ n1_ n2_ n3_ n4_ n5_
      (try clear hb)
      (try clear hb2)
      (try clear hk)
      (try clear hi)
      refine hK.out _ _ ⟨(blk_cell BK499.out 0).trans rfl, (blk_cell BK499.out 1).trans rfl, (blk_cell BK500.out 0).trans rfl, (blk_cell BK500.out 1).trans rfl, (blk_cell BK501.out 0).trans rfl, (blk_cell BK501.out 1).trans rfl, (blk_cell BK506.out 0).trans rfl, (blk_cell BK506.out 1).trans rfl⟩ (fun hHeld => ?_)
      clear hK K
      refine norm_ (a' := ?_) ?_ ?_
      rotate_left
      ·show Act.put _ (some 57) _ = _
       simp only [Act.put, List.setIfInBounds_toArray, List.set_cons_zero, List.set_cons_succ, i64_w, i32_w]
       rfl
      refine one_ (i := 38) (N := some 58) #[true, true, true, true, true, true, true, true, true, true, true, true, true, true, true, true, true, true, true, true, true, true, true, true, true, true, true, true, true, true, true, true, true, true, true, true, true, true, true, false, true, false, false, false, false, false, false] rfl rfl (one_of HT_.out (by kernel_rfl)) (by decide) (fun K hK => ?_)
      refine goes_ Try.func30 (by kernel_rfl) rfl #[.agg #[.int .i64 t523, .int .i64 t524], .agg #[.int .i64 t525, .int .i64 t526]] (by rfl) rfl rfl (by (try simp only [List.map_toArray, List.map_cons, List.map_nil]); first | done | rfl | (simp only [List.length_drop, List.length_take]; rfl)) ?_
      with_reducible refine (access_Join.calls k t523 t524 t525 t526 t527 t528 _ A22.out).mono ?_
      rintro e w62 ⟨rfl, hb⟩
      refine ⟨_, rfl, ?_⟩
      have n0_ := Aside0.mk (IsS57.below (by repeat (first | (with_reducible first | exact HI489.out | apply IsS57.alloc | apply IsS57.drewN | apply IsS57.drew | apply IsS57.set_1 | refine IsS57.far ?_ NB489_499.out _ | refine IsS57.far ?_ NB489_500.out _ | refine IsS57.far ?_ NB489_501.out _ | refine IsS57.far ?_ NB489_506.out _) | exact HI489.out)) hb)
      have n1_ := Aside0.mk (blk_below (g := gb499) (o := .cells #[.int .i64 t490, .int .i64 t491] 38 (0, 0)) (by (with_reducible repeat (first | refine blk_drewN ?_ _ | refine blk_drew ?_ | refine blk_alloc ?_ _)); exact BK499.out) hb)
      have n2_ := Aside0.mk (blk_below (g := gb500) (o := .cells #[.int .i64 t493, .int .i64 t494] 38 (0, 0)) (by (with_reducible repeat (first | refine blk_drewN ?_ _ | refine blk_drew ?_ | refine blk_alloc ?_ _)); exact BK500.out) hb)
      have n3_ := Aside0.mk (blk_below (g := gb501) (o := .cells #[.int .i64 t496, .int .i64 t497] 38 (0, 0)) (by (with_reducible repeat (first | refine blk_drewN ?_ _ | refine blk_drew ?_ | refine blk_alloc ?_ _)); exact BK501.out) hb)
      have n4_ := Aside0.mk (blk_below (g := gb506) (o := .cells #[.int .i64 t504, .int .i64 t505] 38 (0, 0)) (by (with_reducible repeat (first | refine blk_drewN ?_ _ | refine blk_drew ?_ | refine blk_alloc ?_ _)); exact BK506.out) hb)
      have n5_ := Aside0.mk (below_step (by repeat (first | (with_reducible first | exact HB.out | apply below_alloc | apply pw_below_drewN | apply below_drew1 | refine below_set ?_ (IsS57.ge HI489.out) | refine below_set ?_ GE499.out | refine below_set ?_ GE500.out | refine below_set ?_ GE501.out | refine below_set ?_ GE506.out) | exact HB.out)) hb)
      clear HI489
      clear BK499
      clear BK500
      clear BK501
      clear BK506
      clear HB
      have HI489 := n0_
      have BK499 := n1_
      have BK500 := n2_
      have BK501 := n3_
      have BK506 := n4_
      have HB := n5_
      clear n0_ n1_ n2_ n3_ n4_ n5_
      (try clear hb)
      (try clear hb2)
      (try clear hk)
      (try clear hi)
      refine hK.out _ _ ⟨(blk_cell BK499.out 0).trans rfl, (blk_cell BK499.out 1).trans rfl, (blk_cell BK500.out 0).trans rfl, (blk_cell BK500.out 1).trans rfl, (blk_cell BK501.out 0).trans rfl, (blk_cell BK501.out 1).trans rfl, (blk_cell BK506.out 0).trans rfl, (blk_cell BK506.out 1).trans rfl⟩ (fun hHeld => ?_)
      clear hK K
      refine norm_ (a' := ?_) ?_ ?_
      rotate_left
      ·show Act.put _ (some 58) _ = _
       simp only [Act.put, List.setIfInBounds_toArray, List.set_cons_zero, List.set_cons_succ, i64_w, i32_w]
       rfl
      refine one_ (i := 39) (N := some 59) #[true, true, true, true, true, true, true, true, true, true, true, true, true, true, true, true, true, true, true, true, true, true, true, true, true, true, true, true, true, true, true, true, true, true, true, true, true, true, true, true, true, false, false, false, false, false, false] rfl rfl (one_of HT_.out (by kernel_rfl)) (by decide) (fun K hK => ?_)
      refine goes_ Try.func32 (by kernel_rfl) rfl #[.agg #[.int .i64 t527, .int .i64 t528]] (by rfl) rfl rfl (by (try simp only [List.map_toArray, List.map_cons, List.map_nil]); first | done | rfl | (simp only [List.length_drop, List.length_take]; rfl)) ?_
      with_reducible refine (access_Imply.calls t527 t528 t529 t530 _ A23.out).mono ?_
      rintro e w63 ⟨rfl, hb⟩
      refine ⟨_, rfl, ?_⟩
      have n0_ := Aside0.mk (IsS57.below (by repeat (first | (with_reducible first | exact HI489.out | apply IsS57.alloc | apply IsS57.drewN | apply IsS57.drew | apply IsS57.set_1 | refine IsS57.far ?_ NB489_499.out _ | refine IsS57.far ?_ NB489_500.out _ | refine IsS57.far ?_ NB489_501.out _ | refine IsS57.far ?_ NB489_506.out _) | exact HI489.out)) hb)
      have n1_ := Aside0.mk (blk_below (g := gb499) (o := .cells #[.int .i64 t490, .int .i64 t491] 38 (0, 0)) (by (with_reducible repeat (first | refine blk_drewN ?_ _ | refine blk_drew ?_ | refine blk_alloc ?_ _)); exact BK499.out) hb)
      have n2_ := Aside0.mk (blk_below (g := gb500) (o := .cells #[.int .i64 t493, .int .i64 t494] 38 (0, 0)) (by (with_reducible repeat (first | refine blk_drewN ?_ _ | refine blk_drew ?_ | refine blk_alloc ?_ _)); exact BK500.out) hb)
      have n3_ := Aside0.mk (blk_below (g := gb501) (o := .cells #[.int .i64 t496, .int .i64 t497] 38 (0, 0)) (by (with_reducible repeat (first | refine blk_drewN ?_ _ | refine blk_drew ?_ | refine blk_alloc ?_ _)); exact BK501.out) hb)
      have n4_ := Aside0.mk (blk_below (g := gb506) (o := .cells #[.int .i64 t504, .int .i64 t505] 38 (0, 0)) (by (with_reducible repeat (first | refine blk_drewN ?_ _ | refine blk_drew ?_ | refine blk_alloc ?_ _)); exact BK506.out) hb)
      have n5_ := Aside0.mk (below_step (by repeat (first | (with_reducible first | exact HB.out | apply below_alloc | apply pw_below_drewN | apply below_drew1 | refine below_set ?_ (IsS57.ge HI489.out) | refine below_set ?_ GE499.out | refine below_set ?_ GE500.out | refine below_set ?_ GE501.out | refine below_set ?_ GE506.out) | exact HB.out)) hb)
      clear HI489
      clear BK499
      clear BK500
      clear BK501
      clear BK506
      clear HB
      have HI489 := n0_
      have BK499 := n1_
      have BK500 := n2_
      have BK501 := n3_
      have BK506 := n4_
      have HB := n5_
      clear n0_ n1_ n2_ n3_ n4_ n5_
      (try clear hb)
      (try clear hb2)
      (try clear hk)
      (try clear hi)
      refine hK.out _ _ ⟨(blk_cell BK499.out 0).trans rfl, (blk_cell BK499.out 1).trans rfl, (blk_cell BK500.out 0).trans rfl, (blk_cell BK500.out 1).trans rfl, (blk_cell BK501.out 0).trans rfl, (blk_cell BK501.out 1).trans rfl, (blk_cell BK506.out 0).trans rfl, (blk_cell BK506.out 1).trans rfl⟩ (fun hHeld => ?_)
      clear hK K
      refine norm_ (a' := ?_) ?_ ?_
      rotate_left
      ·show Act.put _ (some 59) _ = _
       simp only [Act.put, List.setIfInBounds_toArray, List.set_cons_zero, List.set_cons_succ, i64_w, i32_w]
       rfl
      refine pure_ (i := 41) (N := some 61) (v := ?_) (a' := ?_) #[true, true, true, true, true, true, true, true, true, true, true, true, true, true, true, true, true, true, true, true, true, true, true, true, true, true, true, true, true, true, true, true, true, true, true, true, true, true, true, true, true, true, false, false, false, false, false] rfl rfl (any_of HT_.out (by kernel_rfl)) (fun _ _ _ h => h) (Or.inl ⟨by rfl, ?_⟩) ?_ ?_
      rotate_left
      ·intro w'
       go_simp
       with_reducible rfl
      rotate_left
      ·simp only [Act.put, List.setIfInBounds_toArray, List.set_cons_zero, List.set_cons_succ, i64_w, i32_w]
       rfl
      refine pure_ (i := 42) (N := some 62) (v := ?_) (a' := ?_) #[true, true, true, true, true, true, true, true, true, true, true, true, true, true, true, true, true, true, true, true, true, true, true, true, true, true, true, true, true, true, true, true, true, true, true, true, true, true, true, true, true, true, true, false, false, false, false] rfl rfl (any_of HT_.out (by kernel_rfl)) (fun _ _ _ h => h) (Or.inl ⟨by rfl, ?_⟩) ?_ ?_
      rotate_left
      ·intro w'
       go_simp
       with_reducible rfl
      rotate_left
      ·simp only [Act.put, List.setIfInBounds_toArray, List.set_cons_zero, List.set_cons_succ, i64_w, i32_w]
       rfl
      refine pure_ (i := 43) (N := some 63) (v := ?_) (a' := ?_) #[true, true, true, true, true, true, true, true, true, true, true, true, true, true, true, true, true, true, true, true, true, true, true, true, true, true, true, true, true, true, true, true, true, true, true, true, true, true, true, true, true, true, true, true, false, false, false] rfl rfl (any_of HT_.out (by kernel_rfl)) (fun _ _ _ h => h) (Or.inl ⟨by rfl, ?_⟩) ?_ ?_
      rotate_left
      ·intro w'
       go_simp
       with_reducible rfl
      rotate_left
      ·simp only [Act.put, List.setIfInBounds_toArray, List.set_cons_zero, List.set_cons_succ, i64_w, i32_w]
       rfl
      refine one_ (i := 44) (N := some 64) #[true, true, true, true, true, true, true, true, true, true, true, true, true, true, true, true, true, true, true, true, true, true, true, true, true, true, true, true, true, true, true, true, true, true, true, true, true, true, true, true, true, true, true, true, true, false, false] rfl rfl (one_of HT_.out (by kernel_rfl)) (by decide) (fun K hK => ?_)
      refine goes_ Try.func16 (by kernel_rfl) rfl #[] (by rfl) rfl rfl (by (try simp only [List.map_toArray, List.map_cons, List.map_nil]); first | done | rfl | (simp only [List.length_drop, List.length_take]; rfl)) ?_
      with_reducible refine (awardingbodylaw14_awake.calls k  t531 _ A25.out).mono ?_
      rintro e w64 ⟨rfl, hb⟩
      refine ⟨_, rfl, ?_⟩
      have n0_ := Aside0.mk (IsS57.below (by repeat (first | (with_reducible first | exact HI489.out | apply IsS57.alloc | apply IsS57.drewN | apply IsS57.drew | apply IsS57.set_1 | refine IsS57.far ?_ NB489_499.out _ | refine IsS57.far ?_ NB489_500.out _ | refine IsS57.far ?_ NB489_501.out _ | refine IsS57.far ?_ NB489_506.out _) | exact HI489.out)) hb)
      have n1_ := Aside0.mk (blk_below (g := gb499) (o := .cells #[.int .i64 t490, .int .i64 t491] 38 (0, 0)) (by (with_reducible repeat (first | refine blk_drewN ?_ _ | refine blk_drew ?_ | refine blk_alloc ?_ _)); exact BK499.out) hb)
      have n2_ := Aside0.mk (blk_below (g := gb500) (o := .cells #[.int .i64 t493, .int .i64 t494] 38 (0, 0)) (by (with_reducible repeat (first | refine blk_drewN ?_ _ | refine blk_drew ?_ | refine blk_alloc ?_ _)); exact BK500.out) hb)
      have n3_ := Aside0.mk (blk_below (g := gb501) (o := .cells #[.int .i64 t496, .int .i64 t497] 38 (0, 0)) (by (with_reducible repeat (first | refine blk_drewN ?_ _ | refine blk_drew ?_ | refine blk_alloc ?_ _)); exact BK501.out) hb)
      have n4_ := Aside0.mk (blk_below (g := gb506) (o := .cells #[.int .i64 t504, .int .i64 t505] 38 (0, 0)) (by (with_reducible repeat (first | refine blk_drewN ?_ _ | refine blk_drew ?_ | refine blk_alloc ?_ _)); exact BK506.out) hb)
      have n5_ := Aside0.mk (below_step (by repeat (first | (with_reducible first | exact HB.out | apply below_alloc | apply pw_below_drewN | apply below_drew1 | refine below_set ?_ (IsS57.ge HI489.out) | refine below_set ?_ GE499.out | refine below_set ?_ GE500.out | refine below_set ?_ GE501.out | refine below_set ?_ GE506.out) | exact HB.out)) hb)
      clear HI489
      clear BK499
      clear BK500
      clear BK501
      clear BK506
      clear HB
      have HI489 := n0_
      have BK499 := n1_
      have BK500 := n2_
      have BK501 := n3_
      have BK506 := n4_
      have HB := n5_
      clear n0_ n1_ n2_ n3_ n4_ n5_
      (try clear hb)
      (try clear hb2)
      (try clear hk)
      (try clear hi)
      refine hK.out _ _ ⟨(blk_cell BK499.out 0).trans rfl, (blk_cell BK499.out 1).trans rfl, (blk_cell BK500.out 0).trans rfl, (blk_cell BK500.out 1).trans rfl, (blk_cell BK501.out 0).trans rfl, (blk_cell BK501.out 1).trans rfl, (blk_cell BK506.out 0).trans rfl, (blk_cell BK506.out 1).trans rfl⟩ (fun hHeld => ?_)
      clear hK K
      refine norm_ (a' := ?_) ?_ ?_
      rotate_left
      ·show Act.put _ (some 64) _ = _
       simp only [Act.put, List.setIfInBounds_toArray, List.set_cons_zero, List.set_cons_succ, i64_w, i32_w]
       rfl
      refine pure_ (i := 45) (N := some 65) (v := ?_) (a' := ?_) #[true, true, true, true, true, true, true, true, true, true, true, true, true, true, true, true, true, true, true, true, true, true, true, true, true, true, true, true, true, true, true, true, true, true, true, true, true, true, true, true, true, true, true, true, true, true, false] rfl rfl (any_of HT_.out (by kernel_rfl)) (fun _ _ _ h => h) (Or.inl ⟨by rfl, ?_⟩) ?_ ?_
      rotate_left
      ·intro w'
       go_simp
       with_reducible rfl
      rotate_left
      ·simp only [Act.put, List.setIfInBounds_toArray, List.set_cons_zero, List.set_cons_succ, i64_w, i32_w]
       rfl
      refine pure_ (i := 46) (N := some 2) (v := ?_) (a' := ?_) #[true, true, true, true, true, true, true, true, true, true, true, true, true, true, true, true, true, true, true, true, true, true, true, true, true, true, true, true, true, true, true, true, true, true, true, true, true, true, true, true, true, true, true, true, true, true, true] rfl rfl (any_of HT_.out (by kernel_rfl)) (fun _ _ _ h => h) (Or.inl ⟨by rfl, ?_⟩) ?_ ?_
      rotate_left
      ·intro w'
       go_simp
       with_reducible rfl
      rotate_left
      ·simp only [Act.put, List.setIfInBounds_toArray, List.set_cons_zero, List.set_cons_succ, i64_w, i32_w]
       rfl
      refine done_ (done_of HT_.out (by kernel_rfl)) ?_
      try go_wp2
      go_ret
      exact ⟨by first | rfl | (simp [errW_none, errW_some] <;> rfl) | (simp [*, errW_none, errW_some] <;> rfl), by repeat (first | (with_reducible first | exact HB.out | apply below_alloc | apply pw_below_drewN | apply below_drew1 | refine below_set ?_ (IsS57.ge HI489.out) | refine below_set ?_ GE499.out | refine below_set ?_ GE500.out | refine below_set ?_ GE501.out | refine below_set ?_ GE506.out) | exact HB.out)⟩
     ·rw [if_neg c24] at H
      have c24b0 : (t529 == t504 && (t530 == t505)) = false := by simpa using c24
      (try (have c24b1 : decide (t529 = t504 && (t530 == t505)) = false := by simpa using c24))
      (try (have c24b2 : (t529 == t504 && (t530 == t505)) = false := by simpa using c24))
      (try (have c24b3 : ¬ (t529 = t504 && (t530 == t505)) := by simpa using c24))
      clear c24
      exact absurd H (by simp)
    ·rw [if_neg c19] at H
     have c19b0 : (t521 == t504 && (t522 == t505)) = false := by simpa using c19
     (try (have c19b1 : decide (t521 = t504 && (t522 == t505)) = false := by simpa using c19))
     (try (have c19b2 : (t521 == t504 && (t522 == t505)) = false := by simpa using c19))
     (try (have c19b3 : ¬ (t521 = t504 && (t522 == t505)) := by simpa using c19))
     clear c19
     exact absurd H (by simp)
   ·rw [if_neg c17] at H
    have c17b0 : (t519 == t490 && (t520 == t491)) = false := by simpa using c17
    (try (have c17b1 : decide (t519 = t490 && (t520 == t491)) = false := by simpa using c17))
    (try (have c17b2 : (t519 == t490 && (t520 == t491)) = false := by simpa using c17))
    (try (have c17b3 : ¬ (t519 = t490 && (t520 == t491)) := by simpa using c17))
    clear c17
    exact absurd H (by simp)
  ·rw [if_neg c15] at H
   have c15b0 : (t513 == t517 && (t514 == t518)) = false := by simpa using c15
   (try (have c15b1 : decide (t513 = t517 && (t514 == t518)) = false := by simpa using c15))
   (try (have c15b2 : (t513 == t517 && (t514 == t518)) = false := by simpa using c15))
   (try (have c15b3 : ¬ (t513 = t517 && (t514 == t518)) := by simpa using c15))
   clear c15
   exact absurd H (by simp)
 ·rw [if_neg c10] at H
  have c10b0 : (t507 == t509 && (t508 == t510)) = false := by simpa using c10
  (try (have c10b1 : decide (t507 = t509 && (t508 == t510)) = false := by simpa using c10))
  (try (have c10b2 : (t507 == t509 && (t508 == t510)) = false := by simpa using c10))
  (try (have c10b3 : ¬ (t507 = t509 && (t508 == t510)) := by simpa using c10))
  clear c10
  exact absurd H (by simp)

/-- THE ONE PURE STATEMENT of awardingbodylaw14_AccessAlgebra: yours. -/
def awardingbodylaw14_AccessAlgebra.Pure : Prop := ∀ (l0 : List Int), l0.length ≤ maxLen → l0.length * 8 ≤ 140737488351232 → (∀ x ∈ l0, (Lit.int .i64 x).wf = true) → ∃ k, awardingbodylaw14_AccessAlgebra.f k l0 = some true
theorem awardingbodylaw14_AccessAlgebra.walk (P : awardingbodylaw14_AccessAlgebra.Pure) (a0 : Option Addr) (len0 cap0 : Nat) (z0 : List Int) (w : World) (w0 : (a0 = none ∧ len0 = 0 ∧ cap0 = 0 ∧ z0 = []) ∨ ∃ x, a0 = some x ∧ len0 ≤ cap0 ∧ cap0 ≤ maxLen ∧ z0.length = cap0 ∧ (∀ i, i < z0.length → w.cell? (x.add i) = some (.int .i64 (z0.getD i 0))) ∧ ∀ n ∈ z0, (Lit.int .i64 n).wf = true) (y0 : len0 * 8 ≤ 140737488351232) :
  Calls Try.prog 11 #[.slice a0 len0 cap0] w fun e w' => e = .returned (.bool true) ∧ Below w.heap.size w w' := by
 obtain ⟨l0, rfl, hr0, hm0, hw0, hc0⟩ := ReadsInt.ofRowC w0
 obtain ⟨k, h⟩ := P l0 hm0 y0 hw0
 refine (awardingbodylaw14_AccessAlgebra.calls k _ _ l0 true w (Kd.C_of_reads (d := (0 : Int)) (h1 := fun _ => rfl) hr0) hc0 h).mono ?_
 rintro e w' ⟨rfl, hd⟩
 exact ⟨rfl, hd⟩

end Go.Proofs.Ytbgeoadaeihgkaa.Print
