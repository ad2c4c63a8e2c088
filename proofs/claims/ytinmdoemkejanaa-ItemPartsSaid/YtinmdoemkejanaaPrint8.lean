-- Printed by a program of this session (wip/own_print.py) out of the translation; Lean checks it.
import Derived.Test.YtinmdoemkejanaaPrint0
import Derived.Test.YtinmdoemkejanaaPrint2
import Derived.Test.YtinmdoemkejanaaPrint7
namespace Go.Proofs.Ytinmdoemkejanaa.Print
open Go.RowKit Go.Proofs.YtinmdoemkejanaaW.PrintWords Go.Proofs.YtinmdoemkejanaaW.PrintLast Go.Proofs.YtinmdoemkejanaaW.PrintMore
attribute [local go_sem] max2_int min2_int max_two min_two max_three min_three max_four min_four   -- for this text's walks alone
set_option linter.unusedVariables false
set_option linter.unusedSimpArgs false

/-! ### awardingbodylaw06_ItemParts: function 3 -/
def awardingbodylaw06_ItemParts.f (k : Nat) (a0 : Int) (a1 : Int) (a2 : Int) (a3 : Int) (a4 : Int) (a5 : Int) : Option (Bool) := (awardingbodymake_Cut.f a0 2).bind fun t166 => ((awardingbodymake_Cut.f a1 43).bind fun t167 => ((awardingbodymake_Cut.f a2 18).bind fun t168 => ((awardingbodymake_Cut.f a3 8).bind fun t169 => ((awardingbodymake_Cut.f a4 7).bind fun t170 => ((awardingbodymake_Cut.f a5 6).bind fun t171 => ((awardingbodymake_Cut.f a1 40).bind fun t174 => ((awardingbodymake_Cut.f a2 16).bind fun t175 => ((awardingbodymake_Cut.f a3 6).bind fun t176 => ((item_ValidPart.f k a0 a1 a2 a3 a4 a5).bind fun t177 => ((awardingbodyref06_ValidPart.f k a0 a1 a2 a3 a4 a5).bind fun t178 => (if (t177 == t178) = true then ((item_ValidPart.f k (wrap64 (1 + t166)) t167 t168 t169 t170 t171).bind fun t179 => ((awardingbodyref06_ValidPart.f k (wrap64 (1 + t166)) t167 t168 t169 t170 t171).bind fun t180 => (if (t179 == t180) = true then ((item_ValidPart.f k (wrap64 (1 + t166)) (wrap64 (1 + t174)) t175 t176 t170 t171).bind fun t181 => ((awardingbodyref06_ValidPart.f k (wrap64 (1 + t166)) (wrap64 (1 + t174)) t175 t176 t170 t171).bind fun t182 => (if (t181 == t182) = true then ((awardingbodylaw06_awake.f k).bind fun t183 => (some t183)) else (none)))) else (none)))) else (none))))))))))))
theorem awardingbodylaw06_ItemParts.mono : ∀ a0 a1 a2 a3 a4 a5 k, LeO (awardingbodylaw06_ItemParts.f k a0 a1 a2 a3 a4 a5) (awardingbodylaw06_ItemParts.f (k + 1) a0 a1 a2 a3 a4 a5) := by
  intro a0 a1 a2 a3 a4 a5 k
  unfold awardingbodylaw06_ItemParts.f
  repeat' first
      | (with_reducible exact awardingbodylaw06_awake.mono _)
      | (with_reducible exact awardingbodyref06_ValidPart.mono _ _ _ _ _ _ _)
      | (with_reducible exact item_ValidPart.mono _ _ _ _ _ _ _)
      | (with_reducible exact LeO.refl _)
      | (with_reducible exact LeO.none _)
      | (with_reducible refine LeO.ite ?_ ?_)
      | (with_reducible refine LeO.bind ?_ (fun _ => ?_))
      | exact awardingbodylaw06_awake.mono _
      | exact awardingbodyref06_ValidPart.mono _ _ _ _ _ _ _
      | exact item_ValidPart.mono _ _ _ _ _ _ _
      | exact LeO.none _
      | refine LeO.ite ?_ ?_
      | refine LeO.bind ?_ (fun _ => ?_)
def awardingbodylaw06_ItemParts.T5 : Bool × List (List Nat × List Nat) := (true, [([], []), ([0], [0]), ([], []), ([2, 1], [2]), ([1, 3], [1, 3]), ([4, 3], [4]), ([5], [5]), ([6, 5, 5], [5, 6]), ([5], [5]), ([8, 7, 5], [5, 8]), ([7, 9, 5], [5, 7, 9]), ([5, 10], [5, 10]), ([11, 9], [11]), ([12], [12]), ([13, 12, 12], [12, 13]), ([12], [12]), ([15, 14, 12], [12, 15]), ([14, 16, 12], [12, 14, 16]), ([12, 17], [12, 17]), ([18, 16], [18]), ([19, 19], [19]), ([19, 20], [19, 20]), ([21, 20, 0, 1, 2, 3, 4, 5, 6, 7, 8, 9, 10, 11, 12, 13, 14, 15, 16, 17, 18, 19, 20, 21], [21])])
def awardingbodylaw06_ItemParts.B5 : List Nat := [0, 1, 0, 7, 15, 31, 63, 127, 63, 511, 1023, 2047, 4095, 8191, 16383, 8191, 65535, 131071, 262143, 524287, 1048575, 2097151, 4194303]
theorem awardingbodylaw06_ItemParts.tab5 : rtab .any (opsOf Try.f3 5) = awardingbodylaw06_ItemParts.T5 := by kernel_rfl
theorem awardingbodylaw06_ItemParts.bits5 : waitsOk awardingbodylaw06_ItemParts.T5.2 awardingbodylaw06_ItemParts.B5 = true := by kernel_rfl
set_option maxHeartbeats 8000000 in
set_option maxRecDepth 100000 in
theorem awardingbodylaw06_ItemParts.calls (k : Nat) (a0 : Int) (a1 : Int) (a2 : Int) (a3 : Int) (a4 : Int) (a5 : Int) (r : Bool) (w : World) (h : awardingbodylaw06_ItemParts.f k a0 a1 a2 a3 a4 a5 = some r) :
    Calls Try.prog 3 #[.int .i64 a0, .int .i64 a1, .int .i64 a2, .int .i64 a3, .int .i64 a4, .int .i64 a5] w fun e w' => e = .returned (.bool r) ∧ Below w.heap.size w w' := by
 have hu23 := Try.underlying23
 have HB := Aside0.mk (Below.refl w.heap.size w)
 have H : ((awardingbodymake_Cut.f a0 2).bind fun t166 => ((awardingbodymake_Cut.f a1 43).bind fun t167 => ((awardingbodymake_Cut.f a2 18).bind fun t168 => ((awardingbodymake_Cut.f a3 8).bind fun t169 => ((awardingbodymake_Cut.f a4 7).bind fun t170 => ((awardingbodymake_Cut.f a5 6).bind fun t171 => ((awardingbodymake_Cut.f a1 40).bind fun t174 => ((awardingbodymake_Cut.f a2 16).bind fun t175 => ((awardingbodymake_Cut.f a3 6).bind fun t176 => ((item_ValidPart.f k a0 a1 a2 a3 a4 a5).bind fun t177 => ((awardingbodyref06_ValidPart.f k a0 a1 a2 a3 a4 a5).bind fun t178 => (if (t177 == t178) = true then ((item_ValidPart.f k (wrap64 (1 + t166)) t167 t168 t169 t170 t171).bind fun t179 => ((awardingbodyref06_ValidPart.f k (wrap64 (1 + t166)) t167 t168 t169 t170 t171).bind fun t180 => (if (t179 == t180) = true then ((item_ValidPart.f k (wrap64 (1 + t166)) (wrap64 (1 + t174)) t175 t176 t170 t171).bind fun t181 => ((awardingbodyref06_ValidPart.f k (wrap64 (1 + t166)) (wrap64 (1 + t174)) t175 t176 t170 t171).bind fun t182 => (if (t181 == t182) = true then ((awardingbodylaw06_awake.f k).bind fun t183 => (some t183)) else (none)))) else (none)))) else (none))))))))))))) = some r := h
 clear h
 replace H := Option.bind_eq_some_iff.mp H
 obtain ⟨t166, A70, H⟩ := H
 replace H : ((awardingbodymake_Cut.f a1 43).bind fun t167 => ((awardingbodymake_Cut.f a2 18).bind fun t168 => ((awardingbodymake_Cut.f a3 8).bind fun t169 => ((awardingbodymake_Cut.f a4 7).bind fun t170 => ((awardingbodymake_Cut.f a5 6).bind fun t171 => ((awardingbodymake_Cut.f a1 40).bind fun t174 => ((awardingbodymake_Cut.f a2 16).bind fun t175 => ((awardingbodymake_Cut.f a3 6).bind fun t176 => ((item_ValidPart.f k a0 a1 a2 a3 a4 a5).bind fun t177 => ((awardingbodyref06_ValidPart.f k a0 a1 a2 a3 a4 a5).bind fun t178 => (if (t177 == t178) = true then ((item_ValidPart.f k (wrap64 (1 + t166)) t167 t168 t169 t170 t171).bind fun t179 => ((awardingbodyref06_ValidPart.f k (wrap64 (1 + t166)) t167 t168 t169 t170 t171).bind fun t180 => (if (t179 == t180) = true then ((item_ValidPart.f k (wrap64 (1 + t166)) (wrap64 (1 + t174)) t175 t176 t170 t171).bind fun t181 => ((awardingbodyref06_ValidPart.f k (wrap64 (1 + t166)) (wrap64 (1 + t174)) t175 t176 t170 t171).bind fun t182 => (if (t181 == t182) = true then ((awardingbodylaw06_awake.f k).bind fun t183 => (some t183)) else (none)))) else (none)))) else (none)))))))))))) = some r := H
 have A7 := Aside0.mk A70
 clear A70
 replace H := Option.bind_eq_some_iff.mp H
 obtain ⟨t167, A80, H⟩ := H
 replace H : ((awardingbodymake_Cut.f a2 18).bind fun t168 => ((awardingbodymake_Cut.f a3 8).bind fun t169 => ((awardingbodymake_Cut.f a4 7).bind fun t170 => ((awardingbodymake_Cut.f a5 6).bind fun t171 => ((awardingbodymake_Cut.f a1 40).bind fun t174 => ((awardingbodymake_Cut.f a2 16).bind fun t175 => ((awardingbodymake_Cut.f a3 6).bind fun t176 => ((item_ValidPart.f k a0 a1 a2 a3 a4 a5).bind fun t177 => ((awardingbodyref06_ValidPart.f k a0 a1 a2 a3 a4 a5).bind fun t178 => (if (t177 == t178) = true then ((item_ValidPart.f k (wrap64 (1 + t166)) t167 t168 t169 t170 t171).bind fun t179 => ((awardingbodyref06_ValidPart.f k (wrap64 (1 + t166)) t167 t168 t169 t170 t171).bind fun t180 => (if (t179 == t180) = true then ((item_ValidPart.f k (wrap64 (1 + t166)) (wrap64 (1 + t174)) t175 t176 t170 t171).bind fun t181 => ((awardingbodyref06_ValidPart.f k (wrap64 (1 + t166)) (wrap64 (1 + t174)) t175 t176 t170 t171).bind fun t182 => (if (t181 == t182) = true then ((awardingbodylaw06_awake.f k).bind fun t183 => (some t183)) else (none)))) else (none)))) else (none))))))))))) = some r := H
 have A8 := Aside0.mk A80
 clear A80
 replace H := Option.bind_eq_some_iff.mp H
 obtain ⟨t168, A90, H⟩ := H
 replace H : ((awardingbodymake_Cut.f a3 8).bind fun t169 => ((awardingbodymake_Cut.f a4 7).bind fun t170 => ((awardingbodymake_Cut.f a5 6).bind fun t171 => ((awardingbodymake_Cut.f a1 40).bind fun t174 => ((awardingbodymake_Cut.f a2 16).bind fun t175 => ((awardingbodymake_Cut.f a3 6).bind fun t176 => ((item_ValidPart.f k a0 a1 a2 a3 a4 a5).bind fun t177 => ((awardingbodyref06_ValidPart.f k a0 a1 a2 a3 a4 a5).bind fun t178 => (if (t177 == t178) = true then ((item_ValidPart.f k (wrap64 (1 + t166)) t167 t168 t169 t170 t171).bind fun t179 => ((awardingbodyref06_ValidPart.f k (wrap64 (1 + t166)) t167 t168 t169 t170 t171).bind fun t180 => (if (t179 == t180) = true then ((item_ValidPart.f k (wrap64 (1 + t166)) (wrap64 (1 + t174)) t175 t176 t170 t171).bind fun t181 => ((awardingbodyref06_ValidPart.f k (wrap64 (1 + t166)) (wrap64 (1 + t174)) t175 t176 t170 t171).bind fun t182 => (if (t181 == t182) = true then ((awardingbodylaw06_awake.f k).bind fun t183 => (some t183)) else (none)))) else (none)))) else (none)))))))))) = some r := H
 have A9 := Aside0.mk A90
 clear A90
 replace H := Option.bind_eq_some_iff.mp H
 obtain ⟨t169, A100, H⟩ := H
 replace H : ((awardingbodymake_Cut.f a4 7).bind fun t170 => ((awardingbodymake_Cut.f a5 6).bind fun t171 => ((awardingbodymake_Cut.f a1 40).bind fun t174 => ((awardingbodymake_Cut.f a2 16).bind fun t175 => ((awardingbodymake_Cut.f a3 6).bind fun t176 => ((item_ValidPart.f k a0 a1 a2 a3 a4 a5).bind fun t177 => ((awardingbodyref06_ValidPart.f k a0 a1 a2 a3 a4 a5).bind fun t178 => (if (t177 == t178) = true then ((item_ValidPart.f k (wrap64 (1 + t166)) t167 t168 t169 t170 t171).bind fun t179 => ((awardingbodyref06_ValidPart.f k (wrap64 (1 + t166)) t167 t168 t169 t170 t171).bind fun t180 => (if (t179 == t180) = true then ((item_ValidPart.f k (wrap64 (1 + t166)) (wrap64 (1 + t174)) t175 t176 t170 t171).bind fun t181 => ((awardingbodyref06_ValidPart.f k (wrap64 (1 + t166)) (wrap64 (1 + t174)) t175 t176 t170 t171).bind fun t182 => (if (t181 == t182) = true then ((awardingbodylaw06_awake.f k).bind fun t183 => (some t183)) else (none)))) else (none)))) else (none))))))))) = some r := H
 have A10 := Aside0.mk A100
 clear A100
 replace H := Option.bind_eq_some_iff.mp H
 obtain ⟨t170, A110, H⟩ := H
 replace H : ((awardingbodymake_Cut.f a5 6).bind fun t171 => ((awardingbodymake_Cut.f a1 40).bind fun t174 => ((awardingbodymake_Cut.f a2 16).bind fun t175 => ((awardingbodymake_Cut.f a3 6).bind fun t176 => ((item_ValidPart.f k a0 a1 a2 a3 a4 a5).bind fun t177 => ((awardingbodyref06_ValidPart.f k a0 a1 a2 a3 a4 a5).bind fun t178 => (if (t177 == t178) = true then ((item_ValidPart.f k (wrap64 (1 + t166)) t167 t168 t169 t170 t171).bind fun t179 => ((awardingbodyref06_ValidPart.f k (wrap64 (1 + t166)) t167 t168 t169 t170 t171).bind fun t180 => (if (t179 == t180) = true then ((item_ValidPart.f k (wrap64 (1 + t166)) (wrap64 (1 + t174)) t175 t176 t170 t171).bind fun t181 => ((awardingbodyref06_ValidPart.f k (wrap64 (1 + t166)) (wrap64 (1 + t174)) t175 t176 t170 t171).bind fun t182 => (if (t181 == t182) = true then ((awardingbodylaw06_awake.f k).bind fun t183 => (some t183)) else (none)))) else (none)))) else (none)))))))) = some r := H
 have A11 := Aside0.mk A110
 clear A110
 replace H := Option.bind_eq_some_iff.mp H
 obtain ⟨t171, A120, H⟩ := H
 replace H : ((awardingbodymake_Cut.f a1 40).bind fun t174 => ((awardingbodymake_Cut.f a2 16).bind fun t175 => ((awardingbodymake_Cut.f a3 6).bind fun t176 => ((item_ValidPart.f k a0 a1 a2 a3 a4 a5).bind fun t177 => ((awardingbodyref06_ValidPart.f k a0 a1 a2 a3 a4 a5).bind fun t178 => (if (t177 == t178) = true then ((item_ValidPart.f k (wrap64 (1 + t166)) t167 t168 t169 t170 t171).bind fun t179 => ((awardingbodyref06_ValidPart.f k (wrap64 (1 + t166)) t167 t168 t169 t170 t171).bind fun t180 => (if (t179 == t180) = true then ((item_ValidPart.f k (wrap64 (1 + t166)) (wrap64 (1 + t174)) t175 t176 t170 t171).bind fun t181 => ((awardingbodyref06_ValidPart.f k (wrap64 (1 + t166)) (wrap64 (1 + t174)) t175 t176 t170 t171).bind fun t182 => (if (t181 == t182) = true then ((awardingbodylaw06_awake.f k).bind fun t183 => (some t183)) else (none)))) else (none)))) else (none))))))) = some r := H
 have A12 := Aside0.mk A120
 clear A120
 replace H := Option.bind_eq_some_iff.mp H
 obtain ⟨t174, A130, H⟩ := H
 replace H : ((awardingbodymake_Cut.f a2 16).bind fun t175 => ((awardingbodymake_Cut.f a3 6).bind fun t176 => ((item_ValidPart.f k a0 a1 a2 a3 a4 a5).bind fun t177 => ((awardingbodyref06_ValidPart.f k a0 a1 a2 a3 a4 a5).bind fun t178 => (if (t177 == t178) = true then ((item_ValidPart.f k (wrap64 (1 + t166)) t167 t168 t169 t170 t171).bind fun t179 => ((awardingbodyref06_ValidPart.f k (wrap64 (1 + t166)) t167 t168 t169 t170 t171).bind fun t180 => (if (t179 == t180) = true then ((item_ValidPart.f k (wrap64 (1 + t166)) (wrap64 (1 + t174)) t175 t176 t170 t171).bind fun t181 => ((awardingbodyref06_ValidPart.f k (wrap64 (1 + t166)) (wrap64 (1 + t174)) t175 t176 t170 t171).bind fun t182 => (if (t181 == t182) = true then ((awardingbodylaw06_awake.f k).bind fun t183 => (some t183)) else (none)))) else (none)))) else (none)))))) = some r := H
 have A13 := Aside0.mk A130
 clear A130
 replace H := Option.bind_eq_some_iff.mp H
 obtain ⟨t175, A140, H⟩ := H
 replace H : ((awardingbodymake_Cut.f a3 6).bind fun t176 => ((item_ValidPart.f k a0 a1 a2 a3 a4 a5).bind fun t177 => ((awardingbodyref06_ValidPart.f k a0 a1 a2 a3 a4 a5).bind fun t178 => (if (t177 == t178) = true then ((item_ValidPart.f k (wrap64 (1 + t166)) t167 t168 t169 t170 t171).bind fun t179 => ((awardingbodyref06_ValidPart.f k (wrap64 (1 + t166)) t167 t168 t169 t170 t171).bind fun t180 => (if (t179 == t180) = true then ((item_ValidPart.f k (wrap64 (1 + t166)) (wrap64 (1 + t174)) t175 t176 t170 t171).bind fun t181 => ((awardingbodyref06_ValidPart.f k (wrap64 (1 + t166)) (wrap64 (1 + t174)) t175 t176 t170 t171).bind fun t182 => (if (t181 == t182) = true then ((awardingbodylaw06_awake.f k).bind fun t183 => (some t183)) else (none)))) else (none)))) else (none))))) = some r := H
 have A14 := Aside0.mk A140
 clear A140
 replace H := Option.bind_eq_some_iff.mp H
 obtain ⟨t176, A150, H⟩ := H
 replace H : ((item_ValidPart.f k a0 a1 a2 a3 a4 a5).bind fun t177 => ((awardingbodyref06_ValidPart.f k a0 a1 a2 a3 a4 a5).bind fun t178 => (if (t177 == t178) = true then ((item_ValidPart.f k (wrap64 (1 + t166)) t167 t168 t169 t170 t171).bind fun t179 => ((awardingbodyref06_ValidPart.f k (wrap64 (1 + t166)) t167 t168 t169 t170 t171).bind fun t180 => (if (t179 == t180) = true then ((item_ValidPart.f k (wrap64 (1 + t166)) (wrap64 (1 + t174)) t175 t176 t170 t171).bind fun t181 => ((awardingbodyref06_ValidPart.f k (wrap64 (1 + t166)) (wrap64 (1 + t174)) t175 t176 t170 t171).bind fun t182 => (if (t181 == t182) = true then ((awardingbodylaw06_awake.f k).bind fun t183 => (some t183)) else (none)))) else (none)))) else (none)))) = some r := H
 have A15 := Aside0.mk A150
 clear A150
 replace H := Option.bind_eq_some_iff.mp H
 obtain ⟨t177, A160, H⟩ := H
 replace H : ((awardingbodyref06_ValidPart.f k a0 a1 a2 a3 a4 a5).bind fun t178 => (if (t177 == t178) = true then ((item_ValidPart.f k (wrap64 (1 + t166)) t167 t168 t169 t170 t171).bind fun t179 => ((awardingbodyref06_ValidPart.f k (wrap64 (1 + t166)) t167 t168 t169 t170 t171).bind fun t180 => (if (t179 == t180) = true then ((item_ValidPart.f k (wrap64 (1 + t166)) (wrap64 (1 + t174)) t175 t176 t170 t171).bind fun t181 => ((awardingbodyref06_ValidPart.f k (wrap64 (1 + t166)) (wrap64 (1 + t174)) t175 t176 t170 t171).bind fun t182 => (if (t181 == t182) = true then ((awardingbodylaw06_awake.f k).bind fun t183 => (some t183)) else (none)))) else (none)))) else (none))) = some r := H
 have A16 := Aside0.mk A160
 clear A160
 replace H := Option.bind_eq_some_iff.mp H
 obtain ⟨t178, A170, H⟩ := H
 replace H : (if (t177 == t178) = true then ((item_ValidPart.f k (wrap64 (1 + t166)) t167 t168 t169 t170 t171).bind fun t179 => ((awardingbodyref06_ValidPart.f k (wrap64 (1 + t166)) t167 t168 t169 t170 t171).bind fun t180 => (if (t179 == t180) = true then ((item_ValidPart.f k (wrap64 (1 + t166)) (wrap64 (1 + t174)) t175 t176 t170 t171).bind fun t181 => ((awardingbodyref06_ValidPart.f k (wrap64 (1 + t166)) (wrap64 (1 + t174)) t175 t176 t170 t171).bind fun t182 => (if (t181 == t182) = true then ((awardingbodylaw06_awake.f k).bind fun t183 => (some t183)) else (none)))) else (none)))) else (none)) = some r := H
 have A17 := Aside0.mk A170
 clear A170
 by_cases c18 : (t177 == t178) = true
 ·rw [if_pos c18] at H
  have c18b0 : (t177 == t178) = true := c18
  (try (have c18b1 : decide (t177 = t178) = true := by simpa using c18))
  (try (have c18b2 : (t177 == t178) = true := by simpa using c18))
  clear c18
  replace H := Option.bind_eq_some_iff.mp H
  obtain ⟨t179, A190, H⟩ := H
  replace H : ((awardingbodyref06_ValidPart.f k (wrap64 (1 + t166)) t167 t168 t169 t170 t171).bind fun t180 => (if (t179 == t180) = true then ((item_ValidPart.f k (wrap64 (1 + t166)) (wrap64 (1 + t174)) t175 t176 t170 t171).bind fun t181 => ((awardingbodyref06_ValidPart.f k (wrap64 (1 + t166)) (wrap64 (1 + t174)) t175 t176 t170 t171).bind fun t182 => (if (t181 == t182) = true then ((awardingbodylaw06_awake.f k).bind fun t183 => (some t183)) else (none)))) else (none))) = some r := H
  have A19 := Aside0.mk A190
  clear A190
  replace H := Option.bind_eq_some_iff.mp H
  obtain ⟨t180, A200, H⟩ := H
  replace H : (if (t179 == t180) = true then ((item_ValidPart.f k (wrap64 (1 + t166)) (wrap64 (1 + t174)) t175 t176 t170 t171).bind fun t181 => ((awardingbodyref06_ValidPart.f k (wrap64 (1 + t166)) (wrap64 (1 + t174)) t175 t176 t170 t171).bind fun t182 => (if (t181 == t182) = true then ((awardingbodylaw06_awake.f k).bind fun t183 => (some t183)) else (none)))) else (none)) = some r := H
  have A20 := Aside0.mk A200
  clear A200
  by_cases c21 : (t179 == t180) = true
  ·rw [if_pos c21] at H
   have c21b0 : (t179 == t180) = true := c21
   (try (have c21b1 : decide (t179 = t180) = true := by simpa using c21))
   (try (have c21b2 : (t179 == t180) = true := by simpa using c21))
   clear c21
   replace H := Option.bind_eq_some_iff.mp H
   obtain ⟨t181, A220, H⟩ := H
   replace H : ((awardingbodyref06_ValidPart.f k (wrap64 (1 + t166)) (wrap64 (1 + t174)) t175 t176 t170 t171).bind fun t182 => (if (t181 == t182) = true then ((awardingbodylaw06_awake.f k).bind fun t183 => (some t183)) else (none))) = some r := H
   have A22 := Aside0.mk A220
   clear A220
   replace H := Option.bind_eq_some_iff.mp H
   obtain ⟨t182, A230, H⟩ := H
   replace H : (if (t181 == t182) = true then ((awardingbodylaw06_awake.f k).bind fun t183 => (some t183)) else (none)) = some r := H
   have A23 := Aside0.mk A230
   clear A230
   by_cases c24 : (t181 == t182) = true
   ·rw [if_pos c24] at H
    have c24b0 : (t181 == t182) = true := c24
    (try (have c24b1 : decide (t181 = t182) = true := by simpa using c24))
    (try (have c24b2 : (t181 == t182) = true := by simpa using c24))
    clear c24
    replace H := Option.bind_eq_some_iff.mp H
    obtain ⟨t183, A250, H⟩ := H
    replace H : (some t183) = some r := H
    have A25 := Aside0.mk A250
    clear A250
    obtain rfl := Option.some.inj H
    go_enter Try.func3, Try.ntmps3
    try go_wp2_with (first | ((with_reducible refine gate_dst (N := 13) rfl ?_); refine box_event ?hg (N := 13) ?hd (cs := #[.int .i64 0, .int .i64 0, .int .i64 0, .int .i64 0, .int .i64 0, .int .i64 0]) (t := 23) ?hr ?_; (case hd => rfl); (case hg => rfl); (case hr => first | (go_simp; done) | (go_simp; rfl)); intro gb165 hg w26 hbox hb; have n0_ := Aside0.mk (below_step (by repeat (first | (with_reducible first | exact HB.out | apply below_alloc | apply pw_below_drewN | apply below_drew1) | exact HB.out)) hb); have n1_ := Aside0.mk (hbox); have n2_ := Aside0.mk ((by rw [hg]; exact (below_size (by repeat (first | (with_reducible first | exact HB.out | apply below_alloc | apply pw_below_drewN | apply below_drew1) | exact HB.out))) : w.heap.size ≤ gb165)); have n3_ := Aside0.mk ((by rw [hg]; exact (below_size (by repeat (first | (with_reducible first | exact HB.out | apply below_alloc | apply pw_below_drewN | apply below_drew1) | exact HB.out))) : w.heap.size ≤ gb165)); clear HB; have HB := n0_; have BK165 := n1_; have GW165 := n2_; have GE165 := n3_; clear n0_ n1_ n2_ n3_ hb hbox hg; have hcz27_0 : w26.cell? ⟨gb165, 0, none⟩ = some (.int .i64 0) := (blk_cell BK165.out 0).trans rfl; have hcz27_1 : w26.cell? ⟨gb165, 1, none⟩ = some (.int .i64 0) := (blk_cell BK165.out 1).trans rfl; have hcz27_2 : w26.cell? ⟨gb165, 2, none⟩ = some (.int .i64 0) := (blk_cell BK165.out 2).trans rfl; have hcz27_3 : w26.cell? ⟨gb165, 3, none⟩ = some (.int .i64 0) := (blk_cell BK165.out 3).trans rfl; have hcz27_4 : w26.cell? ⟨gb165, 4, none⟩ = some (.int .i64 0) := (blk_cell BK165.out 4).trans rfl; have hcz27_5 : w26.cell? ⟨gb165, 5, none⟩ = some (.int .i64 0) := (blk_cell BK165.out 5).trans rfl; have hfz27_0 := blk_frozen BK165.out 0; have hfz27_1 := blk_frozen BK165.out 1; have hfz27_2 := blk_frozen BK165.out 2; have hfz27_3 := blk_frozen BK165.out 3; have hfz27_4 := blk_frozen BK165.out 4; have hfz27_5 := blk_frozen BK165.out 5) | ((with_reducible refine gate_callee (f := 11) rfl ?_); refine goesL_ (some 24) rfl rfl Try.func11 (by kernel_rfl) rfl #[.int .i64 a0, .int .i64 2] rfl (by (try simp only [List.map_toArray, List.map_cons, List.map_nil]); first | done | rfl | (simp only [List.length_drop, List.length_take]; rfl)) ?_; (with_reducible refine (awardingbodymake_Cut.calls a0 2 t166 _ A7.out).mono ?_); rintro e w' ⟨rfl, ⟨nd, rfl⟩⟩; refine ⟨_, rfl, ?_⟩) | ((with_reducible refine gate_callee (f := 11) rfl ?_); refine goesL_ (some 27) rfl rfl Try.func11 (by kernel_rfl) rfl #[.int .i64 a1, .int .i64 43] rfl (by (try simp only [List.map_toArray, List.map_cons, List.map_nil]); first | done | rfl | (simp only [List.length_drop, List.length_take]; rfl)) ?_; (with_reducible refine (awardingbodymake_Cut.calls a1 43 t167 _ A8.out).mono ?_); rintro e w' ⟨rfl, ⟨nd, rfl⟩⟩; refine ⟨_, rfl, ?_⟩) | ((with_reducible refine gate_callee (f := 11) rfl ?_); refine goesL_ (some 29) rfl rfl Try.func11 (by kernel_rfl) rfl #[.int .i64 a2, .int .i64 18] rfl (by (try simp only [List.map_toArray, List.map_cons, List.map_nil]); first | done | rfl | (simp only [List.length_drop, List.length_take]; rfl)) ?_; (with_reducible refine (awardingbodymake_Cut.calls a2 18 t168 _ A9.out).mono ?_); rintro e w' ⟨rfl, ⟨nd, rfl⟩⟩; refine ⟨_, rfl, ?_⟩) | ((with_reducible refine gate_callee (f := 11) rfl ?_); refine goesL_ (some 31) rfl rfl Try.func11 (by kernel_rfl) rfl #[.int .i64 a3, .int .i64 8] rfl (by (try simp only [List.map_toArray, List.map_cons, List.map_nil]); first | done | rfl | (simp only [List.length_drop, List.length_take]; rfl)) ?_; (with_reducible refine (awardingbodymake_Cut.calls a3 8 t169 _ A10.out).mono ?_); rintro e w' ⟨rfl, ⟨nd, rfl⟩⟩; refine ⟨_, rfl, ?_⟩) | ((with_reducible refine gate_callee (f := 11) rfl ?_); refine goesL_ (some 33) rfl rfl Try.func11 (by kernel_rfl) rfl #[.int .i64 a4, .int .i64 7] rfl (by (try simp only [List.map_toArray, List.map_cons, List.map_nil]); first | done | rfl | (simp only [List.length_drop, List.length_take]; rfl)) ?_; (with_reducible refine (awardingbodymake_Cut.calls a4 7 t170 _ A11.out).mono ?_); rintro e w' ⟨rfl, ⟨nd, rfl⟩⟩; refine ⟨_, rfl, ?_⟩) | ((with_reducible refine gate_callee (f := 11) rfl ?_); refine goesL_ (some 35) rfl rfl Try.func11 (by kernel_rfl) rfl #[.int .i64 a5, .int .i64 6] rfl (by (try simp only [List.map_toArray, List.map_cons, List.map_nil]); first | done | rfl | (simp only [List.length_drop, List.length_take]; rfl)) ?_; (with_reducible refine (awardingbodymake_Cut.calls a5 6 t171 _ A12.out).mono ?_); rintro e w' ⟨rfl, ⟨nd, rfl⟩⟩; refine ⟨_, rfl, ?_⟩) | ((with_reducible refine gate_dst (N := 14) rfl ?_); refine box_event ?hg (N := 14) ?hd (cs := #[.int .i64 0, .int .i64 0, .int .i64 0, .int .i64 0, .int .i64 0, .int .i64 0]) (t := 23) ?hr ?_; (case hd => rfl); (case hg => rfl); (case hr => first | (go_simp; done) | (go_simp; rfl)); intro gb172 hg w28 hbox hb; have n0_ := Aside0.mk (blk_below (g := gb165) (o := .cells #[.int .i64 a0, .int .i64 a1, .int .i64 a2, .int .i64 a3, .int .i64 a4, .int .i64 a5] 23 (0, 0)) (by (with_reducible repeat (first | refine blk_drewN ?_ _ | refine blk_drew ?_ | refine blk_alloc ?_ _)); refine blk_put (cs := #[.int .i64 a0, .int .i64 a1, .int .i64 a2, .int .i64 a3, .int .i64 a4, .int .i64 0]) ?_ 5 _ rfl; (with_reducible repeat (first | refine blk_drewN ?_ _ | refine blk_drew ?_ | refine blk_alloc ?_ _)); refine blk_put (cs := #[.int .i64 a0, .int .i64 a1, .int .i64 a2, .int .i64 a3, .int .i64 0, .int .i64 0]) ?_ 4 _ rfl; (with_reducible repeat (first | refine blk_drewN ?_ _ | refine blk_drew ?_ | refine blk_alloc ?_ _)); refine blk_put (cs := #[.int .i64 a0, .int .i64 a1, .int .i64 a2, .int .i64 0, .int .i64 0, .int .i64 0]) ?_ 3 _ rfl; (with_reducible repeat (first | refine blk_drewN ?_ _ | refine blk_drew ?_ | refine blk_alloc ?_ _)); refine blk_put (cs := #[.int .i64 a0, .int .i64 a1, .int .i64 0, .int .i64 0, .int .i64 0, .int .i64 0]) ?_ 2 _ rfl; (with_reducible repeat (first | refine blk_drewN ?_ _ | refine blk_drew ?_ | refine blk_alloc ?_ _)); refine blk_put (cs := #[.int .i64 a0, .int .i64 0, .int .i64 0, .int .i64 0, .int .i64 0, .int .i64 0]) ?_ 1 _ rfl; (with_reducible repeat (first | refine blk_drewN ?_ _ | refine blk_drew ?_ | refine blk_alloc ?_ _)); refine blk_put (cs := #[.int .i64 0, .int .i64 0, .int .i64 0, .int .i64 0, .int .i64 0, .int .i64 0]) ?_ 0 _ rfl; (with_reducible repeat (first | refine blk_drewN ?_ _ | refine blk_drew ?_ | refine blk_alloc ?_ _)); exact BK165.out) hb); have n1_ := Aside0.mk (below_step (by repeat (first | (with_reducible first | exact HB.out | apply below_alloc | apply pw_below_drewN | apply below_drew1 | refine below_set ?_ GE165.out) | exact HB.out)) hb); have n2_ := Aside0.mk (hbox); have n3_ := Aside0.mk ((by rw [hg]; exact (below_size (by repeat (first | (with_reducible first | exact HB.out | apply below_alloc | apply pw_below_drewN | apply below_drew1 | refine below_set ?_ GE165.out) | exact HB.out))) : w.heap.size ≤ gb172)); have n4_ := Aside0.mk ((by rw [hg]; exact (below_size (by repeat (first | (with_reducible first | exact HB.out | apply below_alloc | apply pw_below_drewN | apply below_drew1 | refine below_set ?_ GE165.out) | exact HB.out))) : w.heap.size ≤ gb172)); have n5_ := Aside0.mk ((by rw [hg]; exact Nat.ne_of_lt (blk_lt (g := gb165) (o := .cells #[.int .i64 a0, .int .i64 a1, .int .i64 a2, .int .i64 a3, .int .i64 a4, .int .i64 a5] 23 (0, 0)) (by (with_reducible repeat (first | refine blk_drewN ?_ _ | refine blk_drew ?_ | refine blk_alloc ?_ _)); refine blk_put (cs := #[.int .i64 a0, .int .i64 a1, .int .i64 a2, .int .i64 a3, .int .i64 a4, .int .i64 0]) ?_ 5 _ rfl; (with_reducible repeat (first | refine blk_drewN ?_ _ | refine blk_drew ?_ | refine blk_alloc ?_ _)); refine blk_put (cs := #[.int .i64 a0, .int .i64 a1, .int .i64 a2, .int .i64 a3, .int .i64 0, .int .i64 0]) ?_ 4 _ rfl; (with_reducible repeat (first | refine blk_drewN ?_ _ | refine blk_drew ?_ | refine blk_alloc ?_ _)); refine blk_put (cs := #[.int .i64 a0, .int .i64 a1, .int .i64 a2, .int .i64 0, .int .i64 0, .int .i64 0]) ?_ 3 _ rfl; (with_reducible repeat (first | refine blk_drewN ?_ _ | refine blk_drew ?_ | refine blk_alloc ?_ _)); refine blk_put (cs := #[.int .i64 a0, .int .i64 a1, .int .i64 0, .int .i64 0, .int .i64 0, .int .i64 0]) ?_ 2 _ rfl; (with_reducible repeat (first | refine blk_drewN ?_ _ | refine blk_drew ?_ | refine blk_alloc ?_ _)); refine blk_put (cs := #[.int .i64 a0, .int .i64 0, .int .i64 0, .int .i64 0, .int .i64 0, .int .i64 0]) ?_ 1 _ rfl; (with_reducible repeat (first | refine blk_drewN ?_ _ | refine blk_drew ?_ | refine blk_alloc ?_ _)); refine blk_put (cs := #[.int .i64 0, .int .i64 0, .int .i64 0, .int .i64 0, .int .i64 0, .int .i64 0]) ?_ 0 _ rfl; (with_reducible repeat (first | refine blk_drewN ?_ _ | refine blk_drew ?_ | refine blk_alloc ?_ _)); exact BK165.out)) : gb165 ≠ gb172)); have n6_ := Aside0.mk ((by rw [hg]; exact Nat.ne_of_gt (blk_lt (g := gb165) (o := .cells #[.int .i64 a0, .int .i64 a1, .int .i64 a2, .int .i64 a3, .int .i64 a4, .int .i64 a5] 23 (0, 0)) (by (with_reducible repeat (first | refine blk_drewN ?_ _ | refine blk_drew ?_ | refine blk_alloc ?_ _)); refine blk_put (cs := #[.int .i64 a0, .int .i64 a1, .int .i64 a2, .int .i64 a3, .int .i64 a4, .int .i64 0]) ?_ 5 _ rfl; (with_reducible repeat (first | refine blk_drewN ?_ _ | refine blk_drew ?_ | refine blk_alloc ?_ _)); refine blk_put (cs := #[.int .i64 a0, .int .i64 a1, .int .i64 a2, .int .i64 a3, .int .i64 0, .int .i64 0]) ?_ 4 _ rfl; (with_reducible repeat (first | refine blk_drewN ?_ _ | refine blk_drew ?_ | refine blk_alloc ?_ _)); refine blk_put (cs := #[.int .i64 a0, .int .i64 a1, .int .i64 a2, .int .i64 0, .int .i64 0, .int .i64 0]) ?_ 3 _ rfl; (with_reducible repeat (first | refine blk_drewN ?_ _ | refine blk_drew ?_ | refine blk_alloc ?_ _)); refine blk_put (cs := #[.int .i64 a0, .int .i64 a1, .int .i64 0, .int .i64 0, .int .i64 0, .int .i64 0]) ?_ 2 _ rfl; (with_reducible repeat (first | refine blk_drewN ?_ _ | refine blk_drew ?_ | refine blk_alloc ?_ _)); refine blk_put (cs := #[.int .i64 a0, .int .i64 0, .int .i64 0, .int .i64 0, .int .i64 0, .int .i64 0]) ?_ 1 _ rfl; (with_reducible repeat (first | refine blk_drewN ?_ _ | refine blk_drew ?_ | refine blk_alloc ?_ _)); refine blk_put (cs := #[.int .i64 0, .int .i64 0, .int .i64 0, .int .i64 0, .int .i64 0, .int .i64 0]) ?_ 0 _ rfl; (with_reducible repeat (first | refine blk_drewN ?_ _ | refine blk_drew ?_ | refine blk_alloc ?_ _)); exact BK165.out)) : gb172 ≠ gb165)); clear BK165 HB; have BK165 := n0_; have HB := n1_; have BK172 := n2_; have GW172 := n3_; have GE172 := n4_; have NB165_172 := n5_; have NB172_165 := n6_; clear n0_ n1_ n2_ n3_ n4_ n5_ n6_ hb hbox hg; have hnb29 := NB172_165.out; have hnc29 := NB165_172.out; have hcz30_0 : w28.cell? ⟨gb172, 0, none⟩ = some (.int .i64 0) := (blk_cell BK172.out 0).trans rfl; have hcz30_1 : w28.cell? ⟨gb172, 1, none⟩ = some (.int .i64 0) := (blk_cell BK172.out 1).trans rfl; have hcz30_2 : w28.cell? ⟨gb172, 2, none⟩ = some (.int .i64 0) := (blk_cell BK172.out 2).trans rfl; have hcz30_3 : w28.cell? ⟨gb172, 3, none⟩ = some (.int .i64 0) := (blk_cell BK172.out 3).trans rfl; have hcz30_4 : w28.cell? ⟨gb172, 4, none⟩ = some (.int .i64 0) := (blk_cell BK172.out 4).trans rfl; have hcz30_5 : w28.cell? ⟨gb172, 5, none⟩ = some (.int .i64 0) := (blk_cell BK172.out 5).trans rfl; have hfz30_0 := blk_frozen BK172.out 0; have hfz30_1 := blk_frozen BK172.out 1; have hfz30_2 := blk_frozen BK172.out 2; have hfz30_3 := blk_frozen BK172.out 3; have hfz30_4 := blk_frozen BK172.out 4; have hfz30_5 := blk_frozen BK172.out 5) | ((with_reducible refine gate_dst (N := 15) rfl ?_); refine box_event ?hg (N := 15) ?hd (cs := #[.int .i64 0, .int .i64 0, .int .i64 0, .int .i64 0, .int .i64 0, .int .i64 0]) (t := 23) ?hr ?_; (case hd => rfl); (case hg => rfl); (case hr => first | (go_simp; done) | (go_simp; rfl)); intro gb173 hg w31 hbox hb; have n0_ := Aside0.mk (blk_below (g := gb165) (o := .cells #[.int .i64 a0, .int .i64 a1, .int .i64 a2, .int .i64 a3, .int .i64 a4, .int .i64 a5] 23 (0, 0)) (by (with_reducible repeat (first | refine blk_drewN ?_ _ | refine blk_drew ?_ | refine blk_alloc ?_ _)); refine blk_far ?_ NB165_172.out _; (with_reducible repeat (first | refine blk_drewN ?_ _ | refine blk_drew ?_ | refine blk_alloc ?_ _)); refine blk_far ?_ NB165_172.out _; (with_reducible repeat (first | refine blk_drewN ?_ _ | refine blk_drew ?_ | refine blk_alloc ?_ _)); refine blk_far ?_ NB165_172.out _; (with_reducible repeat (first | refine blk_drewN ?_ _ | refine blk_drew ?_ | refine blk_alloc ?_ _)); refine blk_far ?_ NB165_172.out _; (with_reducible repeat (first | refine blk_drewN ?_ _ | refine blk_drew ?_ | refine blk_alloc ?_ _)); refine blk_far ?_ NB165_172.out _; (with_reducible repeat (first | refine blk_drewN ?_ _ | refine blk_drew ?_ | refine blk_alloc ?_ _)); refine blk_far ?_ NB165_172.out _; (with_reducible repeat (first | refine blk_drewN ?_ _ | refine blk_drew ?_ | refine blk_alloc ?_ _)); exact BK165.out) hb); have n1_ := Aside0.mk (blk_below (g := gb172) (o := .cells #[.int .i64 (wrap64 (1 + t166)), .int .i64 t167, .int .i64 t168, .int .i64 t169, .int .i64 t170, .int .i64 t171] 23 (0, 0)) (by (with_reducible repeat (first | refine blk_drewN ?_ _ | refine blk_drew ?_ | refine blk_alloc ?_ _)); refine blk_put (cs := #[.int .i64 (wrap64 (1 + t166)), .int .i64 t167, .int .i64 t168, .int .i64 t169, .int .i64 t170, .int .i64 0]) ?_ 5 _ rfl; (with_reducible repeat (first | refine blk_drewN ?_ _ | refine blk_drew ?_ | refine blk_alloc ?_ _)); refine blk_put (cs := #[.int .i64 (wrap64 (1 + t166)), .int .i64 t167, .int .i64 t168, .int .i64 t169, .int .i64 0, .int .i64 0]) ?_ 4 _ rfl; (with_reducible repeat (first | refine blk_drewN ?_ _ | refine blk_drew ?_ | refine blk_alloc ?_ _)); refine blk_put (cs := #[.int .i64 (wrap64 (1 + t166)), .int .i64 t167, .int .i64 t168, .int .i64 0, .int .i64 0, .int .i64 0]) ?_ 3 _ rfl; (with_reducible repeat (first | refine blk_drewN ?_ _ | refine blk_drew ?_ | refine blk_alloc ?_ _)); refine blk_put (cs := #[.int .i64 (wrap64 (1 + t166)), .int .i64 t167, .int .i64 0, .int .i64 0, .int .i64 0, .int .i64 0]) ?_ 2 _ rfl; (with_reducible repeat (first | refine blk_drewN ?_ _ | refine blk_drew ?_ | refine blk_alloc ?_ _)); refine blk_put (cs := #[.int .i64 (wrap64 (1 + t166)), .int .i64 0, .int .i64 0, .int .i64 0, .int .i64 0, .int .i64 0]) ?_ 1 _ rfl; (with_reducible repeat (first | refine blk_drewN ?_ _ | refine blk_drew ?_ | refine blk_alloc ?_ _)); refine blk_put (cs := #[.int .i64 0, .int .i64 0, .int .i64 0, .int .i64 0, .int .i64 0, .int .i64 0]) ?_ 0 _ rfl; (with_reducible repeat (first | refine blk_drewN ?_ _ | refine blk_drew ?_ | refine blk_alloc ?_ _)); exact BK172.out) hb); have n2_ := Aside0.mk (below_step (by repeat (first | (with_reducible first | exact HB.out | apply below_alloc | apply pw_below_drewN | apply below_drew1 | refine below_set ?_ GE165.out | refine below_set ?_ GE172.out) | exact HB.out)) hb); have n3_ := Aside0.mk (hbox); have n4_ := Aside0.mk ((by rw [hg]; exact (below_size (by repeat (first | (with_reducible first | exact HB.out | apply below_alloc | apply pw_below_drewN | apply below_drew1 | refine below_set ?_ GE165.out | refine below_set ?_ GE172.out) | exact HB.out))) : w.heap.size ≤ gb173)); have n5_ := Aside0.mk ((by rw [hg]; exact (below_size (by repeat (first | (with_reducible first | exact HB.out | apply below_alloc | apply pw_below_drewN | apply below_drew1 | refine below_set ?_ GE165.out | refine below_set ?_ GE172.out) | exact HB.out))) : w.heap.size ≤ gb173)); have n6_ := Aside0.mk ((by rw [hg]; exact Nat.ne_of_lt (blk_lt (g := gb165) (o := .cells #[.int .i64 a0, .int .i64 a1, .int .i64 a2, .int .i64 a3, .int .i64 a4, .int .i64 a5] 23 (0, 0)) (by (with_reducible repeat (first | refine blk_drewN ?_ _ | refine blk_drew ?_ | refine blk_alloc ?_ _)); refine blk_far ?_ NB165_172.out _; (with_reducible repeat (first | refine blk_drewN ?_ _ | refine blk_drew ?_ | refine blk_alloc ?_ _)); refine blk_far ?_ NB165_172.out _; (with_reducible repeat (first | refine blk_drewN ?_ _ | refine blk_drew ?_ | refine blk_alloc ?_ _)); refine blk_far ?_ NB165_172.out _; (with_reducible repeat (first | refine blk_drewN ?_ _ | refine blk_drew ?_ | refine blk_alloc ?_ _)); refine blk_far ?_ NB165_172.out _; (with_reducible repeat (first | refine blk_drewN ?_ _ | refine blk_drew ?_ | refine blk_alloc ?_ _)); refine blk_far ?_ NB165_172.out _; (with_reducible repeat (first | refine blk_drewN ?_ _ | refine blk_drew ?_ | refine blk_alloc ?_ _)); refine blk_far ?_ NB165_172.out _; (with_reducible repeat (first | refine blk_drewN ?_ _ | refine blk_drew ?_ | refine blk_alloc ?_ _)); exact BK165.out)) : gb165 ≠ gb173)); have n7_ := Aside0.mk ((by rw [hg]; exact Nat.ne_of_gt (blk_lt (g := gb165) (o := .cells #[.int .i64 a0, .int .i64 a1, .int .i64 a2, .int .i64 a3, .int .i64 a4, .int .i64 a5] 23 (0, 0)) (by (with_reducible repeat (first | refine blk_drewN ?_ _ | refine blk_drew ?_ | refine blk_alloc ?_ _)); refine blk_far ?_ NB165_172.out _; (with_reducible repeat (first | refine blk_drewN ?_ _ | refine blk_drew ?_ | refine blk_alloc ?_ _)); refine blk_far ?_ NB165_172.out _; (with_reducible repeat (first | refine blk_drewN ?_ _ | refine blk_drew ?_ | refine blk_alloc ?_ _)); refine blk_far ?_ NB165_172.out _; (with_reducible repeat (first | refine blk_drewN ?_ _ | refine blk_drew ?_ | refine blk_alloc ?_ _)); refine blk_far ?_ NB165_172.out _; (with_reducible repeat (first | refine blk_drewN ?_ _ | refine blk_drew ?_ | refine blk_alloc ?_ _)); refine blk_far ?_ NB165_172.out _; (with_reducible repeat (first | refine blk_drewN ?_ _ | refine blk_drew ?_ | refine blk_alloc ?_ _)); refine blk_far ?_ NB165_172.out _; (with_reducible repeat (first | refine blk_drewN ?_ _ | refine blk_drew ?_ | refine blk_alloc ?_ _)); exact BK165.out)) : gb173 ≠ gb165)); have n8_ := Aside0.mk ((by rw [hg]; exact Nat.ne_of_lt (blk_lt (g := gb172) (o := .cells #[.int .i64 (wrap64 (1 + t166)), .int .i64 t167, .int .i64 t168, .int .i64 t169, .int .i64 t170, .int .i64 t171] 23 (0, 0)) (by (with_reducible repeat (first | refine blk_drewN ?_ _ | refine blk_drew ?_ | refine blk_alloc ?_ _)); refine blk_put (cs := #[.int .i64 (wrap64 (1 + t166)), .int .i64 t167, .int .i64 t168, .int .i64 t169, .int .i64 t170, .int .i64 0]) ?_ 5 _ rfl; (with_reducible repeat (first | refine blk_drewN ?_ _ | refine blk_drew ?_ | refine blk_alloc ?_ _)); refine blk_put (cs := #[.int .i64 (wrap64 (1 + t166)), .int .i64 t167, .int .i64 t168, .int .i64 t169, .int .i64 0, .int .i64 0]) ?_ 4 _ rfl; (with_reducible repeat (first | refine blk_drewN ?_ _ | refine blk_drew ?_ | refine blk_alloc ?_ _)); refine blk_put (cs := #[.int .i64 (wrap64 (1 + t166)), .int .i64 t167, .int .i64 t168, .int .i64 0, .int .i64 0, .int .i64 0]) ?_ 3 _ rfl; (with_reducible repeat (first | refine blk_drewN ?_ _ | refine blk_drew ?_ | refine blk_alloc ?_ _)); refine blk_put (cs := #[.int .i64 (wrap64 (1 + t166)), .int .i64 t167, .int .i64 0, .int .i64 0, .int .i64 0, .int .i64 0]) ?_ 2 _ rfl; (with_reducible repeat (first | refine blk_drewN ?_ _ | refine blk_drew ?_ | refine blk_alloc ?_ _)); refine blk_put (cs := #[.int .i64 (wrap64 (1 + t166)), .int .i64 0, .int .i64 0, .int .i64 0, .int .i64 0, .int .i64 0]) ?_ 1 _ rfl; (with_reducible repeat (first | refine blk_drewN ?_ _ | refine blk_drew ?_ | refine blk_alloc ?_ _)); refine blk_put (cs := #[.int .i64 0, .int .i64 0, .int .i64 0, .int .i64 0, .int .i64 0, .int .i64 0]) ?_ 0 _ rfl; (with_reducible repeat (first | refine blk_drewN ?_ _ | refine blk_drew ?_ | refine blk_alloc ?_ _)); exact BK172.out)) : gb172 ≠ gb173)); have n9_ := Aside0.mk ((by rw [hg]; exact Nat.ne_of_gt (blk_lt (g := gb172) (o := .cells #[.int .i64 (wrap64 (1 + t166)), .int .i64 t167, .int .i64 t168, .int .i64 t169, .int .i64 t170, .int .i64 t171] 23 (0, 0)) (by (with_reducible repeat (first | refine blk_drewN ?_ _ | refine blk_drew ?_ | refine blk_alloc ?_ _)); refine blk_put (cs := #[.int .i64 (wrap64 (1 + t166)), .int .i64 t167, .int .i64 t168, .int .i64 t169, .int .i64 t170, .int .i64 0]) ?_ 5 _ rfl; (with_reducible repeat (first | refine blk_drewN ?_ _ | refine blk_drew ?_ | refine blk_alloc ?_ _)); refine blk_put (cs := #[.int .i64 (wrap64 (1 + t166)), .int .i64 t167, .int .i64 t168, .int .i64 t169, .int .i64 0, .int .i64 0]) ?_ 4 _ rfl; (with_reducible repeat (first | refine blk_drewN ?_ _ | refine blk_drew ?_ | refine blk_alloc ?_ _)); refine blk_put (cs := #[.int .i64 (wrap64 (1 + t166)), .int .i64 t167, .int .i64 t168, .int .i64 0, .int .i64 0, .int .i64 0]) ?_ 3 _ rfl; (with_reducible repeat (first | refine blk_drewN ?_ _ | refine blk_drew ?_ | refine blk_alloc ?_ _)); refine blk_put (cs := #[.int .i64 (wrap64 (1 + t166)), .int .i64 t167, .int .i64 0, .int .i64 0, .int .i64 0, .int .i64 0]) ?_ 2 _ rfl; (with_reducible repeat (first | refine blk_drewN ?_ _ | refine blk_drew ?_ | refine blk_alloc ?_ _)); refine blk_put (cs := #[.int .i64 (wrap64 (1 + t166)), .int .i64 0, .int .i64 0, .int .i64 0, .int .i64 0, .int .i64 0]) ?_ 1 _ rfl; (with_reducible repeat (first | refine blk_drewN ?_ _ | refine blk_drew ?_ | refine blk_alloc ?_ _)); refine blk_put (cs := #[.int .i64 0, .int .i64 0, .int .i64 0, .int .i64 0, .int .i64 0, .int .i64 0]) ?_ 0 _ rfl; (with_reducible repeat (first | refine blk_drewN ?_ _ | refine blk_drew ?_ | refine blk_alloc ?_ _)); exact BK172.out)) : gb173 ≠ gb172)); clear BK165 BK172 HB; have BK165 := n0_; have BK172 := n1_; have HB := n2_; have BK173 := n3_; have GW173 := n4_; have GE173 := n5_; have NB165_173 := n6_; have NB173_165 := n7_; have NB172_173 := n8_; have NB173_172 := n9_; clear n0_ n1_ n2_ n3_ n4_ n5_ n6_ n7_ n8_ n9_ hb hbox hg; have hnb32 := NB173_165.out; have hnc32 := NB165_173.out; have hnb33 := NB173_172.out; have hnc33 := NB172_173.out; have hcz34_0 : w31.cell? ⟨gb173, 0, none⟩ = some (.int .i64 0) := (blk_cell BK173.out 0).trans rfl; have hcz34_1 : w31.cell? ⟨gb173, 1, none⟩ = some (.int .i64 0) := (blk_cell BK173.out 1).trans rfl; have hcz34_2 : w31.cell? ⟨gb173, 2, none⟩ = some (.int .i64 0) := (blk_cell BK173.out 2).trans rfl; have hcz34_3 : w31.cell? ⟨gb173, 3, none⟩ = some (.int .i64 0) := (blk_cell BK173.out 3).trans rfl; have hcz34_4 : w31.cell? ⟨gb173, 4, none⟩ = some (.int .i64 0) := (blk_cell BK173.out 4).trans rfl; have hcz34_5 : w31.cell? ⟨gb173, 5, none⟩ = some (.int .i64 0) := (blk_cell BK173.out 5).trans rfl; have hfz34_0 := blk_frozen BK173.out 0; have hfz34_1 := blk_frozen BK173.out 1; have hfz34_2 := blk_frozen BK173.out 2; have hfz34_3 := blk_frozen BK173.out 3; have hfz34_4 := blk_frozen BK173.out 4; have hfz34_5 := blk_frozen BK173.out 5) | ((with_reducible refine gate_callee (f := 11) rfl ?_); refine goesL_ (some 39) rfl rfl Try.func11 (by kernel_rfl) rfl #[.int .i64 a1, .int .i64 40] rfl (by (try simp only [List.map_toArray, List.map_cons, List.map_nil]); first | done | rfl | (simp only [List.length_drop, List.length_take]; rfl)) ?_; (with_reducible refine (awardingbodymake_Cut.calls a1 40 t174 _ A13.out).mono ?_); rintro e w' ⟨rfl, ⟨nd, rfl⟩⟩; refine ⟨_, rfl, ?_⟩) | ((with_reducible refine gate_callee (f := 11) rfl ?_); refine goesL_ (some 42) rfl rfl Try.func11 (by kernel_rfl) rfl #[.int .i64 a2, .int .i64 16] rfl (by (try simp only [List.map_toArray, List.map_cons, List.map_nil]); first | done | rfl | (simp only [List.length_drop, List.length_take]; rfl)) ?_; (with_reducible refine (awardingbodymake_Cut.calls a2 16 t175 _ A14.out).mono ?_); rintro e w' ⟨rfl, ⟨nd, rfl⟩⟩; refine ⟨_, rfl, ?_⟩) | ((with_reducible refine gate_callee (f := 11) rfl ?_); refine goesL_ (some 44) rfl rfl Try.func11 (by kernel_rfl) rfl #[.int .i64 a3, .int .i64 6] rfl (by (try simp only [List.map_toArray, List.map_cons, List.map_nil]); first | done | rfl | (simp only [List.length_drop, List.length_take]; rfl)) ?_; (with_reducible refine (awardingbodymake_Cut.calls a3 6 t176 _ A15.out).mono ?_); rintro e w' ⟨rfl, ⟨nd, rfl⟩⟩; refine ⟨_, rfl, ?_⟩))
    generalize hnd_ : World.drewN ((((((w31.setCell ⟨gb173, 0, none⟩ (.int .i64 (wrap64 (1 + t166)))).setCell ⟨gb173, 1, none⟩ (.int .i64 t167)).setCell ⟨gb173, 2, none⟩ (.int .i64 t168)).setCell ⟨gb173, 3, none⟩ (.int .i64 t169)).setCell ⟨gb173, 4, none⟩ (.int .i64 t170)).setCell ⟨gb173, 5, none⟩ (.int .i64 t171)) _ = wD
    have n0_ : Aside0 ((((wD.setCell ⟨gb173, 1, none⟩ (.int .i64 (wrap64 (1 + t174)))).setCell ⟨gb173, 2, none⟩ (.int .i64 t175)).setCell ⟨gb173, 3, none⟩ (.int .i64 t176)).heap[gb165]? = some (.cells #[.int .i64 a0, .int .i64 a1, .int .i64 a2, .int .i64 a3, .int .i64 a4, .int .i64 a5] 23 (0, 0))) := ⟨by rw [← hnd_]; (with_reducible repeat (first | refine blk_drewN ?_ _ | refine blk_drew ?_ | refine blk_alloc ?_ _)); refine blk_far ?_ NB165_173.out _; (with_reducible repeat (first | refine blk_drewN ?_ _ | refine blk_drew ?_ | refine blk_alloc ?_ _)); refine blk_far ?_ NB165_173.out _; (with_reducible repeat (first | refine blk_drewN ?_ _ | refine blk_drew ?_ | refine blk_alloc ?_ _)); refine blk_far ?_ NB165_173.out _; (with_reducible repeat (first | refine blk_drewN ?_ _ | refine blk_drew ?_ | refine blk_alloc ?_ _)); refine blk_far ?_ NB165_173.out _; (with_reducible repeat (first | refine blk_drewN ?_ _ | refine blk_drew ?_ | refine blk_alloc ?_ _)); refine blk_far ?_ NB165_173.out _; (with_reducible repeat (first | refine blk_drewN ?_ _ | refine blk_drew ?_ | refine blk_alloc ?_ _)); refine blk_far ?_ NB165_173.out _; (with_reducible repeat (first | refine blk_drewN ?_ _ | refine blk_drew ?_ | refine blk_alloc ?_ _)); refine blk_far ?_ NB165_173.out _; (with_reducible repeat (first | refine blk_drewN ?_ _ | refine blk_drew ?_ | refine blk_alloc ?_ _)); refine blk_far ?_ NB165_173.out _; (with_reducible repeat (first | refine blk_drewN ?_ _ | refine blk_drew ?_ | refine blk_alloc ?_ _)); refine blk_far ?_ NB165_173.out _; (with_reducible repeat (first | refine blk_drewN ?_ _ | refine blk_drew ?_ | refine blk_alloc ?_ _)); exact BK165.out⟩
    have n1_ : Aside0 ((((wD.setCell ⟨gb173, 1, none⟩ (.int .i64 (wrap64 (1 + t174)))).setCell ⟨gb173, 2, none⟩ (.int .i64 t175)).setCell ⟨gb173, 3, none⟩ (.int .i64 t176)).heap[gb172]? = some (.cells #[.int .i64 (wrap64 (1 + t166)), .int .i64 t167, .int .i64 t168, .int .i64 t169, .int .i64 t170, .int .i64 t171] 23 (0, 0))) := ⟨by rw [← hnd_]; (with_reducible repeat (first | refine blk_drewN ?_ _ | refine blk_drew ?_ | refine blk_alloc ?_ _)); refine blk_far ?_ NB172_173.out _; (with_reducible repeat (first | refine blk_drewN ?_ _ | refine blk_drew ?_ | refine blk_alloc ?_ _)); refine blk_far ?_ NB172_173.out _; (with_reducible repeat (first | refine blk_drewN ?_ _ | refine blk_drew ?_ | refine blk_alloc ?_ _)); refine blk_far ?_ NB172_173.out _; (with_reducible repeat (first | refine blk_drewN ?_ _ | refine blk_drew ?_ | refine blk_alloc ?_ _)); refine blk_far ?_ NB172_173.out _; (with_reducible repeat (first | refine blk_drewN ?_ _ | refine blk_drew ?_ | refine blk_alloc ?_ _)); refine blk_far ?_ NB172_173.out _; (with_reducible repeat (first | refine blk_drewN ?_ _ | refine blk_drew ?_ | refine blk_alloc ?_ _)); refine blk_far ?_ NB172_173.out _; (with_reducible repeat (first | refine blk_drewN ?_ _ | refine blk_drew ?_ | refine blk_alloc ?_ _)); refine blk_far ?_ NB172_173.out _; (with_reducible repeat (first | refine blk_drewN ?_ _ | refine blk_drew ?_ | refine blk_alloc ?_ _)); refine blk_far ?_ NB172_173.out _; (with_reducible repeat (first | refine blk_drewN ?_ _ | refine blk_drew ?_ | refine blk_alloc ?_ _)); refine blk_far ?_ NB172_173.out _; (with_reducible repeat (first | refine blk_drewN ?_ _ | refine blk_drew ?_ | refine blk_alloc ?_ _)); exact BK172.out⟩
    have n2_ : Aside0 ((((wD.setCell ⟨gb173, 1, none⟩ (.int .i64 (wrap64 (1 + t174)))).setCell ⟨gb173, 2, none⟩ (.int .i64 t175)).setCell ⟨gb173, 3, none⟩ (.int .i64 t176)).heap[gb173]? = some (.cells #[.int .i64 (wrap64 (1 + t166)), .int .i64 (wrap64 (1 + t174)), .int .i64 t175, .int .i64 t176, .int .i64 t170, .int .i64 t171] 23 (0, 0))) := ⟨by rw [← hnd_]; (with_reducible repeat (first | refine blk_drewN ?_ _ | refine blk_drew ?_ | refine blk_alloc ?_ _)); refine blk_put (cs := #[.int .i64 (wrap64 (1 + t166)), .int .i64 (wrap64 (1 + t174)), .int .i64 t175, .int .i64 t169, .int .i64 t170, .int .i64 t171]) ?_ 3 _ rfl; (with_reducible repeat (first | refine blk_drewN ?_ _ | refine blk_drew ?_ | refine blk_alloc ?_ _)); refine blk_put (cs := #[.int .i64 (wrap64 (1 + t166)), .int .i64 (wrap64 (1 + t174)), .int .i64 t168, .int .i64 t169, .int .i64 t170, .int .i64 t171]) ?_ 2 _ rfl; (with_reducible repeat (first | refine blk_drewN ?_ _ | refine blk_drew ?_ | refine blk_alloc ?_ _)); refine blk_put (cs := #[.int .i64 (wrap64 (1 + t166)), .int .i64 t167, .int .i64 t168, .int .i64 t169, .int .i64 t170, .int .i64 t171]) ?_ 1 _ rfl; (with_reducible repeat (first | refine blk_drewN ?_ _ | refine blk_drew ?_ | refine blk_alloc ?_ _)); refine blk_put (cs := #[.int .i64 (wrap64 (1 + t166)), .int .i64 t167, .int .i64 t168, .int .i64 t169, .int .i64 t170, .int .i64 0]) ?_ 5 _ rfl; (with_reducible repeat (first | refine blk_drewN ?_ _ | refine blk_drew ?_ | refine blk_alloc ?_ _)); refine blk_put (cs := #[.int .i64 (wrap64 (1 + t166)), .int .i64 t167, .int .i64 t168, .int .i64 t169, .int .i64 0, .int .i64 0]) ?_ 4 _ rfl; (with_reducible repeat (first | refine blk_drewN ?_ _ | refine blk_drew ?_ | refine blk_alloc ?_ _)); refine blk_put (cs := #[.int .i64 (wrap64 (1 + t166)), .int .i64 t167, .int .i64 t168, .int .i64 0, .int .i64 0, .int .i64 0]) ?_ 3 _ rfl; (with_reducible repeat (first | refine blk_drewN ?_ _ | refine blk_drew ?_ | refine blk_alloc ?_ _)); refine blk_put (cs := #[.int .i64 (wrap64 (1 + t166)), .int .i64 t167, .int .i64 0, .int .i64 0, .int .i64 0, .int .i64 0]) ?_ 2 _ rfl; (with_reducible repeat (first | refine blk_drewN ?_ _ | refine blk_drew ?_ | refine blk_alloc ?_ _)); refine blk_put (cs := #[.int .i64 (wrap64 (1 + t166)), .int .i64 0, .int .i64 0, .int .i64 0, .int .i64 0, .int .i64 0]) ?_ 1 _ rfl; (with_reducible repeat (first | refine blk_drewN ?_ _ | refine blk_drew ?_ | refine blk_alloc ?_ _)); refine blk_put (cs := #[.int .i64 0, .int .i64 0, .int .i64 0, .int .i64 0, .int .i64 0, .int .i64 0]) ?_ 0 _ rfl; (with_reducible repeat (first | refine blk_drewN ?_ _ | refine blk_drew ?_ | refine blk_alloc ?_ _)); exact BK173.out⟩
    have n3_ : Aside0 (Below w.heap.size w (((wD.setCell ⟨gb173, 1, none⟩ (.int .i64 (wrap64 (1 + t174)))).setCell ⟨gb173, 2, none⟩ (.int .i64 t175)).setCell ⟨gb173, 3, none⟩ (.int .i64 t176))) := ⟨by rw [← hnd_]; repeat (first | (with_reducible first | exact HB.out | apply below_alloc | apply pw_below_drewN | apply below_drew1 | refine below_set ?_ GE165.out | refine below_set ?_ GE172.out | refine below_set ?_ GE173.out) | exact HB.out)⟩
    (try clear BK165)
    (try clear BK172)
    (try clear BK173)
    (try clear HB)
    generalize (((wD.setCell ⟨gb173, 1, none⟩ (.int .i64 (wrap64 (1 + t174)))).setCell ⟨gb173, 2, none⟩ (.int .i64 t175)).setCell ⟨gb173, 3, none⟩ (.int .i64 t176)) = w35 at n0_ n1_ n2_ n3_ ⊢
    have BK165 := n0_
    have BK172 := n1_
    have BK173 := n2_
    have HB := n3_
    clear n0_ n1_ n2_ n3_
    (try (rw [drewN_self w35]; generalize hq_ : World.drewN w35 _ = w35; have n0_ : Aside0 (w35.heap[gb165]? = some (.cells #[.int .i64 a0, .int .i64 a1, .int .i64 a2, .int .i64 a3, .int .i64 a4, .int .i64 a5] 23 (0, 0))) := ⟨by rw [← hq_]; exact (by (with_reducible repeat (first | refine blk_drewN ?_ _ | refine blk_drew ?_ | refine blk_alloc ?_ _)); exact BK165.out)⟩; have n1_ : Aside0 (w35.heap[gb172]? = some (.cells #[.int .i64 (wrap64 (1 + t166)), .int .i64 t167, .int .i64 t168, .int .i64 t169, .int .i64 t170, .int .i64 t171] 23 (0, 0))) := ⟨by rw [← hq_]; exact (by (with_reducible repeat (first | refine blk_drewN ?_ _ | refine blk_drew ?_ | refine blk_alloc ?_ _)); exact BK172.out)⟩; have n2_ : Aside0 (w35.heap[gb173]? = some (.cells #[.int .i64 (wrap64 (1 + t166)), .int .i64 (wrap64 (1 + t174)), .int .i64 t175, .int .i64 t176, .int .i64 t170, .int .i64 t171] 23 (0, 0))) := ⟨by rw [← hq_]; exact (by (with_reducible repeat (first | refine blk_drewN ?_ _ | refine blk_drew ?_ | refine blk_alloc ?_ _)); exact BK173.out)⟩; have n3_ : Aside0 (Below w.heap.size w w35) := ⟨by rw [← hq_]; exact (by repeat (first | (with_reducible first | exact HB.out | apply below_alloc | apply pw_below_drewN | apply below_drew1 | refine below_set ?_ GE165.out | refine below_set ?_ GE172.out | refine below_set ?_ GE173.out) | exact HB.out))⟩; clear BK165 BK172 BK173 HB hq_; have BK165 := n0_; have BK172 := n1_; have BK173 := n2_; have HB := n3_; clear n0_ n1_ n2_ n3_))
    have n0_ := Aside0.mk (blk_drew BK165.out)
    have n1_ := Aside0.mk (blk_drew BK172.out)
    have n2_ := Aside0.mk (blk_drew BK173.out)
    have n3_ := Aside0.mk (below_drew1 HB.out)
    clear BK165 BK172 BK173 HB
    have BK165 := n0_
    have BK172 := n1_
    have BK173 := n2_
    have HB := n3_
    clear n0_ n1_ n2_ n3_
    refine start_ (n := 23) (S := fun w' => w'.cell? ⟨gb165, 0, none⟩ = some (.int .i64 a0) ∧ w'.cell? ⟨gb165, 1, none⟩ = some (.int .i64 a1) ∧ w'.cell? ⟨gb165, 2, none⟩ = some (.int .i64 a2) ∧ w'.cell? ⟨gb165, 3, none⟩ = some (.int .i64 a3) ∧ w'.cell? ⟨gb165, 4, none⟩ = some (.int .i64 a4) ∧ w'.cell? ⟨gb165, 5, none⟩ = some (.int .i64 a5) ∧ w'.cell? ⟨gb172, 0, none⟩ = some (.int .i64 (wrap64 (1 + t166))) ∧ w'.cell? ⟨gb172, 1, none⟩ = some (.int .i64 t167) ∧ w'.cell? ⟨gb172, 2, none⟩ = some (.int .i64 t168) ∧ w'.cell? ⟨gb172, 3, none⟩ = some (.int .i64 t169) ∧ w'.cell? ⟨gb172, 4, none⟩ = some (.int .i64 t170) ∧ w'.cell? ⟨gb172, 5, none⟩ = some (.int .i64 t171) ∧ w'.cell? ⟨gb173, 0, none⟩ = some (.int .i64 (wrap64 (1 + t166))) ∧ w'.cell? ⟨gb173, 1, none⟩ = some (.int .i64 (wrap64 (1 + t174))) ∧ w'.cell? ⟨gb173, 2, none⟩ = some (.int .i64 t175) ∧ w'.cell? ⟨gb173, 3, none⟩ = some (.int .i64 t176) ∧ w'.cell? ⟨gb173, 4, none⟩ = some (.int .i64 t170) ∧ w'.cell? ⟨gb173, 5, none⟩ = some (.int .i64 t171)) (ds := []) #[false, false, false, false, false, false, false, false, false, false, false, false, false, false, false, false, false, false, false, false, false, false, false] (by kernel_rfl) rfl rfl ⟨(blk_cell BK165.out 0).trans rfl, (blk_cell BK165.out 1).trans rfl, (blk_cell BK165.out 2).trans rfl, (blk_cell BK165.out 3).trans rfl, (blk_cell BK165.out 4).trans rfl, (blk_cell BK165.out 5).trans rfl, (blk_cell BK172.out 0).trans rfl, (blk_cell BK172.out 1).trans rfl, (blk_cell BK172.out 2).trans rfl, (blk_cell BK172.out 3).trans rfl, (blk_cell BK172.out 4).trans rfl, (blk_cell BK172.out 5).trans rfl, (blk_cell BK173.out 0).trans rfl, (blk_cell BK173.out 1).trans rfl, (blk_cell BK173.out 2).trans rfl, (blk_cell BK173.out 3).trans rfl, (blk_cell BK173.out 4).trans rfl, (blk_cell BK173.out 5).trans rfl⟩ (fun hHeld => ?_); refine with_tabW awardingbodylaw06_ItemParts.tab5 awardingbodylaw06_ItemParts.bits5 (fun HT_ HW_ => ?_)
    generalize w35.drew = w36 at BK165 BK172 BK173 HB hHeld ⊢
    refine take_ (i := 0) (N := some 48) (v := ?_) (a' := ?_) #[true, false, false, false, false, false, false, false, false, false, false, false, false, false, false, false, false, false, false, false, false, false, false] rfl rfl (take_ofW HT_.out HW_.out (by kernel_rfl)) (fun _ _ _ h => h) (Or.inl ⟨by rfl, ?_⟩) hHeld ?_ ?_
    rotate_left
    ·rintro w' ⟨s0, s1, s2, s3, s4, s5, s6, s7, s8, s9, s10, s11, s12, s13, s14, s15, s16, s17⟩
     go_simp
     with_reducible rfl
    rotate_left
    ·simp only [Act.put, List.setIfInBounds_toArray, List.set_cons_zero, List.set_cons_succ, i64_w, i32_w]
     rfl
    refine take_ (i := 2) (N := some 50) (v := ?_) (a' := ?_) #[true, false, true, false, false, false, false, false, false, false, false, false, false, false, false, false, false, false, false, false, false, false, false] rfl rfl (take_ofW HT_.out HW_.out (by kernel_rfl)) (fun _ _ _ h => h) (Or.inl ⟨by rfl, ?_⟩) hHeld ?_ ?_
    rotate_left
    ·rintro w' ⟨s0, s1, s2, s3, s4, s5, s6, s7, s8, s9, s10, s11, s12, s13, s14, s15, s16, s17⟩
     go_simp
     with_reducible rfl
    rotate_left
    ·simp only [Act.put, List.setIfInBounds_toArray, List.set_cons_zero, List.set_cons_succ, i64_w, i32_w]
     rfl
    refine one_ (i := 1) (N := some 49) #[true, true, true, false, false, false, false, false, false, false, false, false, false, false, false, false, false, false, false, false, false, false, false] rfl rfl (one_of HT_.out (by kernel_rfl)) (by decide) (fun K hK => ?_)
    refine goes_ Try.func12 (by kernel_rfl) rfl #[.agg #[.int .i64 a0, .int .i64 a1, .int .i64 a2, .int .i64 a3, .int .i64 a4, .int .i64 a5]] (by rfl) rfl rfl (by (try simp only [List.map_toArray, List.map_cons, List.map_nil]); first | done | rfl | (simp only [List.length_drop, List.length_take]; rfl)) ?_
    with_reducible refine (item_ValidPart.calls k a0 a1 a2 a3 a4 a5 t177 _ A16.out).mono ?_
    rintro e w37 ⟨rfl, hb⟩
    refine ⟨_, rfl, ?_⟩
    have n0_ := Aside0.mk (blk_below (g := gb165) (o := .cells #[.int .i64 a0, .int .i64 a1, .int .i64 a2, .int .i64 a3, .int .i64 a4, .int .i64 a5] 23 (0, 0)) (by (with_reducible repeat (first | refine blk_drewN ?_ _ | refine blk_drew ?_ | refine blk_alloc ?_ _)); exact BK165.out) hb)
    have n1_ := Aside0.mk (blk_below (g := gb172) (o := .cells #[.int .i64 (wrap64 (1 + t166)), .int .i64 t167, .int .i64 t168, .int .i64 t169, .int .i64 t170, .int .i64 t171] 23 (0, 0)) (by (with_reducible repeat (first | refine blk_drewN ?_ _ | refine blk_drew ?_ | refine blk_alloc ?_ _)); exact BK172.out) hb)
    have n2_ := Aside0.mk (blk_below (g := gb173) (o := .cells #[.int .i64 (wrap64 (1 + t166)), .int .i64 (wrap64 (1 + t174)), .int .i64 t175, .int .i64 t176, .int .i64 t170, .int .i64 t171] 23 (0, 0)) (by (with_reducible repeat (first | refine blk_drewN ?_ _ | refine blk_drew ?_ | refine blk_alloc ?_ _)); exact BK173.out) hb)
    have n3_ := Aside0.mk (below_step (by repeat (first | (with_reducible first | exact HB.out | apply below_alloc | apply pw_below_drewN | apply below_drew1 | refine below_set ?_ GE165.out | refine below_set ?_ GE172.out | refine below_set ?_ GE173.out) | exact HB.out)) hb)
    clear BK165 BK172 BK173 HB
    have BK165 := n0_
    have BK172 := n1_
    have BK173 := n2_
    have HB := n3_
    clear n0_ n1_ n2_ n3_
    (try clear hb)
    (try clear hb2)
    (try clear hk)
    (try clear hi)
    refine hK.out _ _ ⟨(blk_cell BK165.out 0).trans rfl, (blk_cell BK165.out 1).trans rfl, (blk_cell BK165.out 2).trans rfl, (blk_cell BK165.out 3).trans rfl, (blk_cell BK165.out 4).trans rfl, (blk_cell BK165.out 5).trans rfl, (blk_cell BK172.out 0).trans rfl, (blk_cell BK172.out 1).trans rfl, (blk_cell BK172.out 2).trans rfl, (blk_cell BK172.out 3).trans rfl, (blk_cell BK172.out 4).trans rfl, (blk_cell BK172.out 5).trans rfl, (blk_cell BK173.out 0).trans rfl, (blk_cell BK173.out 1).trans rfl, (blk_cell BK173.out 2).trans rfl, (blk_cell BK173.out 3).trans rfl, (blk_cell BK173.out 4).trans rfl, (blk_cell BK173.out 5).trans rfl⟩ (fun hHeld => ?_)
    clear hK K
    refine norm_ (a' := ?_) ?_ ?_
    rotate_left
    ·show Act.put _ (some 49) _ = _
     simp only [Act.put, List.setIfInBounds_toArray, List.set_cons_zero, List.set_cons_succ, i64_w, i32_w]
     rfl
    refine one_ (i := 3) (N := some 51) #[true, true, true, true, false, false, false, false, false, false, false, false, false, false, false, false, false, false, false, false, false, false, false] rfl rfl (one_of HT_.out (by kernel_rfl)) (by decide) (fun K hK => ?_)
    refine goes_ Try.func13 (by kernel_rfl) rfl #[.agg #[.int .i64 a0, .int .i64 a1, .int .i64 a2, .int .i64 a3, .int .i64 a4, .int .i64 a5]] (by rfl) rfl rfl (by (try simp only [List.map_toArray, List.map_cons, List.map_nil]); first | done | rfl | (simp only [List.length_drop, List.length_take]; rfl)) ?_
    with_reducible refine (awardingbodyref06_ValidPart.calls k a0 a1 a2 a3 a4 a5 t178 _ A17.out).mono ?_
    rintro e w38 ⟨rfl, hb⟩
    refine ⟨_, rfl, ?_⟩
    have n0_ := Aside0.mk (blk_below (g := gb165) (o := .cells #[.int .i64 a0, .int .i64 a1, .int .i64 a2, .int .i64 a3, .int .i64 a4, .int .i64 a5] 23 (0, 0)) (by (with_reducible repeat (first | refine blk_drewN ?_ _ | refine blk_drew ?_ | refine blk_alloc ?_ _)); exact BK165.out) hb)
    have n1_ := Aside0.mk (blk_below (g := gb172) (o := .cells #[.int .i64 (wrap64 (1 + t166)), .int .i64 t167, .int .i64 t168, .int .i64 t169, .int .i64 t170, .int .i64 t171] 23 (0, 0)) (by (with_reducible repeat (first | refine blk_drewN ?_ _ | refine blk_drew ?_ | refine blk_alloc ?_ _)); exact BK172.out) hb)
    have n2_ := Aside0.mk (blk_below (g := gb173) (o := .cells #[.int .i64 (wrap64 (1 + t166)), .int .i64 (wrap64 (1 + t174)), .int .i64 t175, .int .i64 t176, .int .i64 t170, .int .i64 t171] 23 (0, 0)) (by (with_reducible repeat (first | refine blk_drewN ?_ _ | refine blk_drew ?_ | refine blk_alloc ?_ _)); exact BK173.out) hb)
    have n3_ := Aside0.mk (below_step (by repeat (first | (with_reducible first | exact HB.out | apply below_alloc | apply pw_below_drewN | apply below_drew1 | refine below_set ?_ GE165.out | refine below_set ?_ GE172.out | refine below_set ?_ GE173.out) | exact HB.out)) hb)
    clear BK165 BK172 BK173 HB
    have BK165 := n0_
    have BK172 := n1_
    have BK173 := n2_
    have HB := n3_
    clear n0_ n1_ n2_ n3_
    (try clear hb)
    (try clear hb2)
    (try clear hk)
    (try clear hi)
    refine hK.out _ _ ⟨(blk_cell BK165.out 0).trans rfl, (blk_cell BK165.out 1).trans rfl, (blk_cell BK165.out 2).trans rfl, (blk_cell BK165.out 3).trans rfl, (blk_cell BK165.out 4).trans rfl, (blk_cell BK165.out 5).trans rfl, (blk_cell BK172.out 0).trans rfl, (blk_cell BK172.out 1).trans rfl, (blk_cell BK172.out 2).trans rfl, (blk_cell BK172.out 3).trans rfl, (blk_cell BK172.out 4).trans rfl, (blk_cell BK172.out 5).trans rfl, (blk_cell BK173.out 0).trans rfl, (blk_cell BK173.out 1).trans rfl, (blk_cell BK173.out 2).trans rfl, (blk_cell BK173.out 3).trans rfl, (blk_cell BK173.out 4).trans rfl, (blk_cell BK173.out 5).trans rfl⟩ (fun hHeld => ?_)
    clear hK K
    refine norm_ (a' := ?_) ?_ ?_
    rotate_left
    ·show Act.put _ (some 51) _ = _
     simp only [Act.put, List.setIfInBounds_toArray, List.set_cons_zero, List.set_cons_succ, i64_w, i32_w]
     rfl
    refine pure_ (i := 4) (N := some 52) (v := ?_) (a' := ?_) #[true, true, true, true, true, false, false, false, false, false, false, false, false, false, false, false, false, false, false, false, false, false, false] rfl rfl (any_of HT_.out (by kernel_rfl)) (fun _ _ _ h => h) (Or.inl ⟨by rfl, ?_⟩) ?_ ?_
    rotate_left
    ·intro w'
     go_simp
     with_reducible rfl
    rotate_left
    ·simp only [Act.put, List.setIfInBounds_toArray, List.set_cons_zero, List.set_cons_succ, i64_w, i32_w]
     rfl
    refine pure_ (i := 5) (N := some 53) (v := ?_) (a' := ?_) #[true, true, true, true, true, true, false, false, false, false, false, false, false, false, false, false, false, false, false, false, false, false, false] rfl rfl (any_of HT_.out (by kernel_rfl)) (fun _ _ _ h => h) (Or.inl ⟨by rfl, ?_⟩) ?_ ?_
    rotate_left
    ·intro w'
     go_simp
     with_reducible rfl
    rotate_left
    ·simp only [Act.put, List.setIfInBounds_toArray, List.set_cons_zero, List.set_cons_succ, i64_w, i32_w]
     rfl
    refine take_ (i := 6) (N := some 54) (v := ?_) (a' := ?_) #[true, true, true, true, true, true, true, false, false, false, false, false, false, false, false, false, false, false, false, false, false, false, false] rfl rfl (take_ofW HT_.out HW_.out (by kernel_rfl)) (fun _ _ _ h => h) (Or.inl ⟨by rfl, ?_⟩) hHeld ?_ ?_
    rotate_left
    ·rintro w' ⟨s0, s1, s2, s3, s4, s5, s6, s7, s8, s9, s10, s11, s12, s13, s14, s15, s16, s17⟩
     go_simp
     with_reducible rfl
    rotate_left
    ·simp only [Act.put, List.setIfInBounds_toArray, List.set_cons_zero, List.set_cons_succ, i64_w, i32_w]
     rfl
    refine take_ (i := 8) (N := some 56) (v := ?_) (a' := ?_) #[true, true, true, true, true, true, true, false, true, false, false, false, false, false, false, false, false, false, false, false, false, false, false] rfl rfl (take_ofW HT_.out HW_.out (by kernel_rfl)) (fun _ _ _ h => h) (Or.inl ⟨by rfl, ?_⟩) hHeld ?_ ?_
    rotate_left
    ·rintro w' ⟨s0, s1, s2, s3, s4, s5, s6, s7, s8, s9, s10, s11, s12, s13, s14, s15, s16, s17⟩
     go_simp
     with_reducible rfl
    rotate_left
    ·simp only [Act.put, List.setIfInBounds_toArray, List.set_cons_zero, List.set_cons_succ, i64_w, i32_w]
     rfl
    refine one_ (i := 7) (N := some 55) #[true, true, true, true, true, true, true, true, true, false, false, false, false, false, false, false, false, false, false, false, false, false, false] rfl rfl (one_of HT_.out (by kernel_rfl)) (by decide) (fun K hK => ?_)
    refine goes_ Try.func12 (by kernel_rfl) rfl #[.agg #[.int .i64 (wrap64 (1 + t166)), .int .i64 t167, .int .i64 t168, .int .i64 t169, .int .i64 t170, .int .i64 t171]] (by rfl) rfl rfl (by (try simp only [List.map_toArray, List.map_cons, List.map_nil]); first | done | rfl | (simp only [List.length_drop, List.length_take]; rfl)) ?_
    with_reducible refine (item_ValidPart.calls k (wrap64 (1 + t166)) t167 t168 t169 t170 t171 t179 _ A19.out).mono ?_
    rintro e w39 ⟨rfl, hb⟩
    refine ⟨_, rfl, ?_⟩
    have n0_ := Aside0.mk (blk_below (g := gb165) (o := .cells #[.int .i64 a0, .int .i64 a1, .int .i64 a2, .int .i64 a3, .int .i64 a4, .int .i64 a5] 23 (0, 0)) (by (with_reducible repeat (first | refine blk_drewN ?_ _ | refine blk_drew ?_ | refine blk_alloc ?_ _)); exact BK165.out) hb)
    have n1_ := Aside0.mk (blk_below (g := gb172) (o := .cells #[.int .i64 (wrap64 (1 + t166)), .int .i64 t167, .int .i64 t168, .int .i64 t169, .int .i64 t170, .int .i64 t171] 23 (0, 0)) (by (with_reducible repeat (first | refine blk_drewN ?_ _ | refine blk_drew ?_ | refine blk_alloc ?_ _)); exact BK172.out) hb)
    have n2_ := Aside0.mk (blk_below (g := gb173) (o := .cells #[.int .i64 (wrap64 (1 + t166)), .int .i64 (wrap64 (1 + t174)), .int .i64 t175, .int .i64 t176, .int .i64 t170, .int .i64 t171] 23 (0, 0)) (by (with_reducible repeat (first | refine blk_drewN ?_ _ | refine blk_drew ?_ | refine blk_alloc ?_ _)); exact BK173.out) hb)
    have n3_ := Aside0.mk (below_step (by repeat (first | (with_reducible first | exact HB.out | apply below_alloc | apply pw_below_drewN | apply below_drew1 | refine below_set ?_ GE165.out | refine below_set ?_ GE172.out | refine below_set ?_ GE173.out) | exact HB.out)) hb)
    clear BK165 BK172 BK173 HB
    have BK165 := n0_
    have BK172 := n1_
    have BK173 := n2_
    have HB := n3_
    clear n0_ n1_ n2_ n3_
    (try clear hb)
    (try clear hb2)
    (try clear hk)
    (try clear hi)
    refine hK.out _ _ ⟨(blk_cell BK165.out 0).trans rfl, (blk_cell BK165.out 1).trans rfl, (blk_cell BK165.out 2).trans rfl, (blk_cell BK165.out 3).trans rfl, (blk_cell BK165.out 4).trans rfl, (blk_cell BK165.out 5).trans rfl, (blk_cell BK172.out 0).trans rfl, (blk_cell BK172.out 1).trans rfl, (blk_cell BK172.out 2).trans rfl, (blk_cell BK172.out 3).trans rfl, (blk_cell BK172.out 4).trans rfl, (blk_cell BK172.out 5).trans rfl, (blk_cell BK173.out 0).trans rfl, (blk_cell BK173.out 1).trans rfl, (blk_cell BK173.out 2).trans rfl, (blk_cell BK173.out 3).trans rfl, (blk_cell BK173.out 4).trans rfl, (blk_cell BK173.out 5).trans rfl⟩ (fun hHeld => ?_)
    clear hK K
    refine norm_ (a' := ?_) ?_ ?_
    rotate_left
    ·show Act.put _ (some 55) _ = _
     simp only [Act.put, List.setIfInBounds_toArray, List.set_cons_zero, List.set_cons_succ, i64_w, i32_w]
     rfl
    refine one_ (i := 9) (N := some 57) #[true, true, true, true, true, true, true, true, true, true, false, false, false, false, false, false, false, false, false, false, false, false, false] rfl rfl (one_of HT_.out (by kernel_rfl)) (by decide) (fun K hK => ?_)
    refine goes_ Try.func13 (by kernel_rfl) rfl #[.agg #[.int .i64 (wrap64 (1 + t166)), .int .i64 t167, .int .i64 t168, .int .i64 t169, .int .i64 t170, .int .i64 t171]] (by rfl) rfl rfl (by (try simp only [List.map_toArray, List.map_cons, List.map_nil]); first | done | rfl | (simp only [List.length_drop, List.length_take]; rfl)) ?_
    with_reducible refine (awardingbodyref06_ValidPart.calls k (wrap64 (1 + t166)) t167 t168 t169 t170 t171 t180 _ A20.out).mono ?_
    rintro e w40 ⟨rfl, hb⟩
    refine ⟨_, rfl, ?_⟩
    have n0_ := Aside0.mk (blk_below (g := gb165) (o := .cells #[.int .i64 a0, .int .i64 a1, .int .i64 a2, .int .i64 a3, .int .i64 a4, .int .i64 a5] 23 (0, 0)) (by (with_reducible repeat (first | refine blk_drewN ?_ _ | refine blk_drew ?_ | refine blk_alloc ?_ _)); exact BK165.out) hb)
    have n1_ := Aside0.mk (blk_below (g := gb172) (o := .cells #[.int .i64 (wrap64 (1 + t166)), .int .i64 t167, .int .i64 t168, .int .i64 t169, .int .i64 t170, .int .i64 t171] 23 (0, 0)) (by (with_reducible repeat (first | refine blk_drewN ?_ _ | refine blk_drew ?_ | refine blk_alloc ?_ _)); exact BK172.out) hb)
    have n2_ := Aside0.mk (blk_below (g := gb173) (o := .cells #[.int .i64 (wrap64 (1 + t166)), .int .i64 (wrap64 (1 + t174)), .int .i64 t175, .int .i64 t176, .int .i64 t170, .int .i64 t171] 23 (0, 0)) (by (with_reducible repeat (first | refine blk_drewN ?_ _ | refine blk_drew ?_ | refine blk_alloc ?_ _)); exact BK173.out) hb)
    have n3_ := Aside0.mk (below_step (by repeat (first | (with_reducible first | exact HB.out | apply below_alloc | apply pw_below_drewN | apply below_drew1 | refine below_set ?_ GE165.out | refine below_set ?_ GE172.out | refine below_set ?_ GE173.out) | exact HB.out)) hb)
    clear BK165 BK172 BK173 HB
    have BK165 := n0_
    have BK172 := n1_
    have BK173 := n2_
    have HB := n3_
    clear n0_ n1_ n2_ n3_
    (try clear hb)
    (try clear hb2)
    (try clear hk)
    (try clear hi)
    refine hK.out _ _ ⟨(blk_cell BK165.out 0).trans rfl, (blk_cell BK165.out 1).trans rfl, (blk_cell BK165.out 2).trans rfl, (blk_cell BK165.out 3).trans rfl, (blk_cell BK165.out 4).trans rfl, (blk_cell BK165.out 5).trans rfl, (blk_cell BK172.out 0).trans rfl, (blk_cell BK172.out 1).trans rfl, (blk_cell BK172.out 2).trans rfl, (blk_cell BK172.out 3).trans rfl, (blk_cell BK172.out 4).trans rfl, (blk_cell BK172.out 5).trans rfl, (blk_cell BK173.out 0).trans rfl, (blk_cell BK173.out 1).trans rfl, (blk_cell BK173.out 2).trans rfl, (blk_cell BK173.out 3).trans rfl, (blk_cell BK173.out 4).trans rfl, (blk_cell BK173.out 5).trans rfl⟩ (fun hHeld => ?_)
    clear hK K
    refine norm_ (a' := ?_) ?_ ?_
    rotate_left
    ·show Act.put _ (some 57) _ = _
     simp only [Act.put, List.setIfInBounds_toArray, List.set_cons_zero, List.set_cons_succ, i64_w, i32_w]
     rfl
    refine pure_ (i := 10) (N := some 58) (v := ?_) (a' := ?_) #[true, true, true, true, true, true, true, true, true, true, true, false, false, false, false, false, false, false, false, false, false, false, false] rfl rfl (any_of HT_.out (by kernel_rfl)) (fun _ _ _ h => h) (Or.inl ⟨by rfl, ?_⟩) ?_ ?_
    rotate_left
    ·intro w'
     go_simp
     with_reducible rfl
    rotate_left
    ·simp only [Act.put, List.setIfInBounds_toArray, List.set_cons_zero, List.set_cons_succ, i64_w, i32_w]
     rfl
    refine pure_ (i := 11) (N := some 59) (v := ?_) (a' := ?_) #[true, true, true, true, true, true, true, true, true, true, true, true, false, false, false, false, false, false, false, false, false, false, false] rfl rfl (any_of HT_.out (by kernel_rfl)) (fun _ _ _ h => h) (Or.inl ⟨by rfl, ?_⟩) ?_ ?_
    rotate_left
    ·intro w'
     go_simp
     with_reducible rfl
    rotate_left
    ·simp only [Act.put, List.setIfInBounds_toArray, List.set_cons_zero, List.set_cons_succ, i64_w, i32_w]
     rfl
    refine pure_ (i := 12) (N := some 60) (v := ?_) (a' := ?_) #[true, true, true, true, true, true, true, true, true, true, true, true, true, false, false, false, false, false, false, false, false, false, false] rfl rfl (any_of HT_.out (by kernel_rfl)) (fun _ _ _ h => h) (Or.inl ⟨by rfl, ?_⟩) ?_ ?_
    rotate_left
    ·intro w'
     go_simp
     with_reducible rfl
    rotate_left
    ·simp only [Act.put, List.setIfInBounds_toArray, List.set_cons_zero, List.set_cons_succ, i64_w, i32_w]
     rfl
    refine take_ (i := 13) (N := some 61) (v := ?_) (a' := ?_) #[true, true, true, true, true, true, true, true, true, true, true, true, true, true, false, false, false, false, false, false, false, false, false] rfl rfl (take_ofW HT_.out HW_.out (by kernel_rfl)) (fun _ _ _ h => h) (Or.inl ⟨by rfl, ?_⟩) hHeld ?_ ?_
    rotate_left
    ·rintro w' ⟨s0, s1, s2, s3, s4, s5, s6, s7, s8, s9, s10, s11, s12, s13, s14, s15, s16, s17⟩
     go_simp
     with_reducible rfl
    rotate_left
    ·simp only [Act.put, List.setIfInBounds_toArray, List.set_cons_zero, List.set_cons_succ, i64_w, i32_w]
     rfl
    refine take_ (i := 15) (N := some 63) (v := ?_) (a' := ?_) #[true, true, true, true, true, true, true, true, true, true, true, true, true, true, false, true, false, false, false, false, false, false, false] rfl rfl (take_ofW HT_.out HW_.out (by kernel_rfl)) (fun _ _ _ h => h) (Or.inl ⟨by rfl, ?_⟩) hHeld ?_ ?_
    rotate_left
    ·rintro w' ⟨s0, s1, s2, s3, s4, s5, s6, s7, s8, s9, s10, s11, s12, s13, s14, s15, s16, s17⟩
     go_simp
     with_reducible rfl
    rotate_left
    ·simp only [Act.put, List.setIfInBounds_toArray, List.set_cons_zero, List.set_cons_succ, i64_w, i32_w]
     rfl
    refine one_ (i := 14) (N := some 62) #[true, true, true, true, true, true, true, true, true, true, true, true, true, true, true, true, false, false, false, false, false, false, false] rfl rfl (one_of HT_.out (by kernel_rfl)) (by decide) (fun K hK => ?_)
    refine goes_ Try.func12 (by kernel_rfl) rfl #[.agg #[.int .i64 (wrap64 (1 + t166)), .int .i64 (wrap64 (1 + t174)), .int .i64 t175, .int .i64 t176, .int .i64 t170, .int .i64 t171]] (by rfl) rfl rfl (by (try simp only [List.map_toArray, List.map_cons, List.map_nil]); first | done | rfl | (simp only [List.length_drop, List.length_take]; rfl)) ?_
    with_reducible refine (item_ValidPart.calls k (wrap64 (1 + t166)) (wrap64 (1 + t174)) t175 t176 t170 t171 t181 _ A22.out).mono ?_
    rintro e w41 ⟨rfl, hb⟩
    refine ⟨_, rfl, ?_⟩
    have n0_ := Aside0.mk (blk_below (g := gb165) (o := .cells #[.int .i64 a0, .int .i64 a1, .int .i64 a2, .int .i64 a3, .int .i64 a4, .int .i64 a5] 23 (0, 0)) (by (with_reducible repeat (first | refine blk_drewN ?_ _ | refine blk_drew ?_ | refine blk_alloc ?_ _)); exact BK165.out) hb)
    have n1_ := Aside0.mk (blk_below (g := gb172) (o := .cells #[.int .i64 (wrap64 (1 + t166)), .int .i64 t167, .int .i64 t168, .int .i64 t169, .int .i64 t170, .int .i64 t171] 23 (0, 0)) (by (with_reducible repeat (first | refine blk_drewN ?_ _ | refine blk_drew ?_ | refine blk_alloc ?_ _)); exact BK172.out) hb)
    have n2_ := Aside0.mk (blk_below (g := gb173) (o := .cells #[.int .i64 (wrap64 (1 + t166)), .int .i64 (wrap64 (1 + t174)), .int .i64 t175, .int .i64 t176, .int .i64 t170, .int .i64 t171] 23 (0, 0)) (by (with_reducible repeat (first | refine blk_drewN ?_ _ | refine blk_drew ?_ | refine blk_alloc ?_ _)); exact BK173.out) hb)
    have n3_ := Aside0.mk (below_step (by repeat (first | (with_reducible first | exact HB.out | apply below_alloc | apply pw_below_drewN | apply below_drew1 | refine below_set ?_ GE165.out | refine below_set ?_ GE172.out | refine below_set ?_ GE173.out) | exact HB.out)) hb)
    clear BK165 BK172 BK173 HB
    have BK165 := n0_
    have BK172 := n1_
    have BK173 := n2_
    have HB := n3_
    clear n0_ n1_ n2_ n3_
    (try clear hb)
    (try clear hb2)
    (try clear hk)
    (try clear hi)
    refine hK.out _ _ ⟨(blk_cell BK165.out 0).trans rfl, (blk_cell BK165.out 1).trans rfl, (blk_cell BK165.out 2).trans rfl, (blk_cell BK165.out 3).trans rfl, (blk_cell BK165.out 4).trans rfl, (blk_cell BK165.out 5).trans rfl, (blk_cell BK172.out 0).trans rfl, (blk_cell BK172.out 1).trans rfl, (blk_cell BK172.out 2).trans rfl, (blk_cell BK172.out 3).trans rfl, (blk_cell BK172.out 4).trans rfl, (blk_cell BK172.out 5).trans rfl, (blk_cell BK173.out 0).trans rfl, (blk_cell BK173.out 1).trans rfl, (blk_cell BK173.out 2).trans rfl, (blk_cell BK173.out 3).trans rfl, (blk_cell BK173.out 4).trans rfl, (blk_cell BK173.out 5).trans rfl⟩ (fun hHeld => ?_)
    clear hK K
    refine norm_ (a' := ?_) ?_ ?_
    rotate_left
    ·show Act.put _ (some 62) _ = _
     simp only [Act.put, List.setIfInBounds_toArray, List.set_cons_zero, List.set_cons_succ, i64_w, i32_w]
     rfl
    refine one_ (i := 16) (N := some 64) #[true, true, true, true, true, true, true, true, true, true, true, true, true, true, true, true, true, false, false, false, false, false, false] rfl rfl (one_of HT_.out (by kernel_rfl)) (by decide) (fun K hK => ?_)
    refine goes_ Try.func13 (by kernel_rfl) rfl #[.agg #[.int .i64 (wrap64 (1 + t166)), .int .i64 (wrap64 (1 + t174)), .int .i64 t175, .int .i64 t176, .int .i64 t170, .int .i64 t171]] (by rfl) rfl rfl (by (try simp only [List.map_toArray, List.map_cons, List.map_nil]); first | done | rfl | (simp only [List.length_drop, List.length_take]; rfl)) ?_
    with_reducible refine (awardingbodyref06_ValidPart.calls k (wrap64 (1 + t166)) (wrap64 (1 + t174)) t175 t176 t170 t171 t182 _ A23.out).mono ?_
    rintro e w42 ⟨rfl, hb⟩
    refine ⟨_, rfl, ?_⟩
    have n0_ := Aside0.mk (blk_below (g := gb165) (o := .cells #[.int .i64 a0, .int .i64 a1, .int .i64 a2, .int .i64 a3, .int .i64 a4, .int .i64 a5] 23 (0, 0)) (by (with_reducible repeat (first | refine blk_drewN ?_ _ | refine blk_drew ?_ | refine blk_alloc ?_ _)); exact BK165.out) hb)
    have n1_ := Aside0.mk (blk_below (g := gb172) (o := .cells #[.int .i64 (wrap64 (1 + t166)), .int .i64 t167, .int .i64 t168, .int .i64 t169, .int .i64 t170, .int .i64 t171] 23 (0, 0)) (by (with_reducible repeat (first | refine blk_drewN ?_ _ | refine blk_drew ?_ | refine blk_alloc ?_ _)); exact BK172.out) hb)
    have n2_ := Aside0.mk (blk_below (g := gb173) (o := .cells #[.int .i64 (wrap64 (1 + t166)), .int .i64 (wrap64 (1 + t174)), .int .i64 t175, .int .i64 t176, .int .i64 t170, .int .i64 t171] 23 (0, 0)) (by (with_reducible repeat (first | refine blk_drewN ?_ _ | refine blk_drew ?_ | refine blk_alloc ?_ _)); exact BK173.out) hb)
    have n3_ := Aside0.mk (below_step (by repeat (first | (with_reducible first | exact HB.out | apply below_alloc | apply pw_below_drewN | apply below_drew1 | refine below_set ?_ GE165.out | refine below_set ?_ GE172.out | refine below_set ?_ GE173.out) | exact HB.out)) hb)
    clear BK165 BK172 BK173 HB
    have BK165 := n0_
    have BK172 := n1_
    have BK173 := n2_
    have HB := n3_
    clear n0_ n1_ n2_ n3_
    (try clear hb)
    (try clear hb2)
    (try clear hk)
    (try clear hi)
    refine hK.out _ _ ⟨(blk_cell BK165.out 0).trans rfl, (blk_cell BK165.out 1).trans rfl, (blk_cell BK165.out 2).trans rfl, (blk_cell BK165.out 3).trans rfl, (blk_cell BK165.out 4).trans rfl, (blk_cell BK165.out 5).trans rfl, (blk_cell BK172.out 0).trans rfl, (blk_cell BK172.out 1).trans rfl, (blk_cell BK172.out 2).trans rfl, (blk_cell BK172.out 3).trans rfl, (blk_cell BK172.out 4).trans rfl, (blk_cell BK172.out 5).trans rfl, (blk_cell BK173.out 0).trans rfl, (blk_cell BK173.out 1).trans rfl, (blk_cell BK173.out 2).trans rfl, (blk_cell BK173.out 3).trans rfl, (blk_cell BK173.out 4).trans rfl, (blk_cell BK173.out 5).trans rfl⟩ (fun hHeld => ?_)
    clear hK K
    refine norm_ (a' := ?_) ?_ ?_
    rotate_left
    ·show Act.put _ (some 64) _ = _
     simp only [Act.put, List.setIfInBounds_toArray, List.set_cons_zero, List.set_cons_succ, i64_w, i32_w]
     rfl
    refine pure_ (i := 17) (N := some 65) (v := ?_) (a' := ?_) #[true, true, true, true, true, true, true, true, true, true, true, true, true, true, true, true, true, true, false, false, false, false, false] rfl rfl (any_of HT_.out (by kernel_rfl)) (fun _ _ _ h => h) (Or.inl ⟨by rfl, ?_⟩) ?_ ?_
    rotate_left
    ·intro w'
     go_simp
     with_reducible rfl
    rotate_left
    ·simp only [Act.put, List.setIfInBounds_toArray, List.set_cons_zero, List.set_cons_succ, i64_w, i32_w]
     rfl
    refine pure_ (i := 18) (N := some 66) (v := ?_) (a' := ?_) #[true, true, true, true, true, true, true, true, true, true, true, true, true, true, true, true, true, true, true, false, false, false, false] rfl rfl (any_of HT_.out (by kernel_rfl)) (fun _ _ _ h => h) (Or.inl ⟨by rfl, ?_⟩) ?_ ?_
    rotate_left
    ·intro w'
     go_simp
     with_reducible rfl
    rotate_left
    ·simp only [Act.put, List.setIfInBounds_toArray, List.set_cons_zero, List.set_cons_succ, i64_w, i32_w]
     rfl
    refine pure_ (i := 19) (N := some 67) (v := ?_) (a' := ?_) #[true, true, true, true, true, true, true, true, true, true, true, true, true, true, true, true, true, true, true, true, false, false, false] rfl rfl (any_of HT_.out (by kernel_rfl)) (fun _ _ _ h => h) (Or.inl ⟨by rfl, ?_⟩) ?_ ?_
    rotate_left
    ·intro w'
     go_simp
     with_reducible rfl
    rotate_left
    ·simp only [Act.put, List.setIfInBounds_toArray, List.set_cons_zero, List.set_cons_succ, i64_w, i32_w]
     rfl
    refine one_ (i := 20) (N := some 68) #[true, true, true, true, true, true, true, true, true, true, true, true, true, true, true, true, true, true, true, true, true, false, false] rfl rfl (one_of HT_.out (by kernel_rfl)) (by decide) (fun K hK => ?_)
    refine goes_ Try.func14 (by kernel_rfl) rfl #[] (by rfl) rfl rfl (by (try simp only [List.map_toArray, List.map_cons, List.map_nil]); first | done | rfl | (simp only [List.length_drop, List.length_take]; rfl)) ?_
    with_reducible refine (awardingbodylaw06_awake.calls k  t183 _ A25.out).mono ?_
    rintro e w43 ⟨rfl, hb⟩
    refine ⟨_, rfl, ?_⟩
    have n0_ := Aside0.mk (blk_below (g := gb165) (o := .cells #[.int .i64 a0, .int .i64 a1, .int .i64 a2, .int .i64 a3, .int .i64 a4, .int .i64 a5] 23 (0, 0)) (by (with_reducible repeat (first | refine blk_drewN ?_ _ | refine blk_drew ?_ | refine blk_alloc ?_ _)); exact BK165.out) hb)
    have n1_ := Aside0.mk (blk_below (g := gb172) (o := .cells #[.int .i64 (wrap64 (1 + t166)), .int .i64 t167, .int .i64 t168, .int .i64 t169, .int .i64 t170, .int .i64 t171] 23 (0, 0)) (by (with_reducible repeat (first | refine blk_drewN ?_ _ | refine blk_drew ?_ | refine blk_alloc ?_ _)); exact BK172.out) hb)
    have n2_ := Aside0.mk (blk_below (g := gb173) (o := .cells #[.int .i64 (wrap64 (1 + t166)), .int .i64 (wrap64 (1 + t174)), .int .i64 t175, .int .i64 t176, .int .i64 t170, .int .i64 t171] 23 (0, 0)) (by (with_reducible repeat (first | refine blk_drewN ?_ _ | refine blk_drew ?_ | refine blk_alloc ?_ _)); exact BK173.out) hb)
    have n3_ := Aside0.mk (below_step (by repeat (first | (with_reducible first | exact HB.out | apply below_alloc | apply pw_below_drewN | apply below_drew1 | refine below_set ?_ GE165.out | refine below_set ?_ GE172.out | refine below_set ?_ GE173.out) | exact HB.out)) hb)
    clear BK165 BK172 BK173 HB
    have BK165 := n0_
    have BK172 := n1_
    have BK173 := n2_
    have HB := n3_
    clear n0_ n1_ n2_ n3_
    (try clear hb)
    (try clear hb2)
    (try clear hk)
    (try clear hi)
    refine hK.out _ _ ⟨(blk_cell BK165.out 0).trans rfl, (blk_cell BK165.out 1).trans rfl, (blk_cell BK165.out 2).trans rfl, (blk_cell BK165.out 3).trans rfl, (blk_cell BK165.out 4).trans rfl, (blk_cell BK165.out 5).trans rfl, (blk_cell BK172.out 0).trans rfl, (blk_cell BK172.out 1).trans rfl, (blk_cell BK172.out 2).trans rfl, (blk_cell BK172.out 3).trans rfl, (blk_cell BK172.out 4).trans rfl, (blk_cell BK172.out 5).trans rfl, (blk_cell BK173.out 0).trans rfl, (blk_cell BK173.out 1).trans rfl, (blk_cell BK173.out 2).trans rfl, (blk_cell BK173.out 3).trans rfl, (blk_cell BK173.out 4).trans rfl, (blk_cell BK173.out 5).trans rfl⟩ (fun hHeld => ?_)
    clear hK K
    refine norm_ (a' := ?_) ?_ ?_
    rotate_left
    ·show Act.put _ (some 68) _ = _
     simp only [Act.put, List.setIfInBounds_toArray, List.set_cons_zero, List.set_cons_succ, i64_w, i32_w]
     rfl
    refine pure_ (i := 21) (N := some 69) (v := ?_) (a' := ?_) #[true, true, true, true, true, true, true, true, true, true, true, true, true, true, true, true, true, true, true, true, true, true, false] rfl rfl (any_of HT_.out (by kernel_rfl)) (fun _ _ _ h => h) (Or.inl ⟨by rfl, ?_⟩) ?_ ?_
    rotate_left
    ·intro w'
     go_simp
     with_reducible rfl
    rotate_left
    ·simp only [Act.put, List.setIfInBounds_toArray, List.set_cons_zero, List.set_cons_succ, i64_w, i32_w]
     rfl
    refine pure_ (i := 22) (N := some 12) (v := ?_) (a' := ?_) #[true, true, true, true, true, true, true, true, true, true, true, true, true, true, true, true, true, true, true, true, true, true, true] rfl rfl (any_of HT_.out (by kernel_rfl)) (fun _ _ _ h => h) (Or.inl ⟨by rfl, ?_⟩) ?_ ?_
    rotate_left
    ·intro w'
     go_simp
     with_reducible rfl
    rotate_left
    ·simp only [Act.put, List.setIfInBounds_toArray, List.set_cons_zero, List.set_cons_succ, i64_w, i32_w]
     rfl
    refine done_ (done_of HT_.out (by kernel_rfl)) ?_
    try go_wp2
    go_ret
    exact ⟨by first | rfl | (simp [errW_none, errW_some] <;> rfl) | (simp [*, errW_none, errW_some] <;> rfl), by repeat (first | (with_reducible first | exact HB.out | apply below_alloc | apply pw_below_drewN | apply below_drew1 | refine below_set ?_ GE165.out | refine below_set ?_ GE172.out | refine below_set ?_ GE173.out) | exact HB.out)⟩
   ·rw [if_neg c24] at H
    have c24b0 : (t181 == t182) = false := by simpa using c24
    (try (have c24b1 : decide (t181 = t182) = false := by simpa using c24))
    (try (have c24b2 : (t181 == t182) = false := by simpa using c24))
    (try (have c24b3 : ¬ (t181 = t182) := by simpa using c24))
    clear c24
    exact absurd H (by simp)
  ·rw [if_neg c21] at H
   have c21b0 : (t179 == t180) = false := by simpa using c21
   (try (have c21b1 : decide (t179 = t180) = false := by simpa using c21))
   (try (have c21b2 : (t179 == t180) = false := by simpa using c21))
   (try (have c21b3 : ¬ (t179 = t180) := by simpa using c21))
   clear c21
   exact absurd H (by simp)
 ·rw [if_neg c18] at H
  have c18b0 : (t177 == t178) = false := by simpa using c18
  (try (have c18b1 : decide (t177 = t178) = false := by simpa using c18))
  (try (have c18b2 : (t177 == t178) = false := by simpa using c18))
  (try (have c18b3 : ¬ (t177 = t178) := by simpa using c18))
  clear c18
  exact absurd H (by simp)

/-- THE ONE PURE STATEMENT of awardingbodylaw06_ItemParts: yours. -/
def awardingbodylaw06_ItemParts.Pure : Prop := ∀ (a0 : Int) (a1 : Int) (a2 : Int) (a3 : Int) (a4 : Int) (a5 : Int), (Lit.int .i64 a0).wf = true → (Lit.int .i64 a1).wf = true → (Lit.int .i64 a2).wf = true → (Lit.int .i64 a3).wf = true → (Lit.int .i64 a4).wf = true → (Lit.int .i64 a5).wf = true → ∃ k, awardingbodylaw06_ItemParts.f k a0 a1 a2 a3 a4 a5 = some true
theorem awardingbodylaw06_ItemParts.walk (P : awardingbodylaw06_ItemParts.Pure) (a0 : Int) (a1 : Int) (a2 : Int) (a3 : Int) (a4 : Int) (a5 : Int) (w : World) (w0 : (Lit.int .i64 a0).wf = true) (w1 : (Lit.int .i64 a1).wf = true) (w2 : (Lit.int .i64 a2).wf = true) (w3 : (Lit.int .i64 a3).wf = true) (w4 : (Lit.int .i64 a4).wf = true) (w5 : (Lit.int .i64 a5).wf = true) :
  Calls Try.prog 3 #[.int .i64 a0, .int .i64 a1, .int .i64 a2, .int .i64 a3, .int .i64 a4, .int .i64 a5] w fun e w' => e = .returned (.bool true) ∧ Below w.heap.size w w' := by
 obtain ⟨k, h⟩ := P a0 a1 a2 a3 a4 a5 w0 w1 w2 w3 w4 w5
 refine (awardingbodylaw06_ItemParts.calls k a0 a1 a2 a3 a4 a5 true w h).mono ?_
 rintro e w' ⟨rfl, hd⟩
 exact ⟨rfl, hd⟩

end Go.Proofs.Ytinmdoemkejanaa.Print
