-- Printed by a program of this session (wip/own_print.py) out of the translation; Lean checks it.
import Derived.Test.YtbgeoadaeihgkaaPrint0
import Derived.Test.YtbgeoadaeihgkaaPrint1
import Derived.Test.YtbgeoadaeihgkaaPrint2
import Derived.Test.YtbgeoadaeihgkaaPrint4
import Derived.Test.YtbgeoadaeihgkaaPrint5
import Derived.Test.YtbgeoadaeihgkaaPrint7
import Derived.Test.YtbgeoadaeihgkaaPrint14
namespace Go.Proofs.Ytbgeoadaeihgkaa.Print
open Go.RowKit Go.Proofs.YtbgeoadaeihgkaaW.PrintWords Go.Proofs.YtbgeoadaeihgkaaW.PrintLast Go.Proofs.YtbgeoadaeihgkaaW.PrintMore
attribute [local go_sem] max2_int min2_int max_two min_two max_three min_three max_four min_four   -- for this text's walks alone
set_option linter.unusedVariables false
set_option linter.unusedSimpArgs false

attribute [local go_sem high] eqA38
/-! ### awardingbodylaw14_AccessJoins: function 10 -/
def awardingbodylaw14_AccessJoins.f (k : Nat) (a0 : Int) (a1 : Int) (a2 : Int) (a3 : Int) : Option (Bool) := (awardingbodymake_Cut.f a0 102).bind fun t452 => ((awardingbodymake_Cut.f a1 65).bind fun t453 => ((awardingbodymake_Cut.f a2 102).bind fun t454 => ((awardingbodymake_Cut.f a3 65).bind fun t455 => ((access_Join.f k a0 a1 a2 a3).bind fun bt458 => ((awardingbodyref14_Join.f a0 a1 a2 a3).bind fun bt460 => (if (bt458.1 == bt460.1 && (bt458.2 == bt460.2)) = true then ((access_Join.f k t452 t453 t454 t455).bind fun bt462 => ((awardingbodyref14_Join.f t452 t453 t454 t455).bind fun bt464 => (if (bt462.1 == bt464.1 && (bt462.2 == bt464.2)) = true then ((access_Imply.f a0 a1).bind fun bt466 => ((awardingbodyref14_Imply.f a0 a1).bind fun bt468 => (if (bt466.1 == bt468.1 && (bt466.2 == bt468.2)) = true then ((access_Imply.f t452 t453).bind fun bt470 => ((awardingbodyref14_Imply.f t452 t453).bind fun bt472 => (if (bt470.1 == bt472.1 && (bt470.2 == bt472.2)) = true then ((awardingbodylaw14_awake.f k).bind fun t474 => (some t474)) else (none)))) else (none)))) else (none)))) else (none)))))))
theorem awardingbodylaw14_AccessJoins.mono : ∀ a0 a1 a2 a3 k, LeO (awardingbodylaw14_AccessJoins.f k a0 a1 a2 a3) (awardingbodylaw14_AccessJoins.f (k + 1) a0 a1 a2 a3) := by
  intro a0 a1 a2 a3 k
  unfold awardingbodylaw14_AccessJoins.f
  repeat' first
      | (with_reducible exact access_Join.mono _ _ _ _ _)
      | (with_reducible exact awardingbodylaw14_awake.mono _)
      | (with_reducible exact LeO.refl _)
      | (with_reducible exact LeO.none _)
      | (with_reducible refine LeO.ite ?_ ?_)
      | (with_reducible refine LeO.bind ?_ (fun _ => ?_))
      | exact access_Join.mono _ _ _ _ _
      | exact awardingbodylaw14_awake.mono _
      | exact LeO.none _
      | refine LeO.ite ?_ ?_
      | refine LeO.bind ?_ (fun _ => ?_)
def awardingbodylaw14_AccessJoins.T3 : Bool × List (List Nat × List Nat) := (true, [([], []), ([], []), ([0, 1], [0, 1]), ([], []), ([], []), ([3, 4, 2], [3, 4]), ([2, 5], [2, 5]), ([6, 5], [6]), ([7], [7]), ([7], [7]), ([8, 9, 7, 7], [7, 8, 9]), ([7], [7]), ([7], [7]), ([11, 12, 10, 7], [7, 11, 12]), ([10, 13, 7], [7, 10, 13]), ([7, 14], [7, 14]), ([15, 13], [15]), ([16], [16]), ([17, 16, 16], [16, 17]), ([16], [16]), ([19, 18, 16], [16, 19]), ([18, 20, 16], [16, 18, 20]), ([16, 21], [16, 21]), ([22, 20], [22]), ([23], [23]), ([24, 23, 23], [23, 24]), ([23], [23]), ([26, 25, 23], [23, 26]), ([25, 27, 23], [23, 25, 27]), ([23, 28], [23, 28]), ([29, 27], [29]), ([30, 30], [30]), ([30, 31], [30, 31]), ([32, 31, 0, 1, 2, 3, 4, 5, 6, 7, 8, 9, 10, 11, 12, 13, 14, 15, 16, 17, 18, 19, 20, 21, 22, 23, 24, 25, 26, 27, 28, 29, 30, 31, 32], [32])])
def awardingbodylaw14_AccessJoins.B3 : List Nat := [0, 0, 3, 0, 0, 31, 63, 127, 255, 255, 1023, 255, 255, 8191, 16383, 32767, 65535, 131071, 262143, 131071, 1048575, 2097151, 4194303, 8388607, 16777215, 33554431, 16777215, 134217727, 268435455, 536870911, 1073741823, 2147483647, 4294967295, 8589934591]
theorem awardingbodylaw14_AccessJoins.tab3 : rtab .any (opsOf Try.f10 3) = awardingbodylaw14_AccessJoins.T3 := by kernel_rfl
theorem awardingbodylaw14_AccessJoins.bits3 : waitsOk awardingbodylaw14_AccessJoins.T3.2 awardingbodylaw14_AccessJoins.B3 = true := by kernel_rfl
set_option maxHeartbeats 8000000 in
set_option maxRecDepth 100000 in
theorem awardingbodylaw14_AccessJoins.calls (k : Nat) (a0 : Int) (a1 : Int) (a2 : Int) (a3 : Int) (r : Bool) (w : World) (h : awardingbodylaw14_AccessJoins.f k a0 a1 a2 a3 = some r) :
    Calls Try.prog 10 #[.int .i64 a0, .int .i64 a1, .int .i64 a2, .int .i64 a3] w fun e w' => e = .returned (.bool r) ∧ Below w.heap.size w w' := by
 have hu38 := Try.underlying38
 have HB := Aside0.mk (Below.refl w.heap.size w)
 have H : ((awardingbodymake_Cut.f a0 102).bind fun t452 => ((awardingbodymake_Cut.f a1 65).bind fun t453 => ((awardingbodymake_Cut.f a2 102).bind fun t454 => ((awardingbodymake_Cut.f a3 65).bind fun t455 => ((access_Join.f k a0 a1 a2 a3).bind fun bt458 => ((awardingbodyref14_Join.f a0 a1 a2 a3).bind fun bt460 => (if (bt458.1 == bt460.1 && (bt458.2 == bt460.2)) = true then ((access_Join.f k t452 t453 t454 t455).bind fun bt462 => ((awardingbodyref14_Join.f t452 t453 t454 t455).bind fun bt464 => (if (bt462.1 == bt464.1 && (bt462.2 == bt464.2)) = true then ((access_Imply.f a0 a1).bind fun bt466 => ((awardingbodyref14_Imply.f a0 a1).bind fun bt468 => (if (bt466.1 == bt468.1 && (bt466.2 == bt468.2)) = true then ((access_Imply.f t452 t453).bind fun bt470 => ((awardingbodyref14_Imply.f t452 t453).bind fun bt472 => (if (bt470.1 == bt472.1 && (bt470.2 == bt472.2)) = true then ((awardingbodylaw14_awake.f k).bind fun t474 => (some t474)) else (none)))) else (none)))) else (none)))) else (none)))))))) = some r := h
 clear h
 replace H := Option.bind_eq_some_iff.mp H
 obtain ⟨t452, A50, H⟩ := H
 replace H : ((awardingbodymake_Cut.f a1 65).bind fun t453 => ((awardingbodymake_Cut.f a2 102).bind fun t454 => ((awardingbodymake_Cut.f a3 65).bind fun t455 => ((access_Join.f k a0 a1 a2 a3).bind fun bt458 => ((awardingbodyref14_Join.f a0 a1 a2 a3).bind fun bt460 => (if (bt458.1 == bt460.1 && (bt458.2 == bt460.2)) = true then ((access_Join.f k t452 t453 t454 t455).bind fun bt462 => ((awardingbodyref14_Join.f t452 t453 t454 t455).bind fun bt464 => (if (bt462.1 == bt464.1 && (bt462.2 == bt464.2)) = true then ((access_Imply.f a0 a1).bind fun bt466 => ((awardingbodyref14_Imply.f a0 a1).bind fun bt468 => (if (bt466.1 == bt468.1 && (bt466.2 == bt468.2)) = true then ((access_Imply.f t452 t453).bind fun bt470 => ((awardingbodyref14_Imply.f t452 t453).bind fun bt472 => (if (bt470.1 == bt472.1 && (bt470.2 == bt472.2)) = true then ((awardingbodylaw14_awake.f k).bind fun t474 => (some t474)) else (none)))) else (none)))) else (none)))) else (none))))))) = some r := H
 have A5 := Aside0.mk A50
 clear A50
 replace H := Option.bind_eq_some_iff.mp H
 obtain ⟨t453, A60, H⟩ := H
 replace H : ((awardingbodymake_Cut.f a2 102).bind fun t454 => ((awardingbodymake_Cut.f a3 65).bind fun t455 => ((access_Join.f k a0 a1 a2 a3).bind fun bt458 => ((awardingbodyref14_Join.f a0 a1 a2 a3).bind fun bt460 => (if (bt458.1 == bt460.1 && (bt458.2 == bt460.2)) = true then ((access_Join.f k t452 t453 t454 t455).bind fun bt462 => ((awardingbodyref14_Join.f t452 t453 t454 t455).bind fun bt464 => (if (bt462.1 == bt464.1 && (bt462.2 == bt464.2)) = true then ((access_Imply.f a0 a1).bind fun bt466 => ((awardingbodyref14_Imply.f a0 a1).bind fun bt468 => (if (bt466.1 == bt468.1 && (bt466.2 == bt468.2)) = true then ((access_Imply.f t452 t453).bind fun bt470 => ((awardingbodyref14_Imply.f t452 t453).bind fun bt472 => (if (bt470.1 == bt472.1 && (bt470.2 == bt472.2)) = true then ((awardingbodylaw14_awake.f k).bind fun t474 => (some t474)) else (none)))) else (none)))) else (none)))) else (none)))))) = some r := H
 have A6 := Aside0.mk A60
 clear A60
 replace H := Option.bind_eq_some_iff.mp H
 obtain ⟨t454, A70, H⟩ := H
 replace H : ((awardingbodymake_Cut.f a3 65).bind fun t455 => ((access_Join.f k a0 a1 a2 a3).bind fun bt458 => ((awardingbodyref14_Join.f a0 a1 a2 a3).bind fun bt460 => (if (bt458.1 == bt460.1 && (bt458.2 == bt460.2)) = true then ((access_Join.f k t452 t453 t454 t455).bind fun bt462 => ((awardingbodyref14_Join.f t452 t453 t454 t455).bind fun bt464 => (if (bt462.1 == bt464.1 && (bt462.2 == bt464.2)) = true then ((access_Imply.f a0 a1).bind fun bt466 => ((awardingbodyref14_Imply.f a0 a1).bind fun bt468 => (if (bt466.1 == bt468.1 && (bt466.2 == bt468.2)) = true then ((access_Imply.f t452 t453).bind fun bt470 => ((awardingbodyref14_Imply.f t452 t453).bind fun bt472 => (if (bt470.1 == bt472.1 && (bt470.2 == bt472.2)) = true then ((awardingbodylaw14_awake.f k).bind fun t474 => (some t474)) else (none)))) else (none)))) else (none)))) else (none))))) = some r := H
 have A7 := Aside0.mk A70
 clear A70
 replace H := Option.bind_eq_some_iff.mp H
 obtain ⟨t455, A80, H⟩ := H
 replace H : ((access_Join.f k a0 a1 a2 a3).bind fun bt458 => ((awardingbodyref14_Join.f a0 a1 a2 a3).bind fun bt460 => (if (bt458.1 == bt460.1 && (bt458.2 == bt460.2)) = true then ((access_Join.f k t452 t453 t454 t455).bind fun bt462 => ((awardingbodyref14_Join.f t452 t453 t454 t455).bind fun bt464 => (if (bt462.1 == bt464.1 && (bt462.2 == bt464.2)) = true then ((access_Imply.f a0 a1).bind fun bt466 => ((awardingbodyref14_Imply.f a0 a1).bind fun bt468 => (if (bt466.1 == bt468.1 && (bt466.2 == bt468.2)) = true then ((access_Imply.f t452 t453).bind fun bt470 => ((awardingbodyref14_Imply.f t452 t453).bind fun bt472 => (if (bt470.1 == bt472.1 && (bt470.2 == bt472.2)) = true then ((awardingbodylaw14_awake.f k).bind fun t474 => (some t474)) else (none)))) else (none)))) else (none)))) else (none)))) = some r := H
 have A8 := Aside0.mk A80
 clear A80
 replace H := Option.bind_eq_some_iff.mp H
 obtain ⟨⟨t458, t459⟩, A90, H⟩ := H
 replace H : ((awardingbodyref14_Join.f a0 a1 a2 a3).bind fun bt460 => (if (t458 == bt460.1 && (t459 == bt460.2)) = true then ((access_Join.f k t452 t453 t454 t455).bind fun bt462 => ((awardingbodyref14_Join.f t452 t453 t454 t455).bind fun bt464 => (if (bt462.1 == bt464.1 && (bt462.2 == bt464.2)) = true then ((access_Imply.f a0 a1).bind fun bt466 => ((awardingbodyref14_Imply.f a0 a1).bind fun bt468 => (if (bt466.1 == bt468.1 && (bt466.2 == bt468.2)) = true then ((access_Imply.f t452 t453).bind fun bt470 => ((awardingbodyref14_Imply.f t452 t453).bind fun bt472 => (if (bt470.1 == bt472.1 && (bt470.2 == bt472.2)) = true then ((awardingbodylaw14_awake.f k).bind fun t474 => (some t474)) else (none)))) else (none)))) else (none)))) else (none))) = some r := H
 have A9 := Aside0.mk A90
 clear A90
 replace H := Option.bind_eq_some_iff.mp H
 obtain ⟨⟨t460, t461⟩, A100, H⟩ := H
 replace H : (if (t458 == t460 && (t459 == t461)) = true then ((access_Join.f k t452 t453 t454 t455).bind fun bt462 => ((awardingbodyref14_Join.f t452 t453 t454 t455).bind fun bt464 => (if (bt462.1 == bt464.1 && (bt462.2 == bt464.2)) = true then ((access_Imply.f a0 a1).bind fun bt466 => ((awardingbodyref14_Imply.f a0 a1).bind fun bt468 => (if (bt466.1 == bt468.1 && (bt466.2 == bt468.2)) = true then ((access_Imply.f t452 t453).bind fun bt470 => ((awardingbodyref14_Imply.f t452 t453).bind fun bt472 => (if (bt470.1 == bt472.1 && (bt470.2 == bt472.2)) = true then ((awardingbodylaw14_awake.f k).bind fun t474 => (some t474)) else (none)))) else (none)))) else (none)))) else (none)) = some r := H
 have A10 := Aside0.mk A100
 clear A100
 by_cases c11 : (t458 == t460 && (t459 == t461)) = true
 ·rw [if_pos c11] at H
  have c11b0 : (t458 == t460 && (t459 == t461)) = true := c11
  (try (have c11b1 : decide (t458 = t460 && (t459 == t461)) = true := by simpa using c11))
  (try (have c11b2 : (t458 == t460 && (t459 == t461)) = true := by simpa using c11))
  clear c11
  replace H := Option.bind_eq_some_iff.mp H
  obtain ⟨⟨t462, t463⟩, A120, H⟩ := H
  replace H : ((awardingbodyref14_Join.f t452 t453 t454 t455).bind fun bt464 => (if (t462 == bt464.1 && (t463 == bt464.2)) = true then ((access_Imply.f a0 a1).bind fun bt466 => ((awardingbodyref14_Imply.f a0 a1).bind fun bt468 => (if (bt466.1 == bt468.1 && (bt466.2 == bt468.2)) = true then ((access_Imply.f t452 t453).bind fun bt470 => ((awardingbodyref14_Imply.f t452 t453).bind fun bt472 => (if (bt470.1 == bt472.1 && (bt470.2 == bt472.2)) = true then ((awardingbodylaw14_awake.f k).bind fun t474 => (some t474)) else (none)))) else (none)))) else (none))) = some r := H
  have A12 := Aside0.mk A120
  clear A120
  replace H := Option.bind_eq_some_iff.mp H
  obtain ⟨⟨t464, t465⟩, A130, H⟩ := H
  replace H : (if (t462 == t464 && (t463 == t465)) = true then ((access_Imply.f a0 a1).bind fun bt466 => ((awardingbodyref14_Imply.f a0 a1).bind fun bt468 => (if (bt466.1 == bt468.1 && (bt466.2 == bt468.2)) = true then ((access_Imply.f t452 t453).bind fun bt470 => ((awardingbodyref14_Imply.f t452 t453).bind fun bt472 => (if (bt470.1 == bt472.1 && (bt470.2 == bt472.2)) = true then ((awardingbodylaw14_awake.f k).bind fun t474 => (some t474)) else (none)))) else (none)))) else (none)) = some r := H
  have A13 := Aside0.mk A130
  clear A130
  by_cases c14 : (t462 == t464 && (t463 == t465)) = true
  ·rw [if_pos c14] at H
   have c14b0 : (t462 == t464 && (t463 == t465)) = true := c14
   (try (have c14b1 : decide (t462 = t464 && (t463 == t465)) = true := by simpa using c14))
   (try (have c14b2 : (t462 == t464 && (t463 == t465)) = true := by simpa using c14))
   clear c14
   replace H := Option.bind_eq_some_iff.mp H
   obtain ⟨⟨t466, t467⟩, A150, H⟩ := H
   replace H : ((awardingbodyref14_Imply.f a0 a1).bind fun bt468 => (if (t466 == bt468.1 && (t467 == bt468.2)) = true then ((access_Imply.f t452 t453).bind fun bt470 => ((awardingbodyref14_Imply.f t452 t453).bind fun bt472 => (if (bt470.1 == bt472.1 && (bt470.2 == bt472.2)) = true then ((awardingbodylaw14_awake.f k).bind fun t474 => (some t474)) else (none)))) else (none))) = some r := H
   have A15 := Aside0.mk A150
   clear A150
   replace H := Option.bind_eq_some_iff.mp H
   obtain ⟨⟨t468, t469⟩, A160, H⟩ := H
   replace H : (if (t466 == t468 && (t467 == t469)) = true then ((access_Imply.f t452 t453).bind fun bt470 => ((awardingbodyref14_Imply.f t452 t453).bind fun bt472 => (if (bt470.1 == bt472.1 && (bt470.2 == bt472.2)) = true then ((awardingbodylaw14_awake.f k).bind fun t474 => (some t474)) else (none)))) else (none)) = some r := H
   have A16 := Aside0.mk A160
   clear A160
   by_cases c17 : (t466 == t468 && (t467 == t469)) = true
   ·rw [if_pos c17] at H
    have c17b0 : (t466 == t468 && (t467 == t469)) = true := c17
    (try (have c17b1 : decide (t466 = t468 && (t467 == t469)) = true := by simpa using c17))
    (try (have c17b2 : (t466 == t468 && (t467 == t469)) = true := by simpa using c17))
    clear c17
    replace H := Option.bind_eq_some_iff.mp H
    obtain ⟨⟨t470, t471⟩, A180, H⟩ := H
    replace H : ((awardingbodyref14_Imply.f t452 t453).bind fun bt472 => (if (t470 == bt472.1 && (t471 == bt472.2)) = true then ((awardingbodylaw14_awake.f k).bind fun t474 => (some t474)) else (none))) = some r := H
    have A18 := Aside0.mk A180
    clear A180
    replace H := Option.bind_eq_some_iff.mp H
    obtain ⟨⟨t472, t473⟩, A190, H⟩ := H
    replace H : (if (t470 == t472 && (t471 == t473)) = true then ((awardingbodylaw14_awake.f k).bind fun t474 => (some t474)) else (none)) = some r := H
    have A19 := Aside0.mk A190
    clear A190
    by_cases c20 : (t470 == t472 && (t471 == t473)) = true
    ·rw [if_pos c20] at H
     have c20b0 : (t470 == t472 && (t471 == t473)) = true := c20
     (try (have c20b1 : decide (t470 = t472 && (t471 == t473)) = true := by simpa using c20))
     (try (have c20b2 : (t470 == t472 && (t471 == t473)) = true := by simpa using c20))
     clear c20
     replace H := Option.bind_eq_some_iff.mp H
     obtain ⟨t474, A210, H⟩ := H
     replace H : (some t474) = some r := H
     have A21 := Aside0.mk A210
     clear A210
     obtain rfl := Option.some.inj H
     go_enter Try.func10, Try.ntmps10
     try go_wp2_with (first | ((with_reducible refine gate_dst (N := 9) rfl ?_); refine box_event ?hg (N := 9) ?hd (cs := #[.int .i64 0, .int .i64 0]) (t := 38) ?hr ?_; (case hd => rfl); (case hg => rfl); (case hr => first | (go_simp; done) | (go_simp; rfl)); intro gb450 hg w22 hbox hb; have n0_ := Aside0.mk (below_step (by repeat (first | (with_reducible first | exact HB.out | apply below_alloc | apply pw_below_drewN | apply below_drew1) | exact HB.out)) hb); have n1_ := Aside0.mk (hbox); have n2_ := Aside0.mk ((by rw [hg]; exact (below_size (by repeat (first | (with_reducible first | exact HB.out | apply below_alloc | apply pw_below_drewN | apply below_drew1) | exact HB.out))) : w.heap.size ≤ gb450)); have n3_ := Aside0.mk ((by rw [hg]; exact (below_size (by repeat (first | (with_reducible first | exact HB.out | apply below_alloc | apply pw_below_drewN | apply below_drew1) | exact HB.out))) : w.heap.size ≤ gb450)); clear HB; have HB := n0_; have BK450 := n1_; have GW450 := n2_; have GE450 := n3_; clear n0_ n1_ n2_ n3_; clear hb hbox hg) | ((with_reducible refine gate_dst (N := 10) rfl ?_); refine box_event ?hg (N := 10) ?hd (cs := #[.int .i64 0, .int .i64 0]) (t := 38) ?hr ?_; (case hd => rfl); (case hg => rfl); (case hr => first | (go_simp; done) | (go_simp; rfl)); intro gb451 hg w23 hbox hb; have n0_ := Aside0.mk (blk_below (g := gb450) (o := .cells #[.int .i64 0, .int .i64 0] 38 (0, 0)) (by (with_reducible repeat (first | refine blk_drewN ?_ _ | refine blk_drew ?_ | refine blk_alloc ?_ _)); exact BK450.out) hb); have n1_ := Aside0.mk (below_step (by repeat (first | (with_reducible first | exact HB.out | apply below_alloc | apply pw_below_drewN | apply below_drew1 | refine below_set ?_ GE450.out) | exact HB.out)) hb); have n2_ := Aside0.mk (hbox); have n3_ := Aside0.mk ((by rw [hg]; exact (below_size (by repeat (first | (with_reducible first | exact HB.out | apply below_alloc | apply pw_below_drewN | apply below_drew1 | refine below_set ?_ GE450.out) | exact HB.out))) : w.heap.size ≤ gb451)); have n4_ := Aside0.mk ((by rw [hg]; exact (below_size (by repeat (first | (with_reducible first | exact HB.out | apply below_alloc | apply pw_below_drewN | apply below_drew1 | refine below_set ?_ GE450.out) | exact HB.out))) : w.heap.size ≤ gb451)); have n5_ := Aside0.mk ((by rw [hg]; exact Nat.ne_of_lt (blk_lt (g := gb450) (o := .cells #[.int .i64 0, .int .i64 0] 38 (0, 0)) (by (with_reducible repeat (first | refine blk_drewN ?_ _ | refine blk_drew ?_ | refine blk_alloc ?_ _)); exact BK450.out)) : gb450 ≠ gb451)); have n6_ := Aside0.mk ((by rw [hg]; exact Nat.ne_of_gt (blk_lt (g := gb450) (o := .cells #[.int .i64 0, .int .i64 0] 38 (0, 0)) (by (with_reducible repeat (first | refine blk_drewN ?_ _ | refine blk_drew ?_ | refine blk_alloc ?_ _)); exact BK450.out)) : gb451 ≠ gb450)); clear BK450; clear HB; have BK450 := n0_; have HB := n1_; have BK451 := n2_; have GW451 := n3_; have GE451 := n4_; have NB450_451 := n5_; have NB451_450 := n6_; clear n0_ n1_ n2_ n3_ n4_ n5_ n6_; clear hb hbox hg; have hnb24 := NB450_451.out; have hnc24 := NB451_450.out; have hcz25_0 : w23.cell? ⟨gb450, 0, none⟩ = some (.int .i64 0) := (blk_cell BK450.out 0).trans rfl; have hcz25_1 : w23.cell? ⟨gb450, 1, none⟩ = some (.int .i64 0) := (blk_cell BK450.out 1).trans rfl; have hfz25_0 := blk_frozen BK450.out 0; have hfz25_1 := blk_frozen BK450.out 1; have hcz26_0 : w23.cell? ⟨gb451, 0, none⟩ = some (.int .i64 0) := (blk_cell BK451.out 0).trans rfl; have hcz26_1 : w23.cell? ⟨gb451, 1, none⟩ = some (.int .i64 0) := (blk_cell BK451.out 1).trans rfl; have hfz26_0 := blk_frozen BK451.out 0; have hfz26_1 := blk_frozen BK451.out 1) | ((with_reducible refine gate_callee (f := 17) rfl ?_); refine goesL_ (some 20) rfl rfl Try.func17 (by kernel_rfl) rfl #[.int .i64 a0, .int .i64 102] rfl (by (try simp only [List.map_toArray, List.map_cons, List.map_nil]); first | done | rfl | (simp only [List.length_drop, List.length_take]; rfl)) ?_; (with_reducible refine (awardingbodymake_Cut.calls a0 102 t452 _ A5.out).mono ?_); rintro e w' ⟨rfl, ⟨nd, rfl⟩⟩; refine ⟨_, rfl, ?_⟩) | ((with_reducible refine gate_callee (f := 17) rfl ?_); refine goesL_ (some 22) rfl rfl Try.func17 (by kernel_rfl) rfl #[.int .i64 a1, .int .i64 65] rfl (by (try simp only [List.map_toArray, List.map_cons, List.map_nil]); first | done | rfl | (simp only [List.length_drop, List.length_take]; rfl)) ?_; (with_reducible refine (awardingbodymake_Cut.calls a1 65 t453 _ A6.out).mono ?_); rintro e w' ⟨rfl, ⟨nd, rfl⟩⟩; refine ⟨_, rfl, ?_⟩) | ((with_reducible refine gate_callee (f := 17) rfl ?_); refine goesL_ (some 25) rfl rfl Try.func17 (by kernel_rfl) rfl #[.int .i64 a2, .int .i64 102] rfl (by (try simp only [List.map_toArray, List.map_cons, List.map_nil]); first | done | rfl | (simp only [List.length_drop, List.length_take]; rfl)) ?_; (with_reducible refine (awardingbodymake_Cut.calls a2 102 t454 _ A7.out).mono ?_); rintro e w' ⟨rfl, ⟨nd, rfl⟩⟩; refine ⟨_, rfl, ?_⟩) | ((with_reducible refine gate_callee (f := 17) rfl ?_); refine goesL_ (some 27) rfl rfl Try.func17 (by kernel_rfl) rfl #[.int .i64 a3, .int .i64 65] rfl (by (try simp only [List.map_toArray, List.map_cons, List.map_nil]); first | done | rfl | (simp only [List.length_drop, List.length_take]; rfl)) ?_; (with_reducible refine (awardingbodymake_Cut.calls a3 65 t455 _ A8.out).mono ?_); rintro e w' ⟨rfl, ⟨nd, rfl⟩⟩; refine ⟨_, rfl, ?_⟩) | ((with_reducible refine gate_dst (N := 11) rfl ?_); refine box_event ?hg (N := 11) ?hd (cs := #[.int .i64 0, .int .i64 0]) (t := 38) ?hr ?_; (case hd => rfl); (case hg => rfl); (case hr => first | (go_simp; done) | (go_simp; rfl)); intro gb456 hg w27 hbox hb; have n0_ := Aside0.mk (blk_below (g := gb450) (o := .cells #[.int .i64 a0, .int .i64 a1] 38 (0, 0)) (by (with_reducible repeat (first | refine blk_drewN ?_ _ | refine blk_drew ?_ | refine blk_alloc ?_ _)); refine blk_far ?_ NB450_451.out _; (with_reducible repeat (first | refine blk_drewN ?_ _ | refine blk_drew ?_ | refine blk_alloc ?_ _)); refine blk_far ?_ NB450_451.out _; (with_reducible repeat (first | refine blk_drewN ?_ _ | refine blk_drew ?_ | refine blk_alloc ?_ _)); refine blk_put (cs := #[.int .i64 a0, .int .i64 0]) ?_ 1 _ rfl; (with_reducible repeat (first | refine blk_drewN ?_ _ | refine blk_drew ?_ | refine blk_alloc ?_ _)); refine blk_put (cs := #[.int .i64 0, .int .i64 0]) ?_ 0 _ rfl; (with_reducible repeat (first | refine blk_drewN ?_ _ | refine blk_drew ?_ | refine blk_alloc ?_ _)); exact BK450.out) hb); have n1_ := Aside0.mk (blk_below (g := gb451) (o := .cells #[.int .i64 a2, .int .i64 a3] 38 (0, 0)) (by (with_reducible repeat (first | refine blk_drewN ?_ _ | refine blk_drew ?_ | refine blk_alloc ?_ _)); refine blk_put (cs := #[.int .i64 a2, .int .i64 0]) ?_ 1 _ rfl; (with_reducible repeat (first | refine blk_drewN ?_ _ | refine blk_drew ?_ | refine blk_alloc ?_ _)); refine blk_put (cs := #[.int .i64 0, .int .i64 0]) ?_ 0 _ rfl; (with_reducible repeat (first | refine blk_drewN ?_ _ | refine blk_drew ?_ | refine blk_alloc ?_ _)); refine blk_far ?_ NB451_450.out _; (with_reducible repeat (first | refine blk_drewN ?_ _ | refine blk_drew ?_ | refine blk_alloc ?_ _)); refine blk_far ?_ NB451_450.out _; (with_reducible repeat (first | refine blk_drewN ?_ _ | refine blk_drew ?_ | refine blk_alloc ?_ _)); exact BK451.out) hb); have n2_ := Aside0.mk (below_step (by repeat (first | (with_reducible first | exact HB.out | apply below_alloc | apply pw_below_drewN | apply below_drew1 | refine below_set ?_ GE450.out | refine below_set ?_ GE451.out) | exact HB.out)) hb); have n3_ := Aside0.mk (hbox); have n4_ := Aside0.mk ((by rw [hg]; exact (below_size (by repeat (first | (with_reducible first | exact HB.out | apply below_alloc | apply pw_below_drewN | apply below_drew1 | refine below_set ?_ GE450.out | refine below_set ?_ GE451.out) | exact HB.out))) : w.heap.size ≤ gb456)); have n5_ := Aside0.mk ((by rw [hg]; exact (below_size (by repeat (first | (with_reducible first | exact HB.out | apply below_alloc | apply pw_below_drewN | apply below_drew1 | refine below_set ?_ GE450.out | refine below_set ?_ GE451.out) | exact HB.out))) : w.heap.size ≤ gb456)); have n6_ := Aside0.mk ((by rw [hg]; exact Nat.ne_of_lt (blk_lt (g := gb450) (o := .cells #[.int .i64 a0, .int .i64 a1] 38 (0, 0)) (by (with_reducible repeat (first | refine blk_drewN ?_ _ | refine blk_drew ?_ | refine blk_alloc ?_ _)); refine blk_far ?_ NB450_451.out _; (with_reducible repeat (first | refine blk_drewN ?_ _ | refine blk_drew ?_ | refine blk_alloc ?_ _)); refine blk_far ?_ NB450_451.out _; (with_reducible repeat (first | refine blk_drewN ?_ _ | refine blk_drew ?_ | refine blk_alloc ?_ _)); refine blk_put (cs := #[.int .i64 a0, .int .i64 0]) ?_ 1 _ rfl; (with_reducible repeat (first | refine blk_drewN ?_ _ | refine blk_drew ?_ | refine blk_alloc ?_ _)); refine blk_put (cs := #[.int .i64 0, .int .i64 0]) ?_ 0 _ rfl; (with_reducible repeat (first | refine blk_drewN ?_ _ | refine blk_drew ?_ | refine blk_alloc ?_ _)); exact BK450.out)) : gb450 ≠ gb456)); have n7_ := Aside0.mk ((by rw [hg]; exact Nat.ne_of_gt (blk_lt (g := gb450) (o := .cells #[.int .i64 a0, .int .i64 a1] 38 (0, 0)) (by (with_reducible repeat (first | refine blk_drewN ?_ _ | refine blk_drew ?_ | refine blk_alloc ?_ _)); refine blk_far ?_ NB450_451.out _; (with_reducible repeat (first | refine blk_drewN ?_ _ | refine blk_drew ?_ | refine blk_alloc ?_ _)); refine blk_far ?_ NB450_451.out _; (with_reducible repeat (first | refine blk_drewN ?_ _ | refine blk_drew ?_ | refine blk_alloc ?_ _)); refine blk_put (cs := #[.int .i64 a0, .int .i64 0]) ?_ 1 _ rfl; (with_reducible repeat (first | refine blk_drewN ?_ _ | refine blk_drew ?_ | refine blk_alloc ?_ _)); refine blk_put (cs := #[.int .i64 0, .int .i64 0]) ?_ 0 _ rfl; (with_reducible repeat (first | refine blk_drewN ?_ _ | refine blk_drew ?_ | refine blk_alloc ?_ _)); exact BK450.out)) : gb456 ≠ gb450)); have n8_ := Aside0.mk ((by rw [hg]; exact Nat.ne_of_lt (blk_lt (g := gb451) (o := .cells #[.int .i64 a2, .int .i64 a3] 38 (0, 0)) (by (with_reducible repeat (first | refine blk_drewN ?_ _ | refine blk_drew ?_ | refine blk_alloc ?_ _)); refine blk_put (cs := #[.int .i64 a2, .int .i64 0]) ?_ 1 _ rfl; (with_reducible repeat (first | refine blk_drewN ?_ _ | refine blk_drew ?_ | refine blk_alloc ?_ _)); refine blk_put (cs := #[.int .i64 0, .int .i64 0]) ?_ 0 _ rfl; (with_reducible repeat (first | refine blk_drewN ?_ _ | refine blk_drew ?_ | refine blk_alloc ?_ _)); refine blk_far ?_ NB451_450.out _; (with_reducible repeat (first | refine blk_drewN ?_ _ | refine blk_drew ?_ | refine blk_alloc ?_ _)); refine blk_far ?_ NB451_450.out _; (with_reducible repeat (first | refine blk_drewN ?_ _ | refine blk_drew ?_ | refine blk_alloc ?_ _)); exact BK451.out)) : gb451 ≠ gb456)); have n9_ := Aside0.mk ((by rw [hg]; exact Nat.ne_of_gt (blk_lt (g := gb451) (o := .cells #[.int .i64 a2, .int .i64 a3] 38 (0, 0)) (by (with_reducible repeat (first | refine blk_drewN ?_ _ | refine blk_drew ?_ | refine blk_alloc ?_ _)); refine blk_put (cs := #[.int .i64 a2, .int .i64 0]) ?_ 1 _ rfl; (with_reducible repeat (first | refine blk_drewN ?_ _ | refine blk_drew ?_ | refine blk_alloc ?_ _)); refine blk_put (cs := #[.int .i64 0, .int .i64 0]) ?_ 0 _ rfl; (with_reducible repeat (first | refine blk_drewN ?_ _ | refine blk_drew ?_ | refine blk_alloc ?_ _)); refine blk_far ?_ NB451_450.out _; (with_reducible repeat (first | refine blk_drewN ?_ _ | refine blk_drew ?_ | refine blk_alloc ?_ _)); refine blk_far ?_ NB451_450.out _; (with_reducible repeat (first | refine blk_drewN ?_ _ | refine blk_drew ?_ | refine blk_alloc ?_ _)); exact BK451.out)) : gb456 ≠ gb451)); clear BK450; clear BK451; clear HB; have BK450 := n0_; have BK451 := n1_; have HB := n2_; have BK456 := n3_; have GW456 := n4_; have GE456 := n5_; have NB450_456 := n6_; have NB456_450 := n7_; have NB451_456 := n8_; have NB456_451 := n9_; clear n0_ n1_ n2_ n3_ n4_ n5_ n6_ n7_ n8_ n9_; clear hb hbox hg) | ((with_reducible refine gate_dst (N := 12) rfl ?_); refine box_event ?hg (N := 12) ?hd (cs := #[.int .i64 0, .int .i64 0]) (t := 38) ?hr ?_; (case hd => rfl); (case hg => rfl); (case hr => first | (go_simp; done) | (go_simp; rfl)); intro gb457 hg w28 hbox hb; have n0_ := Aside0.mk (blk_below (g := gb450) (o := .cells #[.int .i64 a0, .int .i64 a1] 38 (0, 0)) (by (with_reducible repeat (first | refine blk_drewN ?_ _ | refine blk_drew ?_ | refine blk_alloc ?_ _)); exact BK450.out) hb); have n1_ := Aside0.mk (blk_below (g := gb451) (o := .cells #[.int .i64 a2, .int .i64 a3] 38 (0, 0)) (by (with_reducible repeat (first | refine blk_drewN ?_ _ | refine blk_drew ?_ | refine blk_alloc ?_ _)); exact BK451.out) hb); have n2_ := Aside0.mk (blk_below (g := gb456) (o := .cells #[.int .i64 0, .int .i64 0] 38 (0, 0)) (by (with_reducible repeat (first | refine blk_drewN ?_ _ | refine blk_drew ?_ | refine blk_alloc ?_ _)); exact BK456.out) hb); have n3_ := Aside0.mk (below_step (by repeat (first | (with_reducible first | exact HB.out | apply below_alloc | apply pw_below_drewN | apply below_drew1 | refine below_set ?_ GE450.out | refine below_set ?_ GE451.out | refine below_set ?_ GE456.out) | exact HB.out)) hb); have n4_ := Aside0.mk (hbox); have n5_ := Aside0.mk ((by rw [hg]; exact (below_size (by repeat (first | (with_reducible first | exact HB.out | apply below_alloc | apply pw_below_drewN | apply below_drew1 | refine below_set ?_ GE450.out | refine below_set ?_ GE451.out | refine below_set ?_ GE456.out) | exact HB.out))) : w.heap.size ≤ gb457)); have n6_ := Aside0.mk ((by rw [hg]; exact (below_size (by repeat (first | (with_reducible first | exact HB.out | apply below_alloc | apply pw_below_drewN | apply below_drew1 | refine below_set ?_ GE450.out | refine below_set ?_ GE451.out | refine below_set ?_ GE456.out) | exact HB.out))) : w.heap.size ≤ gb457)); have n7_ := Aside0.mk ((by rw [hg]; exact Nat.ne_of_lt (blk_lt (g := gb450) (o := .cells #[.int .i64 a0, .int .i64 a1] 38 (0, 0)) (by (with_reducible repeat (first | refine blk_drewN ?_ _ | refine blk_drew ?_ | refine blk_alloc ?_ _)); exact BK450.out)) : gb450 ≠ gb457)); have n8_ := Aside0.mk ((by rw [hg]; exact Nat.ne_of_gt (blk_lt (g := gb450) (o := .cells #[.int .i64 a0, .int .i64 a1] 38 (0, 0)) (by (with_reducible repeat (first | refine blk_drewN ?_ _ | refine blk_drew ?_ | refine blk_alloc ?_ _)); exact BK450.out)) : gb457 ≠ gb450)); have n9_ := Aside0.mk ((by rw [hg]; exact Nat.ne_of_lt (blk_lt (g := gb451) (o := .cells #[.int .i64 a2, .int .i64 a3] 38 (0, 0)) (by (with_reducible repeat (first | refine blk_drewN ?_ _ | refine blk_drew ?_ | refine blk_alloc ?_ _)); exact BK451.out)) : gb451 ≠ gb457)); have n10_ := Aside0.mk ((by rw [hg]; exact Nat.ne_of_gt (blk_lt (g := gb451) (o := .cells #[.int .i64 a2, .int .i64 a3] 38 (0, 0)) (by (with_reducible repeat (first | refine blk_drewN ?_ _ | refine blk_drew ?_ | refine blk_alloc ?_ _)); exact BK451.out)) : gb457 ≠ gb451)); have n11_ := Aside0.mk ((by rw [hg]; exact Nat.ne_of_lt (blk_lt (g := gb456) (o := .cells #[.int .i64 0, .int .i64 0] 38 (0, 0)) (by (with_reducible repeat (first | refine blk_drewN ?_ _ | refine blk_drew ?_ | refine blk_alloc ?_ _)); exact BK456.out)) : gb456 ≠ gb457)); have n12_ := Aside0.mk ((by rw [hg]; exact Nat.ne_of_gt (blk_lt (g := gb456) (o := .cells #[.int .i64 0, .int .i64 0] 38 (0, 0)) (by (with_reducible repeat (first | refine blk_drewN ?_ _ | refine blk_drew ?_ | refine blk_alloc ?_ _)); exact BK456.out)) : gb457 ≠ gb456)); clear BK450; clear BK451; clear BK456; clear HB; have BK450 := n0_; have BK451 := n1_; have BK456 := n2_; have HB := n3_; have BK457 := n4_; have GW457 := n5_; have GE457 := n6_; have NB450_457 := n7_; have NB457_450 := n8_; have NB451_457 := n9_; have NB457_451 := n10_; have NB456_457 := n11_; have NB457_456 := n12_; clear n0_ n1_ n2_ n3_ n4_ n5_ n6_ n7_ n8_ n9_ n10_ n11_ n12_; clear hb hbox hg; have hnb29 := NB456_450.out; have hnc29 := NB450_456.out; have hnb30 := NB456_451.out; have hnc30 := NB451_456.out; have hnb31 := NB456_457.out; have hnc31 := NB457_456.out; have hcz32_0 : w28.cell? ⟨gb456, 0, none⟩ = some (.int .i64 0) := (blk_cell BK456.out 0).trans rfl; have hcz32_1 : w28.cell? ⟨gb456, 1, none⟩ = some (.int .i64 0) := (blk_cell BK456.out 1).trans rfl; have hfz32_0 := blk_frozen BK456.out 0; have hfz32_1 := blk_frozen BK456.out 1; have hnb33 := NB457_450.out; have hnc33 := NB450_457.out; have hnb34 := NB457_451.out; have hnc34 := NB451_457.out; have hcz35_0 : w28.cell? ⟨gb457, 0, none⟩ = some (.int .i64 0) := (blk_cell BK457.out 0).trans rfl; have hcz35_1 : w28.cell? ⟨gb457, 1, none⟩ = some (.int .i64 0) := (blk_cell BK457.out 1).trans rfl; have hfz35_0 := blk_frozen BK457.out 0; have hfz35_1 := blk_frozen BK457.out 1))
     have n0_ : Aside0 (((((w28.setCell ⟨gb456, 0, none⟩ (.int .i64 t452)).setCell ⟨gb456, 1, none⟩ (.int .i64 t453)).setCell ⟨gb457, 0, none⟩ (.int .i64 t454)).setCell ⟨gb457, 1, none⟩ (.int .i64 t455)).heap[gb450]? = some (.cells #[.int .i64 a0, .int .i64 a1] 38 (0, 0))) := ⟨by (with_reducible repeat (first | refine blk_drewN ?_ _ | refine blk_drew ?_ | refine blk_alloc ?_ _)); refine blk_far ?_ NB450_457.out _; (with_reducible repeat (first | refine blk_drewN ?_ _ | refine blk_drew ?_ | refine blk_alloc ?_ _)); refine blk_far ?_ NB450_457.out _; (with_reducible repeat (first | refine blk_drewN ?_ _ | refine blk_drew ?_ | refine blk_alloc ?_ _)); refine blk_far ?_ NB450_456.out _; (with_reducible repeat (first | refine blk_drewN ?_ _ | refine blk_drew ?_ | refine blk_alloc ?_ _)); refine blk_far ?_ NB450_456.out _; (with_reducible repeat (first | refine blk_drewN ?_ _ | refine blk_drew ?_ | refine blk_alloc ?_ _)); exact BK450.out⟩
     have n1_ : Aside0 (((((w28.setCell ⟨gb456, 0, none⟩ (.int .i64 t452)).setCell ⟨gb456, 1, none⟩ (.int .i64 t453)).setCell ⟨gb457, 0, none⟩ (.int .i64 t454)).setCell ⟨gb457, 1, none⟩ (.int .i64 t455)).heap[gb451]? = some (.cells #[.int .i64 a2, .int .i64 a3] 38 (0, 0))) := ⟨by (with_reducible repeat (first | refine blk_drewN ?_ _ | refine blk_drew ?_ | refine blk_alloc ?_ _)); refine blk_far ?_ NB451_457.out _; (with_reducible repeat (first | refine blk_drewN ?_ _ | refine blk_drew ?_ | refine blk_alloc ?_ _)); refine blk_far ?_ NB451_457.out _; (with_reducible repeat (first | refine blk_drewN ?_ _ | refine blk_drew ?_ | refine blk_alloc ?_ _)); refine blk_far ?_ NB451_456.out _; (with_reducible repeat (first | refine blk_drewN ?_ _ | refine blk_drew ?_ | refine blk_alloc ?_ _)); refine blk_far ?_ NB451_456.out _; (with_reducible repeat (first | refine blk_drewN ?_ _ | refine blk_drew ?_ | refine blk_alloc ?_ _)); exact BK451.out⟩
     have n2_ : Aside0 (((((w28.setCell ⟨gb456, 0, none⟩ (.int .i64 t452)).setCell ⟨gb456, 1, none⟩ (.int .i64 t453)).setCell ⟨gb457, 0, none⟩ (.int .i64 t454)).setCell ⟨gb457, 1, none⟩ (.int .i64 t455)).heap[gb456]? = some (.cells #[.int .i64 t452, .int .i64 t453] 38 (0, 0))) := ⟨by (with_reducible repeat (first | refine blk_drewN ?_ _ | refine blk_drew ?_ | refine blk_alloc ?_ _)); refine blk_far ?_ NB456_457.out _; (with_reducible repeat (first | refine blk_drewN ?_ _ | refine blk_drew ?_ | refine blk_alloc ?_ _)); refine blk_far ?_ NB456_457.out _; (with_reducible repeat (first | refine blk_drewN ?_ _ | refine blk_drew ?_ | refine blk_alloc ?_ _)); refine blk_put (cs := #[.int .i64 t452, .int .i64 0]) ?_ 1 _ rfl; (with_reducible repeat (first | refine blk_drewN ?_ _ | refine blk_drew ?_ | refine blk_alloc ?_ _)); refine blk_put (cs := #[.int .i64 0, .int .i64 0]) ?_ 0 _ rfl; (with_reducible repeat (first | refine blk_drewN ?_ _ | refine blk_drew ?_ | refine blk_alloc ?_ _)); exact BK456.out⟩
     have n3_ : Aside0 (((((w28.setCell ⟨gb456, 0, none⟩ (.int .i64 t452)).setCell ⟨gb456, 1, none⟩ (.int .i64 t453)).setCell ⟨gb457, 0, none⟩ (.int .i64 t454)).setCell ⟨gb457, 1, none⟩ (.int .i64 t455)).heap[gb457]? = some (.cells #[.int .i64 t454, .int .i64 t455] 38 (0, 0))) := ⟨by (with_reducible repeat (first | refine blk_drewN ?_ _ | refine blk_drew ?_ | refine blk_alloc ?_ _)); refine blk_put (cs := #[.int .i64 t454, .int .i64 0]) ?_ 1 _ rfl; (with_reducible repeat (first | refine blk_drewN ?_ _ | refine blk_drew ?_ | refine blk_alloc ?_ _)); refine blk_put (cs := #[.int .i64 0, .int .i64 0]) ?_ 0 _ rfl; (with_reducible repeat (first | refine blk_drewN ?_ _ | refine blk_drew ?_ | refine blk_alloc ?_ _)); refine blk_far ?_ NB457_456.out _; (with_reducible repeat (first | refine blk_drewN ?_ _ | refine blk_drew ?_ | refine blk_alloc ?_ _)); refine blk_far ?_ NB457_456.out _; (with_reducible repeat (first | refine blk_drewN ?_ _ | refine blk_drew ?_ | refine blk_alloc ?_ _)); exact BK457.out⟩
     have n4_ : Aside0 (Below w.heap.size w ((((w28.setCell ⟨gb456, 0, none⟩ (.int .i64 t452)).setCell ⟨gb456, 1, none⟩ (.int .i64 t453)).setCell ⟨gb457, 0, none⟩ (.int .i64 t454)).setCell ⟨gb457, 1, none⟩ (.int .i64 t455))) := ⟨by repeat (first | (with_reducible first | exact HB.out | apply below_alloc | apply pw_below_drewN | apply below_drew1 | refine below_set ?_ GE450.out | refine below_set ?_ GE451.out | refine below_set ?_ GE456.out | refine below_set ?_ GE457.out) | exact HB.out)⟩
     (try clear BK450)
     (try clear BK451)
     (try clear BK456)
     (try clear BK457)
     (try clear HB)
     generalize ((((w28.setCell ⟨gb456, 0, none⟩ (.int .i64 t452)).setCell ⟨gb456, 1, none⟩ (.int .i64 t453)).setCell ⟨gb457, 0, none⟩ (.int .i64 t454)).setCell ⟨gb457, 1, none⟩ (.int .i64 t455)) = w36 at n0_ n1_ n2_ n3_ n4_ ⊢
     have BK450 := n0_
     have BK451 := n1_
     have BK456 := n2_
     have BK457 := n3_
     have HB := n4_
     clear n0_ n1_ n2_ n3_ n4_
     have n0_ := Aside0.mk (blk_drew BK450.out)
     have n1_ := Aside0.mk (blk_drew BK451.out)
     have n2_ := Aside0.mk (blk_drew BK456.out)
     have n3_ := Aside0.mk (blk_drew BK457.out)
     have n4_ := Aside0.mk (below_drew1 HB.out)
     clear BK450
     clear BK451
     clear BK456
     clear BK457
     clear HB
     have BK450 := n0_
     have BK451 := n1_
     have BK456 := n2_
     have BK457 := n3_
     have HB := n4_
     clear n0_ n1_ n2_ n3_ n4_
     refine start_ (n := 34) (S := fun w' => w'.cell? ⟨gb450, 0, none⟩ = some (.int .i64 a0) ∧ w'.cell? ⟨gb450, 1, none⟩ = some (.int .i64 a1) ∧ w'.cell? ⟨gb451, 0, none⟩ = some (.int .i64 a2) ∧ w'.cell? ⟨gb451, 1, none⟩ = some (.int .i64 a3) ∧ w'.cell? ⟨gb456, 0, none⟩ = some (.int .i64 t452) ∧ w'.cell? ⟨gb456, 1, none⟩ = some (.int .i64 t453) ∧ w'.cell? ⟨gb457, 0, none⟩ = some (.int .i64 t454) ∧ w'.cell? ⟨gb457, 1, none⟩ = some (.int .i64 t455)) (ds := []) #[false, false, false, false, false, false, false, false, false, false, false, false, false, false, false, false, false, false, false, false, false, false, false, false, false, false, false, false, false, false, false, false, false, false] (by kernel_rfl) rfl rfl ⟨(blk_cell BK450.out 0).trans rfl, (blk_cell BK450.out 1).trans rfl, (blk_cell BK451.out 0).trans rfl, (blk_cell BK451.out 1).trans rfl, (blk_cell BK456.out 0).trans rfl, (blk_cell BK456.out 1).trans rfl, (blk_cell BK457.out 0).trans rfl, (blk_cell BK457.out 1).trans rfl⟩ (fun hHeld => ?_); refine with_tabW awardingbodylaw14_AccessJoins.tab3 awardingbodylaw14_AccessJoins.bits3 (fun HT_ HW_ => ?_)
     generalize w36.drew = w37 at BK450 BK451 BK456 BK457 HB hHeld ⊢
     refine take_ (i := 0) (N := some 29) (v := ?_) (a' := ?_) #[true, false, false, false, false, false, false, false, false, false, false, false, false, false, false, false, false, false, false, false, false, false, false, false, false, false, false, false, false, false, false, false, false, false] rfl rfl (take_ofW HT_.out HW_.out (by kernel_rfl)) (fun _ _ _ h => h) (Or.inl ⟨by rfl, ?_⟩) hHeld ?_ ?_
     rotate_left
     ·rintro w' ⟨s0, s1, s2, s3, s4, s5, s6, s7⟩
      go_simp
      with_reducible rfl
     rotate_left
     ·simp only [Act.put, List.setIfInBounds_toArray, List.set_cons_zero, List.set_cons_succ, i64_w, i32_w]
      rfl
     refine take_ (i := 1) (N := some 30) (v := ?_) (a' := ?_) #[true, true, false, false, false, false, false, false, false, false, false, false, false, false, false, false, false, false, false, false, false, false, false, false, false, false, false, false, false, false, false, false, false, false] rfl rfl (take_ofW HT_.out HW_.out (by kernel_rfl)) (fun _ _ _ h => h) (Or.inl ⟨by rfl, ?_⟩) hHeld ?_ ?_
     rotate_left
     ·rintro w' ⟨s0, s1, s2, s3, s4, s5, s6, s7⟩
      go_simp
      with_reducible rfl
     rotate_left
     ·simp only [Act.put, List.setIfInBounds_toArray, List.set_cons_zero, List.set_cons_succ, i64_w, i32_w]
      rfl
     refine take_ (i := 3) (N := some 32) (v := ?_) (a' := ?_) #[true, true, false, true, false, false, false, false, false, false, false, false, false, false, false, false, false, false, false, false, false, false, false, false, false, false, false, false, false, false, false, false, false, false] rfl rfl (take_ofW HT_.out HW_.out (by kernel_rfl)) (fun _ _ _ h => h) (Or.inl ⟨by rfl, ?_⟩) hHeld ?_ ?_
     rotate_left
     ·rintro w' ⟨s0, s1, s2, s3, s4, s5, s6, s7⟩
      go_simp
      with_reducible rfl
     rotate_left
     ·simp only [Act.put, List.setIfInBounds_toArray, List.set_cons_zero, List.set_cons_succ, i64_w, i32_w]
      rfl
     refine take_ (i := 4) (N := some 33) (v := ?_) (a' := ?_) #[true, true, false, true, true, false, false, false, false, false, false, false, false, false, false, false, false, false, false, false, false, false, false, false, false, false, false, false, false, false, false, false, false, false] rfl rfl (take_ofW HT_.out HW_.out (by kernel_rfl)) (fun _ _ _ h => h) (Or.inl ⟨by rfl, ?_⟩) hHeld ?_ ?_
     rotate_left
     ·rintro w' ⟨s0, s1, s2, s3, s4, s5, s6, s7⟩
      go_simp
      with_reducible rfl
     rotate_left
     ·simp only [Act.put, List.setIfInBounds_toArray, List.set_cons_zero, List.set_cons_succ, i64_w, i32_w]
      rfl
     refine one_ (i := 2) (N := some 31) #[true, true, true, true, true, false, false, false, false, false, false, false, false, false, false, false, false, false, false, false, false, false, false, false, false, false, false, false, false, false, false, false, false, false] rfl rfl (one_of HT_.out (by kernel_rfl)) (by decide) (fun K hK => ?_)
     refine goes_ Try.func30 (by kernel_rfl) rfl #[.agg #[.int .i64 a0, .int .i64 a1], .agg #[.int .i64 a2, .int .i64 a3]] (by rfl) rfl rfl (by (try simp only [List.map_toArray, List.map_cons, List.map_nil]); first | done | rfl | (simp only [List.length_drop, List.length_take]; rfl)) ?_
     with_reducible refine (access_Join.calls k a0 a1 a2 a3 t458 t459 _ A9.out).mono ?_
     rintro e w38 ⟨rfl, hb⟩
     refine ⟨_, rfl, ?_⟩
     have n0_ := Aside0.mk (blk_below (g := gb450) (o := .cells #[.int .i64 a0, .int .i64 a1] 38 (0, 0)) (by (with_reducible repeat (first | refine blk_drewN ?_ _ | refine blk_drew ?_ | refine blk_alloc ?_ _)); exact BK450.out) hb)
     have n1_ := Aside0.mk (blk_below (g := gb451) (o := .cells #[.int .i64 a2, .int .i64 a3] 38 (0, 0)) (by (with_reducible repeat (first | refine blk_drewN ?_ _ | refine blk_drew ?_ | refine blk_alloc ?_ _)); exact BK451.out) hb)
     have n2_ := Aside0.mk (blk_below (g := gb456) (o := .cells #[.int .i64 t452, .int .i64 t453] 38 (0, 0)) (by (with_reducible repeat (first | refine blk_drewN ?_ _ | refine blk_drew ?_ | refine blk_alloc ?_ _)); exact BK456.out) hb)
     have n3_ := Aside0.mk (blk_below (g := gb457) (o := .cells #[.int .i64 t454, .int .i64 t455] 38 (0, 0)) (by (with_reducible repeat (first | refine blk_drewN ?_ _ | refine blk_drew ?_ | refine blk_alloc ?_ _)); exact BK457.out) hb)
     have n4_ := Aside0.mk (below_step (by repeat (first | (with_reducible first | exact HB.out | apply below_alloc | apply pw_below_drewN | apply below_drew1 | refine below_set ?_ GE450.out | refine below_set ?_ GE451.out | refine below_set ?_ GE456.out | refine below_set ?_ GE457.out) | exact HB.out)) hb)
     clear BK450
     clear BK451
     clear BK456
     clear BK457
     clear HB
     have BK450 := n0_
     have BK451 := n1_
     have BK456 := n2_
     have BK457 := n3_
     have HB := n4_
     clear n0_ n1_ n2_ n3_ n4_
     (try clear hb)
     (try clear hb2)
     (try clear hk)
     (try clear hi)
     refine hK.out _ _ ⟨(blk_cell BK450.out 0).trans rfl, (blk_cell BK450.out 1).trans rfl, (blk_cell BK451.out 0).trans rfl, (blk_cell BK451.out 1).trans rfl, (blk_cell BK456.out 0).trans rfl, (blk_cell BK456.out 1).trans rfl, (blk_cell BK457.out 0).trans rfl, (blk_cell BK457.out 1).trans rfl⟩ (fun hHeld => ?_)
     clear hK K
     refine norm_ (a' := ?_) ?_ ?_
     rotate_left
     ·show Act.put _ (some 31) _ = _
      simp only [Act.put, List.setIfInBounds_toArray, List.set_cons_zero, List.set_cons_succ, i64_w, i32_w]
      rfl
     refine one_ (i := 5) (N := some 34) #[true, true, true, true, true, true, false, false, false, false, false, false, false, false, false, false, false, false, false, false, false, false, false, false, false, false, false, false, false, false, false, false, false, false] rfl rfl (one_of HT_.out (by kernel_rfl)) (by decide) (fun K hK => ?_)
     refine goes_ Try.func31 (by kernel_rfl) rfl #[.agg #[.int .i64 a0, .int .i64 a1], .agg #[.int .i64 a2, .int .i64 a3]] (by rfl) rfl rfl (by (try simp only [List.map_toArray, List.map_cons, List.map_nil]); first | done | rfl | (simp only [List.length_drop, List.length_take]; rfl)) ?_
     with_reducible refine (awardingbodyref14_Join.calls a0 a1 a2 a3 t460 t461 _ A10.out).mono ?_
     rintro e w39 ⟨rfl, hb⟩
     refine ⟨_, rfl, ?_⟩
     have n0_ := Aside0.mk (blk_below (g := gb450) (o := .cells #[.int .i64 a0, .int .i64 a1] 38 (0, 0)) (by (with_reducible repeat (first | refine blk_drewN ?_ _ | refine blk_drew ?_ | refine blk_alloc ?_ _)); exact BK450.out) hb)
     have n1_ := Aside0.mk (blk_below (g := gb451) (o := .cells #[.int .i64 a2, .int .i64 a3] 38 (0, 0)) (by (with_reducible repeat (first | refine blk_drewN ?_ _ | refine blk_drew ?_ | refine blk_alloc ?_ _)); exact BK451.out) hb)
     have n2_ := Aside0.mk (blk_below (g := gb456) (o := .cells #[.int .i64 t452, .int .i64 t453] 38 (0, 0)) (by (with_reducible repeat (first | refine blk_drewN ?_ _ | refine blk_drew ?_ | refine blk_alloc ?_ _)); exact BK456.out) hb)
     have n3_ := Aside0.mk (blk_below (g := gb457) (o := .cells #[.int .i64 t454, .int .i64 t455] 38 (0, 0)) (by (with_reducible repeat (first | refine blk_drewN ?_ _ | refine blk_drew ?_ | refine blk_alloc ?_ _)); exact BK457.out) hb)
     have n4_ := Aside0.mk (below_step (by repeat (first | (with_reducible first | exact HB.out | apply below_alloc | apply pw_below_drewN | apply below_drew1 | refine below_set ?_ GE450.out | refine below_set ?_ GE451.out | refine below_set ?_ GE456.out | refine below_set ?_ GE457.out) | exact HB.out)) hb)
     clear BK450
     clear BK451
     clear BK456
     clear BK457
     clear HB
     have BK450 := n0_
     have BK451 := n1_
     have BK456 := n2_
     have BK457 := n3_
     have HB := n4_
     clear n0_ n1_ n2_ n3_ n4_
     (try clear hb)
     (try clear hb2)
     (try clear hk)
     (try clear hi)
     refine hK.out _ _ ⟨(blk_cell BK450.out 0).trans rfl, (blk_cell BK450.out 1).trans rfl, (blk_cell BK451.out 0).trans rfl, (blk_cell BK451.out 1).trans rfl, (blk_cell BK456.out 0).trans rfl, (blk_cell BK456.out 1).trans rfl, (blk_cell BK457.out 0).trans rfl, (blk_cell BK457.out 1).trans rfl⟩ (fun hHeld => ?_)
     clear hK K
     refine norm_ (a' := ?_) ?_ ?_
     rotate_left
     ·show Act.put _ (some 34) _ = _
      simp only [Act.put, List.setIfInBounds_toArray, List.set_cons_zero, List.set_cons_succ, i64_w, i32_w]
      rfl
     refine pure_ (i := 6) (N := some 35) (v := ?_) (a' := ?_) #[true, true, true, true, true, true, true, false, false, false, false, false, false, false, false, false, false, false, false, false, false, false, false, false, false, false, false, false, false, false, false, false, false, false] rfl rfl (any_of HT_.out (by kernel_rfl)) (fun _ _ _ h => h) (Or.inl ⟨by rfl, ?_⟩) ?_ ?_
     rotate_left
     ·intro w'
      go_simp
      with_reducible rfl
     rotate_left
     ·simp only [Act.put, List.setIfInBounds_toArray, List.set_cons_zero, List.set_cons_succ, i64_w, i32_w]
      rfl
     refine pure_ (i := 7) (N := some 36) (v := ?_) (a' := ?_) #[true, true, true, true, true, true, true, true, false, false, false, false, false, false, false, false, false, false, false, false, false, false, false, false, false, false, false, false, false, false, false, false, false, false] rfl rfl (any_of HT_.out (by kernel_rfl)) (fun _ _ _ h => h) (Or.inl ⟨by rfl, ?_⟩) ?_ ?_
     rotate_left
     ·intro w'
      go_simp
      with_reducible rfl
     rotate_left
     ·simp only [Act.put, List.setIfInBounds_toArray, List.set_cons_zero, List.set_cons_succ, i64_w, i32_w]
      rfl
     refine take_ (i := 8) (N := some 37) (v := ?_) (a' := ?_) #[true, true, true, true, true, true, true, true, true, false, false, false, false, false, false, false, false, false, false, false, false, false, false, false, false, false, false, false, false, false, false, false, false, false] rfl rfl (take_ofW HT_.out HW_.out (by kernel_rfl)) (fun _ _ _ h => h) (Or.inl ⟨by rfl, ?_⟩) hHeld ?_ ?_
     rotate_left
     ·rintro w' ⟨s0, s1, s2, s3, s4, s5, s6, s7⟩
      go_simp
      with_reducible rfl
     rotate_left
     ·simp only [Act.put, List.setIfInBounds_toArray, List.set_cons_zero, List.set_cons_succ, i64_w, i32_w]
      rfl
     refine take_ (i := 9) (N := some 38) (v := ?_) (a' := ?_) #[true, true, true, true, true, true, true, true, true, true, false, false, false, false, false, false, false, false, false, false, false, false, false, false, false, false, false, false, false, false, false, false, false, false] rfl rfl (take_ofW HT_.out HW_.out (by kernel_rfl)) (fun _ _ _ h => h) (Or.inl ⟨by rfl, ?_⟩) hHeld ?_ ?_
     rotate_left
     ·rintro w' ⟨s0, s1, s2, s3, s4, s5, s6, s7⟩
      go_simp
      with_reducible rfl
     rotate_left
     ·simp only [Act.put, List.setIfInBounds_toArray, List.set_cons_zero, List.set_cons_succ, i64_w, i32_w]
      rfl
     refine take_ (i := 11) (N := some 40) (v := ?_) (a' := ?_) #[true, true, true, true, true, true, true, true, true, true, false, true, false, false, false, false, false, false, false, false, false, false, false, false, false, false, false, false, false, false, false, false, false, false] rfl rfl (take_ofW HT_.out HW_.out (by kernel_rfl)) (fun _ _ _ h => h) (Or.inl ⟨by rfl, ?_⟩) hHeld ?_ ?_
     rotate_left
     ·rintro w' ⟨s0, s1, s2, s3, s4, s5, s6, s7⟩
      go_simp
      with_reducible rfl
     rotate_left
     ·simp only [Act.put, List.setIfInBounds_toArray, List.set_cons_zero, List.set_cons_succ, i64_w, i32_w]
      rfl
     refine take_ (i := 12) (N := some 41) (v := ?_) (a' := ?_) #[true, true, true, true, true, true, true, true, true, true, false, true, true, false, false, false, false, false, false, false, false, false, false, false, false, false, false, false, false, false, false, false, false, false] rfl rfl (take_ofW HT_.out HW_.out (by kernel_rfl)) (fun _ _ _ h => h) (Or.inl ⟨by rfl, ?_⟩) hHeld ?_ ?_
     rotate_left
     ·rintro w' ⟨s0, s1, s2, s3, s4, s5, s6, s7⟩
      go_simp
      with_reducible rfl
     rotate_left
     ·simp only [Act.put, List.setIfInBounds_toArray, List.set_cons_zero, List.set_cons_succ, i64_w, i32_w]
      rfl
     refine one_ (i := 10) (N := some 39) #[true, true, true, true, true, true, true, true, true, true, true, true, true, false, false, false, false, false, false, false, false, false, false, false, false, false, false, false, false, false, false, false, false, false] rfl rfl (one_of HT_.out (by kernel_rfl)) (by decide) (fun K hK => ?_)
     refine goes_ Try.func30 (by kernel_rfl) rfl #[.agg #[.int .i64 t452, .int .i64 t453], .agg #[.int .i64 t454, .int .i64 t455]] (by rfl) rfl rfl (by (try simp only [List.map_toArray, List.map_cons, List.map_nil]); first | done | rfl | (simp only [List.length_drop, List.length_take]; rfl)) ?_
     with_reducible refine (access_Join.calls k t452 t453 t454 t455 t462 t463 _ A12.out).mono ?_
     rintro e w40 ⟨rfl, hb⟩
     refine ⟨_, rfl, ?_⟩
     have n0_ := Aside0.mk (blk_below (g := gb450) (o := .cells #[.int .i64 a0, .int .i64 a1] 38 (0, 0)) (by (with_reducible repeat (first | refine blk_drewN ?_ _ | refine blk_drew ?_ | refine blk_alloc ?_ _)); exact BK450.out) hb)
     have n1_ := Aside0.mk (blk_below (g := gb451) (o := .cells #[.int .i64 a2, .int .i64 a3] 38 (0, 0)) (by (with_reducible repeat (first | refine blk_drewN ?_ _ | refine blk_drew ?_ | refine blk_alloc ?_ _)); exact BK451.out) hb)
     have n2_ := Aside0.mk (blk_below (g := gb456) (o := .cells #[.int .i64 t452, .int .i64 t453] 38 (0, 0)) (by (with_reducible repeat (first | refine blk_drewN ?_ _ | refine blk_drew ?_ | refine blk_alloc ?_ _)); exact BK456.out) hb)
     have n3_ := Aside0.mk (blk_below (g := gb457) (o := .cells #[.int .i64 t454, .int .i64 t455] 38 (0, 0)) (by (with_reducible repeat (first | refine blk_drewN ?_ _ | refine blk_drew ?_ | refine blk_alloc ?_ _)); exact BK457.out) hb)
     have n4_ := Aside0.mk (below_step (by repeat (first | (with_reducible first | exact HB.out | apply below_alloc | apply pw_below_drewN | apply below_drew1 | refine below_set ?_ GE450.out | refine below_set ?_ GE451.out | refine below_set ?_ GE456.out | refine below_set ?_ GE457.out) | exact HB.out)) hb)
     clear BK450
     clear BK451
     clear BK456
     clear BK457
     clear HB
     have BK450 := n0_
     have BK451 := n1_
     have BK456 := n2_
     have BK457 := n3_
     have HB := n4_
     clear n0_ n1_ n2_ n3_ n4_
     (try clear hb)
     (try clear hb2)
     (try clear hk)
     (try clear hi)
     refine hK.out _ _ ⟨(blk_cell BK450.out 0).trans rfl, (blk_cell BK450.out 1).trans rfl, (blk_cell BK451.out 0).trans rfl, (blk_cell BK451.out 1).trans rfl, (blk_cell BK456.out 0).trans rfl, (blk_cell BK456.out 1).trans rfl, (blk_cell BK457.out 0).trans rfl, (blk_cell BK457.out 1).trans rfl⟩ (fun hHeld => ?_)
     clear hK K
     refine norm_ (a' := ?_) ?_ ?_
     rotate_left
     ·show Act.put _ (some 39) _ = _
      simp only [Act.put, List.setIfInBounds_toArray, List.set_cons_zero, List.set_cons_succ, i64_w, i32_w]
      rfl
     refine one_ (i := 13) (N := some 42) #[true, true, true, true, true, true, true, true, true, true, true, true, true, true, false, false, false, false, false, false, false, false, false, false, false, false, false, false, false, false, false, false, false, false] rfl rfl (one_of HT_.out (by kernel_rfl)) (by decide) (fun K hK => ?_)
     refine goes_ Try.func31 (by kernel_rfl) rfl #[.agg #[.int .i64 t452, .int .i64 t453], .agg #[.int .i64 t454, .int .i64 t455]] (by rfl) rfl rfl (by (try simp only [List.map_toArray, List.map_cons, List.map_nil]); first | done | rfl | (simp only [List.length_drop, List.length_take]; rfl)) ?_
     with_reducible refine (awardingbodyref14_Join.calls t452 t453 t454 t455 t464 t465 _ A13.out).mono ?_
     rintro e w41 ⟨rfl, hb⟩
     refine ⟨_, rfl, ?_⟩
     have n0_ := Aside0.mk (blk_below (g := gb450) (o := .cells #[.int .i64 a0, .int .i64 a1] 38 (0, 0)) (by (with_reducible repeat (first | refine blk_drewN ?_ _ | refine blk_drew ?_ | refine blk_alloc ?_ _)); exact BK450.out) hb)
     have n1_ := Aside0.mk (blk_below (g := gb451) (o := .cells #[.int .i64 a2, .int .i64 a3] 38 (0, 0)) (by (with_reducible repeat (first | refine blk_drewN ?_ _ | refine blk_drew ?_ | refine blk_alloc ?_ _)); exact BK451.out) hb)
     have n2_ := Aside0.mk (blk_below (g := gb456) (o := .cells #[.int .i64 t452, .int .i64 t453] 38 (0, 0)) (by (with_reducible repeat (first | refine blk_drewN ?_ _ | refine blk_drew ?_ | refine blk_alloc ?_ _)); exact BK456.out) hb)
     have n3_ := Aside0.mk (blk_below (g := gb457) (o := .cells #[.int .i64 t454, .int .i64 t455] 38 (0, 0)) (by (with_reducible repeat (first | refine blk_drewN ?_ _ | refine blk_drew ?_ | refine blk_alloc ?_ _)); exact BK457.out) hb)
     have n4_ := Aside0.mk (below_step (by repeat (first | (with_reducible first | exact HB.out | apply below_alloc | apply pw_below_drewN | apply below_drew1 | refine below_set ?_ GE450.out | refine below_set ?_ GE451.out | refine below_set ?_ GE456.out | refine below_set ?_ GE457.out) | exact HB.out)) hb)
     clear BK450
     clear BK451
     clear BK456
     clear BK457
     clear HB
     have BK450 := n0_
     have BK451 := n1_
     have BK456 := n2_
     have BK457 := n3_
     have HB := n4_
     clear n0_ n1_ n2_ n3_ n4_
     (try clear hb)
     (try clear hb2)
     (try clear hk)
     (try clear hi)
     refine hK.out _ _ ⟨(blk_cell BK450.out 0).trans rfl, (blk_cell BK450.out 1).trans rfl, (blk_cell BK451.out 0).trans rfl, (blk_cell BK451.out 1).trans rfl, (blk_cell BK456.out 0).trans rfl, (blk_cell BK456.out 1).trans rfl, (blk_cell BK457.out 0).trans rfl, (blk_cell BK457.out 1).trans rfl⟩ (fun hHeld => ?_)
     clear hK K
     refine norm_ (a' := ?_) ?_ ?_
     rotate_left
     ·show Act.put _ (some 42) _ = _
      simp only [Act.put, List.setIfInBounds_toArray, List.set_cons_zero, List.set_cons_succ, i64_w, i32_w]
      rfl
     refine pure_ (i := 14) (N := some 43) (v := ?_) (a' := ?_) #[true, true, true, true, true, true, true, true, true, true, true, true, true, true, true, false, false, false, false, false, false, false, false, false, false, false, false, false, false, false, false, false, false, false] rfl rfl (any_of HT_.out (by kernel_rfl)) (fun _ _ _ h => h) (Or.inl ⟨by rfl, ?_⟩) ?_ ?_
     rotate_left
     ·intro w'
      go_simp
      with_reducible rfl
     rotate_left
     ·simp only [Act.put, List.setIfInBounds_toArray, List.set_cons_zero, List.set_cons_succ, i64_w, i32_w]
      rfl
     refine pure_ (i := 15) (N := some 44) (v := ?_) (a' := ?_) #[true, true, true, true, true, true, true, true, true, true, true, true, true, true, true, true, false, false, false, false, false, false, false, false, false, false, false, false, false, false, false, false, false, false] rfl rfl (any_of HT_.out (by kernel_rfl)) (fun _ _ _ h => h) (Or.inl ⟨by rfl, ?_⟩) ?_ ?_
     rotate_left
     ·intro w'
      go_simp
      with_reducible rfl
     rotate_left
     ·simp only [Act.put, List.setIfInBounds_toArray, List.set_cons_zero, List.set_cons_succ, i64_w, i32_w]
      rfl
     refine pure_ (i := 16) (N := some 45) (v := ?_) (a' := ?_) #[true, true, true, true, true, true, true, true, true, true, true, true, true, true, true, true, true, false, false, false, false, false, false, false, false, false, false, false, false, false, false, false, false, false] rfl rfl (any_of HT_.out (by kernel_rfl)) (fun _ _ _ h => h) (Or.inl ⟨by rfl, ?_⟩) ?_ ?_
     rotate_left
     ·intro w'
      go_simp
      with_reducible rfl
     rotate_left
     ·simp only [Act.put, List.setIfInBounds_toArray, List.set_cons_zero, List.set_cons_succ, i64_w, i32_w]
      rfl
     refine take_ (i := 17) (N := some 46) (v := ?_) (a' := ?_) #[true, true, true, true, true, true, true, true, true, true, true, true, true, true, true, true, true, true, false, false, false, false, false, false, false, false, false, false, false, false, false, false, false, false] rfl rfl (take_ofW HT_.out HW_.out (by kernel_rfl)) (fun _ _ _ h => h) (Or.inl ⟨by rfl, ?_⟩) hHeld ?_ ?_
     rotate_left
     ·rintro w' ⟨s0, s1, s2, s3, s4, s5, s6, s7⟩
      go_simp
      with_reducible rfl
     rotate_left
     ·simp only [Act.put, List.setIfInBounds_toArray, List.set_cons_zero, List.set_cons_succ, i64_w, i32_w]
      rfl
     refine take_ (i := 19) (N := some 48) (v := ?_) (a' := ?_) #[true, true, true, true, true, true, true, true, true, true, true, true, true, true, true, true, true, true, false, true, false, false, false, false, false, false, false, false, false, false, false, false, false, false] rfl rfl (take_ofW HT_.out HW_.out (by kernel_rfl)) (fun _ _ _ h => h) (Or.inl ⟨by rfl, ?_⟩) hHeld ?_ ?_
     rotate_left
     ·rintro w' ⟨s0, s1, s2, s3, s4, s5, s6, s7⟩
      go_simp
      with_reducible rfl
     rotate_left
     ·simp only [Act.put, List.setIfInBounds_toArray, List.set_cons_zero, List.set_cons_succ, i64_w, i32_w]
      rfl
     refine one_ (i := 18) (N := some 47) #[true, true, true, true, true, true, true, true, true, true, true, true, true, true, true, true, true, true, true, true, false, false, false, false, false, false, false, false, false, false, false, false, false, false] rfl rfl (one_of HT_.out (by kernel_rfl)) (by decide) (fun K hK => ?_)
     refine goes_ Try.func32 (by kernel_rfl) rfl #[.agg #[.int .i64 a0, .int .i64 a1]] (by rfl) rfl rfl (by (try simp only [List.map_toArray, List.map_cons, List.map_nil]); first | done | rfl | (simp only [List.length_drop, List.length_take]; rfl)) ?_
     with_reducible refine (access_Imply.calls a0 a1 t466 t467 _ A15.out).mono ?_
     rintro e w42 ⟨rfl, hb⟩
     refine ⟨_, rfl, ?_⟩
     have n0_ := Aside0.mk (blk_below (g := gb450) (o := .cells #[.int .i64 a0, .int .i64 a1] 38 (0, 0)) (by (with_reducible repeat (first | refine blk_drewN ?_ _ | refine blk_drew ?_ | refine blk_alloc ?_ _)); exact BK450.out) hb)
     have n1_ := Aside0.mk (blk_below (g := gb451) (o := .cells #[.int .i64 a2, .int .i64 a3] 38 (0, 0)) (by (with_reducible repeat (first | refine blk_drewN ?_ _ | refine blk_drew ?_ | refine blk_alloc ?_ _)); exact BK451.out) hb)
     have n2_ := Aside0.mk (blk_below (g := gb456) (o := .cells #[.int .i64 t452, .int .i64 t453] 38 (0, 0)) (by (with_reducible repeat (first | refine blk_drewN ?_ _ | refine blk_drew ?_ | refine blk_alloc ?_ _)); exact BK456.out) hb)
     have n3_ := Aside0.mk (blk_below (g := gb457) (o := .cells #[.int .i64 t454, .int .i64 t455] 38 (0, 0)) (by (with_reducible repeat (first | refine blk_drewN ?_ _ | refine blk_drew ?_ | refine blk_alloc ?_ _)); exact BK457.out) hb)
     have n4_ := Aside0.mk (below_step (by repeat (first | (with_reducible first | exact HB.out | apply below_alloc | apply pw_below_drewN | apply below_drew1 | refine below_set ?_ GE450.out | refine below_set ?_ GE451.out | refine below_set ?_ GE456.out | refine below_set ?_ GE457.out) | exact HB.out)) hb)
     clear BK450
     clear BK451
     clear BK456
     clear BK457
     clear HB
     have BK450 := n0_
     have BK451 := n1_
     have BK456 := n2_
     have BK457 := n3_
     have HB := n4_
     clear n0_ n1_ n2_ n3_ n4_
     (try clear hb)
     (try clear hb2)
     (try clear hk)
     (try clear hi)
     refine hK.out _ _ ⟨(blk_cell BK450.out 0).trans rfl, (blk_cell BK450.out 1).trans rfl, (blk_cell BK451.out 0).trans rfl, (blk_cell BK451.out 1).trans rfl, (blk_cell BK456.out 0).trans rfl, (blk_cell BK456.out 1).trans rfl, (blk_cell BK457.out 0).trans rfl, (blk_cell BK457.out 1).trans rfl⟩ (fun hHeld => ?_)
     clear hK K
     refine norm_ (a' := ?_) ?_ ?_
     rotate_left
     ·show Act.put _ (some 47) _ = _
      simp only [Act.put, List.setIfInBounds_toArray, List.set_cons_zero, List.set_cons_succ, i64_w, i32_w]
      rfl
     refine one_ (i := 20) (N := some 49) #[true, true, true, true, true, true, true, true, true, true, true, true, true, true, true, true, true, true, true, true, true, false, false, false, false, false, false, false, false, false, false, false, false, false] rfl rfl (one_of HT_.out (by kernel_rfl)) (by decide) (fun K hK => ?_)
     refine goes_ Try.func33 (by kernel_rfl) rfl #[.agg #[.int .i64 a0, .int .i64 a1]] (by rfl) rfl rfl (by (try simp only [List.map_toArray, List.map_cons, List.map_nil]); first | done | rfl | (simp only [List.length_drop, List.length_take]; rfl)) ?_
     with_reducible refine (awardingbodyref14_Imply.calls a0 a1 t468 t469 _ A16.out).mono ?_
     rintro e w43 ⟨rfl, hb⟩
     refine ⟨_, rfl, ?_⟩
     have n0_ := Aside0.mk (blk_below (g := gb450) (o := .cells #[.int .i64 a0, .int .i64 a1] 38 (0, 0)) (by (with_reducible repeat (first | refine blk_drewN ?_ _ | refine blk_drew ?_ | refine blk_alloc ?_ _)); exact BK450.out) hb)
     have n1_ := Aside0.mk (blk_below (g := gb451) (o := .cells #[.int .i64 a2, .int .i64 a3] 38 (0, 0)) (by (with_reducible repeat (first | refine blk_drewN ?_ _ | refine blk_drew ?_ | refine blk_alloc ?_ _)); exact BK451.out) hb)
     have n2_ := Aside0.mk (blk_below (g := gb456) (o := .cells #[.int .i64 t452, .int .i64 t453] 38 (0, 0)) (by (with_reducible repeat (first | refine blk_drewN ?_ _ | refine blk_drew ?_ | refine blk_alloc ?_ _)); exact BK456.out) hb)
     have n3_ := Aside0.mk (blk_below (g := gb457) (o := .cells #[.int .i64 t454, .int .i64 t455] 38 (0, 0)) (by (with_reducible repeat (first | refine blk_drewN ?_ _ | refine blk_drew ?_ | refine blk_alloc ?_ _)); exact BK457.out) hb)
     have n4_ := Aside0.mk (below_step (by repeat (first | (with_reducible first | exact HB.out | apply below_alloc | apply pw_below_drewN | apply below_drew1 | refine below_set ?_ GE450.out | refine below_set ?_ GE451.out | refine below_set ?_ GE456.out | refine below_set ?_ GE457.out) | exact HB.out)) hb)
     clear BK450
     clear BK451
     clear BK456
     clear BK457
     clear HB
     have BK450 := n0_
     have BK451 := n1_
     have BK456 := n2_
     have BK457 := n3_
     have HB := n4_
     clear n0_ n1_ n2_ n3_ n4_
     (try clear hb)
     (try clear hb2)
     (try clear hk)
     (try clear hi)
     refine hK.out _ _ ⟨(blk_cell BK450.out 0).trans rfl, (blk_cell BK450.out 1).trans rfl, (blk_cell BK451.out 0).trans rfl, (blk_cell BK451.out 1).trans rfl, (blk_cell BK456.out 0).trans rfl, (blk_cell BK456.out 1).trans rfl, (blk_cell BK457.out 0).trans rfl, (blk_cell BK457.out 1).trans rfl⟩ (fun hHeld => ?_)
     clear hK K
     refine norm_ (a' := ?_) ?_ ?_
     rotate_left
     ·show Act.put _ (some 49) _ = _
      simp only [Act.put, List.setIfInBounds_toArray, List.set_cons_zero, List.set_cons_succ, i64_w, i32_w]
      rfl
     refine pure_ (i := 21) (N := some 50) (v := ?_) (a' := ?_) #[true, true, true, true, true, true, true, true, true, true, true, true, true, true, true, true, true, true, true, true, true, true, false, false, false, false, false, false, false, false, false, false, false, false] rfl rfl (any_of HT_.out (by kernel_rfl)) (fun _ _ _ h => h) (Or.inl ⟨by rfl, ?_⟩) ?_ ?_
     rotate_left
     ·intro w'
      go_simp
      with_reducible rfl
     rotate_left
     ·simp only [Act.put, List.setIfInBounds_toArray, List.set_cons_zero, List.set_cons_succ, i64_w, i32_w]
      rfl
     refine pure_ (i := 22) (N := some 51) (v := ?_) (a' := ?_) #[true, true, true, true, true, true, true, true, true, true, true, true, true, true, true, true, true, true, true, true, true, true, true, false, false, false, false, false, false, false, false, false, false, false] rfl rfl (any_of HT_.out (by kernel_rfl)) (fun _ _ _ h => h) (Or.inl ⟨by rfl, ?_⟩) ?_ ?_
     rotate_left
     ·intro w'
      go_simp
      with_reducible rfl
     rotate_left
     ·simp only [Act.put, List.setIfInBounds_toArray, List.set_cons_zero, List.set_cons_succ, i64_w, i32_w]
      rfl
     refine pure_ (i := 23) (N := some 52) (v := ?_) (a' := ?_) #[true, true, true, true, true, true, true, true, true, true, true, true, true, true, true, true, true, true, true, true, true, true, true, true, false, false, false, false, false, false, false, false, false, false] rfl rfl (any_of HT_.out (by kernel_rfl)) (fun _ _ _ h => h) (Or.inl ⟨by rfl, ?_⟩) ?_ ?_
     rotate_left
     ·intro w'
      go_simp
      with_reducible rfl
     rotate_left
     ·simp only [Act.put, List.setIfInBounds_toArray, List.set_cons_zero, List.set_cons_succ, i64_w, i32_w]
      rfl
     refine take_ (i := 24) (N := some 53) (v := ?_) (a' := ?_) #[true, true, true, true, true, true, true, true, true, true, true, true, true, true, true, true, true, true, true, true, true, true, true, true, true, false, false, false, false, false, false, false, false, false] rfl rfl (take_ofW HT_.out HW_.out (by kernel_rfl)) (fun _ _ _ h => h) (Or.inl ⟨by rfl, ?_⟩) hHeld ?_ ?_
     rotate_left
     ·rintro w' ⟨s0, s1, s2, s3, s4, s5, s6, s7⟩
      go_simp
      with_reducible rfl
     rotate_left
     ·simp only [Act.put, List.setIfInBounds_toArray, List.set_cons_zero, List.set_cons_succ, i64_w, i32_w]
      rfl
     refine take_ (i := 26) (N := some 55) (v := ?_) (a' := ?_) #[true, true, true, true, true, true, true, true, true, true, true, true, true, true, true, true, true, true, true, true, true, true, true, true, true, false, true, false, false, false, false, false, false, false] rfl rfl (take_ofW HT_.out HW_.out (by kernel_rfl)) (fun _ _ _ h => h) (Or.inl ⟨by rfl, ?_⟩) hHeld ?_ ?_
     rotate_left
     ·rintro w' ⟨s0, s1, s2, s3, s4, s5, s6, s7⟩
      go_simp
      with_reducible rfl
     rotate_left
     ·simp only [Act.put, List.setIfInBounds_toArray, List.set_cons_zero, List.set_cons_succ, i64_w, i32_w]
      rfl
     refine one_ (i := 25) (N := some 54) #[true, true, true, true, true, true, true, true, true, true, true, true, true, true, true, true, true, true, true, true, true, true, true, true, true, true, true, false, false, false, false, false, false, false] rfl rfl (one_of HT_.out (by kernel_rfl)) (by decide) (fun K hK => ?_)
     refine goes_ Try.func32 (by kernel_rfl) rfl #[.agg #[.int .i64 t452, .int .i64 t453]] (by rfl) rfl rfl (by (try simp only [List.map_toArray, List.map_cons, List.map_nil]); first | done | rfl | (simp only [List.length_drop, List.length_take]; rfl)) ?_
     with_reducible refine (access_Imply.calls t452 t453 t470 t471 _ A18.out).mono ?_
     rintro e w44 ⟨rfl, hb⟩
     refine ⟨_, rfl, ?_⟩
     have n0_ := Aside0.mk (blk_below (g := gb450) (o := .cells #[.int .i64 a0, .int .i64 a1] 38 (0, 0)) (by (with_reducible repeat (first | refine blk_drewN ?_ _ | refine blk_drew ?_ | refine blk_alloc ?_ _)); exact BK450.out) hb)
     have n1_ := Aside0.mk (blk_below (g := gb451) (o := .cells #[.int .i64 a2, .int .i64 a3] 38 (0, 0)) (by (with_reducible repeat (first | refine blk_drewN ?_ _ | refine blk_drew ?_ | refine blk_alloc ?_ _)); exact BK451.out) hb)
     have n2_ := Aside0.mk (blk_below (g := gb456) (o := .cells #[.int .i64 t452, .int .i64 t453] 38 (0, 0)) (by (with_reducible repeat (first | refine blk_drewN ?_ _ | refine blk_drew ?_ | refine blk_alloc ?_ _)); exact BK456.out) hb)
     have n3_ := Aside0.mk (blk_below (g := gb457) (o := .cells #[.int .i64 t454, .int .i64 t455] 38 (0, 0)) (by (with_reducible repeat (first | refine blk_drewN ?_ _ | refine blk_drew ?_ | refine blk_alloc ?_ _)); exact BK457.out) hb)
     have n4_ := Aside0.mk (below_step (by repeat (first | (with_reducible first | exact HB.out | apply below_alloc | apply pw_below_drewN | apply below_drew1 | refine below_set ?_ GE450.out | refine below_set ?_ GE451.out | refine below_set ?_ GE456.out | refine below_set ?_ GE457.out) | exact HB.out)) hb)
     clear BK450
     clear BK451
     clear BK456
     clear BK457
     clear HB
     have BK450 := n0_
     have BK451 := n1_
     have BK456 := n2_
     have BK457 := n3_
     have HB := n4_
     clear n0_ n1_ n2_ n3_ n4_
     (try clear hb)
     (try clear hb2)
     (try clear hk)
     (try clear hi)
     refine hK.out _ _ ⟨(blk_cell BK450.out 0).trans rfl, (blk_cell BK450.out 1).trans rfl, (blk_cell BK451.out 0).trans rfl, (blk_cell BK451.out 1).trans rfl, (blk_cell BK456.out 0).trans rfl, (blk_cell BK456.out 1).trans rfl, (blk_cell BK457.out 0).trans rfl, (blk_cell BK457.out 1).trans rfl⟩ (fun hHeld => ?_)
     clear hK K
     refine norm_ (a' := ?_) ?_ ?_
     rotate_left
     ·show Act.put _ (some 54) _ = _
      simp only [Act.put, List.setIfInBounds_toArray, List.set_cons_zero, List.set_cons_succ, i64_w, i32_w]
      rfl
     refine one_ (i := 27) (N := some 56) #[true, true, true, true, true, true, true, true, true, true, true, true, true, true, true, true, true, true, true, true, true, true, true, true, true, true, true, true, false, false, false, false, false, false] rfl rfl (one_of HT_.out (by kernel_rfl)) (by decide) (fun K hK => ?_)
     refine goes_ Try.func33 (by kernel_rfl) rfl #[.agg #[.int .i64 t452, .int .i64 t453]] (by rfl) rfl rfl (by (try simp only [List.map_toArray, List.map_cons, List.map_nil]); first | done | rfl | (simp only [List.length_drop, List.length_take]; rfl)) ?_
     with_reducible refine (awardingbodyref14_Imply.calls t452 t453 t472 t473 _ A19.out).mono ?_
     rintro e w45 ⟨rfl, hb⟩
     refine ⟨_, rfl, ?_⟩
     have n0_ := Aside0.mk (blk_below (g := gb450) (o := .cells #[.int .i64 a0, .int .i64 a1] 38 (0, 0)) (by (with_reducible repeat (first | refine blk_drewN ?_ _ | refine blk_drew ?_ | refine blk_alloc ?_ _)); exact BK450.out) hb)
     have n1_ := Aside0.mk (blk_below (g := gb451) (o := .cells #[.int .i64 a2, .int .i64 a3] 38 (0, 0)) (by (with_reducible repeat (first | refine blk_drewN ?_ _ | refine blk_drew ?_ | refine blk_alloc ?_ _)); exact BK451.out) hb)
     have n2_ := Aside0.mk (blk_below (g := gb456) (o := .cells #[.int .i64 t452, .int .i64 t453] 38 (0, 0)) (by (with_reducible repeat (first | refine blk_drewN ?_ _ | refine blk_drew ?_ | refine blk_alloc ?_ _)); exact BK456.out) hb)
     have n3_ := Aside0.mk (blk_below (g := gb457) (o := .cells #[.int .i64 t454, .int .i64 t455] 38 (0, 0)) (by (with_reducible repeat (first | refine blk_drewN ?_ _ | refine blk_drew ?_ | refine blk_alloc ?_ _)); exact BK457.out) hb)
     have n4_ := Aside0.mk (below_step (by repeat (first | (with_reducible first | exact HB.out | apply below_alloc | apply pw_below_drewN | apply below_drew1 | refine below_set ?_ GE450.out | refine below_set ?_ GE451.out | refine below_set ?_ GE456.out | refine below_set ?_ GE457.out) | exact HB.out)) hb)
     clear BK450
     clear BK451
     clear BK456
     clear BK457
     clear HB
     have BK450 := n0_
     have BK451 := n1_
     have BK456 := n2_
     have BK457 := n3_
     have HB := n4_
     clear n0_ n1_ n2_ n3_ n4_
     (try clear hb)
     (try clear hb2)
     (try clear hk)
     (try clear hi)
     refine hK.out _ _ ⟨(blk_cell BK450.out 0).trans rfl, (blk_cell BK450.out 1).trans rfl, (blk_cell BK451.out 0).trans rfl, (blk_cell BK451.out 1).trans rfl, (blk_cell BK456.out 0).trans rfl, (blk_cell BK456.out 1).trans rfl, (blk_cell BK457.out 0).trans rfl, (blk_cell BK457.out 1).trans rfl⟩ (fun hHeld => ?_)
     clear hK K
     refine norm_ (a' := ?_) ?_ ?_
     rotate_left
     ·show Act.put _ (some 56) _ = _
      simp only [Act.put, List.setIfInBounds_toArray, List.set_cons_zero, List.set_cons_succ, i64_w, i32_w]
      rfl
     refine pure_ (i := 28) (N := some 57) (v := ?_) (a' := ?_) #[true, true, true, true, true, true, true, true, true, true, true, true, true, true, true, true, true, true, true, true, true, true, true, true, true, true, true, true, true, false, false, false, false, false] rfl rfl (any_of HT_.out (by kernel_rfl)) (fun _ _ _ h => h) (Or.inl ⟨by rfl, ?_⟩) ?_ ?_
     rotate_left
     ·intro w'
      go_simp
      with_reducible rfl
     rotate_left
     ·simp only [Act.put, List.setIfInBounds_toArray, List.set_cons_zero, List.set_cons_succ, i64_w, i32_w]
      rfl
     refine pure_ (i := 29) (N := some 58) (v := ?_) (a' := ?_) #[true, true, true, true, true, true, true, true, true, true, true, true, true, true, true, true, true, true, true, true, true, true, true, true, true, true, true, true, true, true, false, false, false, false] rfl rfl (any_of HT_.out (by kernel_rfl)) (fun _ _ _ h => h) (Or.inl ⟨by rfl, ?_⟩) ?_ ?_
     rotate_left
     ·intro w'
      go_simp
      with_reducible rfl
     rotate_left
     ·simp only [Act.put, List.setIfInBounds_toArray, List.set_cons_zero, List.set_cons_succ, i64_w, i32_w]
      rfl
     refine pure_ (i := 30) (N := some 59) (v := ?_) (a' := ?_) #[true, true, true, true, true, true, true, true, true, true, true, true, true, true, true, true, true, true, true, true, true, true, true, true, true, true, true, true, true, true, true, false, false, false] rfl rfl (any_of HT_.out (by kernel_rfl)) (fun _ _ _ h => h) (Or.inl ⟨by rfl, ?_⟩) ?_ ?_
     rotate_left
     ·intro w'
      go_simp
      with_reducible rfl
     rotate_left
     ·simp only [Act.put, List.setIfInBounds_toArray, List.set_cons_zero, List.set_cons_succ, i64_w, i32_w]
      rfl
     refine one_ (i := 31) (N := some 60) #[true, true, true, true, true, true, true, true, true, true, true, true, true, true, true, true, true, true, true, true, true, true, true, true, true, true, true, true, true, true, true, true, false, false] rfl rfl (one_of HT_.out (by kernel_rfl)) (by decide) (fun K hK => ?_)
     refine goes_ Try.func16 (by kernel_rfl) rfl #[] (by rfl) rfl rfl (by (try simp only [List.map_toArray, List.map_cons, List.map_nil]); first | done | rfl | (simp only [List.length_drop, List.length_take]; rfl)) ?_
     with_reducible refine (awardingbodylaw14_awake.calls k  t474 _ A21.out).mono ?_
     rintro e w46 ⟨rfl, hb⟩
     refine ⟨_, rfl, ?_⟩
     have n0_ := Aside0.mk (blk_below (g := gb450) (o := .cells #[.int .i64 a0, .int .i64 a1] 38 (0, 0)) (by (with_reducible repeat (first | refine blk_drewN ?_ _ | refine blk_drew ?_ | refine blk_alloc ?_ _)); exact BK450.out) hb)
     have n1_ := Aside0.mk (blk_below (g := gb451) (o := .cells #[.int .i64 a2, .int .i64 a3] 38 (0, 0)) (by (with_reducible repeat (first | refine blk_drewN ?_ _ | refine blk_drew ?_ | refine blk_alloc ?_ _)); exact BK451.out) hb)
     have n2_ := Aside0.mk (blk_below (g := gb456) (o := .cells #[.int .i64 t452, .int .i64 t453] 38 (0, 0)) (by (with_reducible repeat (first | refine blk_drewN ?_ _ | refine blk_drew ?_ | refine blk_alloc ?_ _)); exact BK456.out) hb)
     have n3_ := Aside0.mk (blk_below (g := gb457) (o := .cells #[.int .i64 t454, .int .i64 t455] 38 (0, 0)) (by (with_reducible repeat (first | refine blk_drewN ?_ _ | refine blk_drew ?_ | refine blk_alloc ?_ _)); exact BK457.out) hb)
     have n4_ := Aside0.mk (below_step (by repeat (first | (with_reducible first | exact HB.out | apply below_alloc | apply pw_below_drewN | apply below_drew1 | refine below_set ?_ GE450.out | refine below_set ?_ GE451.out | refine below_set ?_ GE456.out | refine below_set ?_ GE457.out) | exact HB.out)) hb)
     clear BK450
     clear BK451
     clear BK456
     clear BK457
     clear HB
     have BK450 := n0_
     have BK451 := n1_
     have BK456 := n2_
     have BK457 := n3_
     have HB := n4_
     clear n0_ n1_ n2_ n3_ n4_
     (try clear hb)
     (try clear hb2)
     (try clear hk)
     (try clear hi)
     refine hK.out _ _ ⟨(blk_cell BK450.out 0).trans rfl, (blk_cell BK450.out 1).trans rfl, (blk_cell BK451.out 0).trans rfl, (blk_cell BK451.out 1).trans rfl, (blk_cell BK456.out 0).trans rfl, (blk_cell BK456.out 1).trans rfl, (blk_cell BK457.out 0).trans rfl, (blk_cell BK457.out 1).trans rfl⟩ (fun hHeld => ?_)
     clear hK K
     refine norm_ (a' := ?_) ?_ ?_
     rotate_left
     ·show Act.put _ (some 60) _ = _
      simp only [Act.put, List.setIfInBounds_toArray, List.set_cons_zero, List.set_cons_succ, i64_w, i32_w]
      rfl
     refine pure_ (i := 32) (N := some 61) (v := ?_) (a' := ?_) #[true, true, true, true, true, true, true, true, true, true, true, true, true, true, true, true, true, true, true, true, true, true, true, true, true, true, true, true, true, true, true, true, true, false] rfl rfl (any_of HT_.out (by kernel_rfl)) (fun _ _ _ h => h) (Or.inl ⟨by rfl, ?_⟩) ?_ ?_
     rotate_left
     ·intro w'
      go_simp
      with_reducible rfl
     rotate_left
     ·simp only [Act.put, List.setIfInBounds_toArray, List.set_cons_zero, List.set_cons_succ, i64_w, i32_w]
      rfl
     refine pure_ (i := 33) (N := some 8) (v := ?_) (a' := ?_) #[true, true, true, true, true, true, true, true, true, true, true, true, true, true, true, true, true, true, true, true, true, true, true, true, true, true, true, true, true, true, true, true, true, true] rfl rfl (any_of HT_.out (by kernel_rfl)) (fun _ _ _ h => h) (Or.inl ⟨by rfl, ?_⟩) ?_ ?_
     rotate_left
     ·intro w'
      go_simp
      with_reducible rfl
     rotate_left
     ·simp only [Act.put, List.setIfInBounds_toArray, List.set_cons_zero, List.set_cons_succ, i64_w, i32_w]
      rfl
     refine done_ (done_of HT_.out (by kernel_rfl)) ?_
     try go_wp2
     go_ret
     exact ⟨by first | rfl | (simp [errW_none, errW_some] <;> rfl) | (simp [*, errW_none, errW_some] <;> rfl), by repeat (first | (with_reducible first | exact HB.out | apply below_alloc | apply pw_below_drewN | apply below_drew1 | refine below_set ?_ GE450.out | refine below_set ?_ GE451.out | refine below_set ?_ GE456.out | refine below_set ?_ GE457.out) | exact HB.out)⟩
    ·rw [if_neg c20] at H
     have c20b0 : (t470 == t472 && (t471 == t473)) = false := by simpa using c20
     (try (have c20b1 : decide (t470 = t472 && (t471 == t473)) = false := by simpa using c20))
     (try (have c20b2 : (t470 == t472 && (t471 == t473)) = false := by simpa using c20))
     (try (have c20b3 : ¬ (t470 = t472 && (t471 == t473)) := by simpa using c20))
     clear c20
     exact absurd H (by simp)
   ·rw [if_neg c17] at H
    have c17b0 : (t466 == t468 && (t467 == t469)) = false := by simpa using c17
    (try (have c17b1 : decide (t466 = t468 && (t467 == t469)) = false := by simpa using c17))
    (try (have c17b2 : (t466 == t468 && (t467 == t469)) = false := by simpa using c17))
    (try (have c17b3 : ¬ (t466 = t468 && (t467 == t469)) := by simpa using c17))
    clear c17
    exact absurd H (by simp)
  ·rw [if_neg c14] at H
   have c14b0 : (t462 == t464 && (t463 == t465)) = false := by simpa using c14
   (try (have c14b1 : decide (t462 = t464 && (t463 == t465)) = false := by simpa using c14))
   (try (have c14b2 : (t462 == t464 && (t463 == t465)) = false := by simpa using c14))
   (try (have c14b3 : ¬ (t462 = t464 && (t463 == t465)) := by simpa using c14))
   clear c14
   exact absurd H (by simp)
 ·rw [if_neg c11] at H
  have c11b0 : (t458 == t460 && (t459 == t461)) = false := by simpa using c11
  (try (have c11b1 : decide (t458 = t460 && (t459 == t461)) = false := by simpa using c11))
  (try (have c11b2 : (t458 == t460 && (t459 == t461)) = false := by simpa using c11))
  (try (have c11b3 : ¬ (t458 = t460 && (t459 == t461)) := by simpa using c11))
  clear c11
  exact absurd H (by simp)

/-- THE ONE PURE STATEMENT of awardingbodylaw14_AccessJoins: yours. -/
def awardingbodylaw14_AccessJoins.Pure : Prop := ∀ (a0 : Int) (a1 : Int) (a2 : Int) (a3 : Int), (Lit.int .i64 a0).wf = true → (Lit.int .i64 a1).wf = true → (Lit.int .i64 a2).wf = true → (Lit.int .i64 a3).wf = true → ∃ k, awardingbodylaw14_AccessJoins.f k a0 a1 a2 a3 = some true
theorem awardingbodylaw14_AccessJoins.walk (P : awardingbodylaw14_AccessJoins.Pure) (a0 : Int) (a1 : Int) (a2 : Int) (a3 : Int) (w : World) (w0 : (Lit.int .i64 a0).wf = true) (w1 : (Lit.int .i64 a1).wf = true) (w2 : (Lit.int .i64 a2).wf = true) (w3 : (Lit.int .i64 a3).wf = true) :
  Calls Try.prog 10 #[.int .i64 a0, .int .i64 a1, .int .i64 a2, .int .i64 a3] w fun e w' => e = .returned (.bool true) ∧ Below w.heap.size w w' := by
 obtain ⟨k, h⟩ := P a0 a1 a2 a3 w0 w1 w2 w3
 refine (awardingbodylaw14_AccessJoins.calls k a0 a1 a2 a3 true w h).mono ?_
 rintro e w' ⟨rfl, hd⟩
 exact ⟨rfl, hd⟩

end Go.Proofs.Ytbgeoadaeihgkaa.Print
