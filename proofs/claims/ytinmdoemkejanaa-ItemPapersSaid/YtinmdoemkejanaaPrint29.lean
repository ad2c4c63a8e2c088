-- Printed by a program of this session (wip/own_print.py) out of the translation; Lean checks it.
import Derived.Test.YtinmdoemkejanaaPrint0
import Derived.Test.YtinmdoemkejanaaPrint5
import Derived.Test.YtinmdoemkejanaaPrint7
import Derived.Test.YtinmdoemkejanaaPrint9
import Derived.Test.YtinmdoemkejanaaPrint19
import Derived.Test.YtinmdoemkejanaaPrint27
import Derived.Test.YtinmdoemkejanaaPrint28
namespace Go.Proofs.Ytinmdoemkejanaa.Print
open Go.RowKit Go.Proofs.YtinmdoemkejanaaW.PrintWords Go.Proofs.YtinmdoemkejanaaW.PrintLast Go.Proofs.YtinmdoemkejanaaW.PrintMore
attribute [local go_sem] max2_int min2_int max_two min_two max_three min_three max_four min_four   -- for this text's walks alone
set_option linter.unusedVariables false
set_option linter.unusedSimpArgs false

/-! ### awardingbodylaw06_ItemPapers: function 9 -/
def awardingbodylaw06_ItemPapers.f (k : Nat) (l0 : List Int) : Option (Bool) := (awardingbodymake_New.f l0).bind fun bt592 => ((awardingbodymake_Tape_LoosePaper.f k bt592.1 bt592.2 2).bind fun bt595 => ((item_ValidPaper.f k bt595.1 bt595.2.1 bt595.2.2.1).bind fun t602 => ((awardingbodyref06_ValidPaper.f k bt595.1 bt595.2.1 bt595.2.2.1).bind fun t603 => (if (t602 == t603) = true then ((item_PaperTotal.f k bt595.1 bt595.2.1 bt595.2.2.1).bind fun t604 => ((awardingbodyref06_PaperTotal.f k bt595.1 bt595.2.1 bt595.2.2.1).bind fun t605 => (if t604 = t605 then ((item_Choices.f k bt595.1 bt595.2.1 bt595.2.2.1).bind fun t606 => ((awardingbodyref06_Choices.f k bt595.1 bt595.2.1 bt595.2.2.1).bind fun t609 => ((awardingbodyref06_Ints.f k t606 t609).bind fun t612 => (if t612 = true then ((awardingbodylaw06_awake.f k).bind fun t613 => (some t613)) else (none))))) else (none)))) else (none)))))
theorem awardingbodylaw06_ItemPapers.mono : ∀ a0 k, LeO (awardingbodylaw06_ItemPapers.f k a0) (awardingbodylaw06_ItemPapers.f (k + 1) a0) := by
  intro a0 k
  unfold awardingbodylaw06_ItemPapers.f
  repeat' first
      | (with_reducible exact awardingbodylaw06_awake.mono _)
      | (with_reducible exact awardingbodymake_Tape_LoosePaper.mono _ _ _ _)
      | (with_reducible exact awardingbodyref06_Choices.mono _ _ _ _)
      | (with_reducible exact awardingbodyref06_Ints.mono _ _ _)
      | (with_reducible exact awardingbodyref06_PaperTotal.mono _ _ _ _)
      | (with_reducible exact awardingbodyref06_ValidPaper.mono _ _ _ _)
      | (with_reducible exact item_Choices.mono _ _ _ _)
      | (with_reducible exact item_PaperTotal.mono _ _ _ _)
      | (with_reducible exact item_ValidPaper.mono _ _ _ _)
      | (with_reducible exact LeO.refl _)
      | (with_reducible exact LeO.none _)
      | (with_reducible refine LeO.ite ?_ ?_)
      | (with_reducible refine LeO.bind ?_ (fun _ => ?_))
      | exact awardingbodylaw06_awake.mono _
      | exact awardingbodymake_Tape_LoosePaper.mono _ _ _ _
      | exact awardingbodyref06_Choices.mono _ _ _ _
      | exact awardingbodyref06_Ints.mono _ _ _
      | exact awardingbodyref06_PaperTotal.mono _ _ _ _
      | exact awardingbodyref06_ValidPaper.mono _ _ _ _
      | exact item_Choices.mono _ _ _ _
      | exact item_PaperTotal.mono _ _ _ _
      | exact item_ValidPaper.mono _ _ _ _
      | exact LeO.none _
      | refine LeO.ite ?_ ?_
      | refine LeO.bind ?_ (fun _ => ?_)
def awardingbodylaw06_ItemPapers.T2 : Bool × List (List Nat × List Nat) := (true, [([], []), ([0], [0]), ([], []), ([2, 1], [2]), ([1, 3], [1, 3]), ([4, 3], [4]), ([5], [5]), ([6, 5, 5], [5, 6]), ([5], [5]), ([8, 7, 5], [5, 8]), ([7, 9, 5], [5, 7, 9]), ([5, 10], [5, 10]), ([11, 9], [11]), ([12], [12]), ([13, 12, 12], [12, 13]), ([12], [12]), ([15, 14, 12], [12, 15]), ([14, 16, 16, 12], [12, 14, 16]), ([12, 17], [12, 17]), ([18, 17], [18]), ([19, 19], [19]), ([19, 20], [19, 20]), ([21, 20, 0, 1, 2, 3, 4, 5, 6, 7, 8, 9, 10, 11, 12, 13, 14, 15, 16, 17, 18, 19, 20, 21], [21])])
def awardingbodylaw06_ItemPapers.B2 : List Nat := [0, 1, 0, 7, 15, 31, 63, 127, 63, 511, 1023, 2047, 4095, 8191, 16383, 8191, 65535, 131071, 262143, 524287, 1048575, 2097151, 4194303]
theorem awardingbodylaw06_ItemPapers.tab2 : rtab .any (opsOf Try.f9 2) = awardingbodylaw06_ItemPapers.T2 := by kernel_rfl
theorem awardingbodylaw06_ItemPapers.bits2 : waitsOk awardingbodylaw06_ItemPapers.T2.2 awardingbodylaw06_ItemPapers.B2 = true := by kernel_rfl
set_option maxHeartbeats 8000000 in
set_option maxRecDepth 100000 in
theorem awardingbodylaw06_ItemPapers.calls (k : Nat) (A0 : Option Addr) (c0 : Nat) (l0 : List Int) (r : Bool) (w : World) (hr0 : Kd.C (Kd.int .i64) w A0 l0.length l0) (hc0 : l0.length ≤ c0) (h : awardingbodylaw06_ItemPapers.f k l0 = some r) :
    Calls Try.prog 9 #[.slice A0 l0.length c0] w fun e w' => e = .returned (.bool r) ∧ Below w.heap.size w w' := by
 have hu45 := Try.underlying45
 have HR0 := Aside0.mk hr0
 have HC0 := Aside0.mk hc0
 clear hr0 hc0
 have HB := Aside0.mk (Below.refl w.heap.size w)
 have H : ((awardingbodymake_New.f l0).bind fun bt592 => ((awardingbodymake_Tape_LoosePaper.f k bt592.1 bt592.2 2).bind fun bt595 => ((item_ValidPaper.f k bt595.1 bt595.2.1 bt595.2.2.1).bind fun t602 => ((awardingbodyref06_ValidPaper.f k bt595.1 bt595.2.1 bt595.2.2.1).bind fun t603 => (if (t602 == t603) = true then ((item_PaperTotal.f k bt595.1 bt595.2.1 bt595.2.2.1).bind fun t604 => ((awardingbodyref06_PaperTotal.f k bt595.1 bt595.2.1 bt595.2.2.1).bind fun t605 => (if t604 = t605 then ((item_Choices.f k bt595.1 bt595.2.1 bt595.2.2.1).bind fun t606 => ((awardingbodyref06_Choices.f k bt595.1 bt595.2.1 bt595.2.2.1).bind fun t609 => ((awardingbodyref06_Ints.f k t606 t609).bind fun t612 => (if t612 = true then ((awardingbodylaw06_awake.f k).bind fun t613 => (some t613)) else (none))))) else (none)))) else (none)))))) = some r := h
 clear h
 replace H := Option.bind_eq_some_iff.mp H
 obtain ⟨⟨t592, t593⟩, A20, H⟩ := H
 replace H : ((awardingbodymake_Tape_LoosePaper.f k t592 t593 2).bind fun bt595 => ((item_ValidPaper.f k bt595.1 bt595.2.1 bt595.2.2.1).bind fun t602 => ((awardingbodyref06_ValidPaper.f k bt595.1 bt595.2.1 bt595.2.2.1).bind fun t603 => (if (t602 == t603) = true then ((item_PaperTotal.f k bt595.1 bt595.2.1 bt595.2.2.1).bind fun t604 => ((awardingbodyref06_PaperTotal.f k bt595.1 bt595.2.1 bt595.2.2.1).bind fun t605 => (if t604 = t605 then ((item_Choices.f k bt595.1 bt595.2.1 bt595.2.2.1).bind fun t606 => ((awardingbodyref06_Choices.f k bt595.1 bt595.2.1 bt595.2.2.1).bind fun t609 => ((awardingbodyref06_Ints.f k t606 t609).bind fun t612 => (if t612 = true then ((awardingbodylaw06_awake.f k).bind fun t613 => (some t613)) else (none))))) else (none)))) else (none))))) = some r := H
 have A2 := Aside0.mk A20
 clear A20
 replace H := Option.bind_eq_some_iff.mp H
 obtain ⟨⟨t595, t596, t597, t600⟩, A30, H⟩ := H
 replace H : ((item_ValidPaper.f k t595 t596 t597).bind fun t602 => ((awardingbodyref06_ValidPaper.f k t595 t596 t597).bind fun t603 => (if (t602 == t603) = true then ((item_PaperTotal.f k t595 t596 t597).bind fun t604 => ((awardingbodyref06_PaperTotal.f k t595 t596 t597).bind fun t605 => (if t604 = t605 then ((item_Choices.f k t595 t596 t597).bind fun t606 => ((awardingbodyref06_Choices.f k t595 t596 t597).bind fun t609 => ((awardingbodyref06_Ints.f k t606 t609).bind fun t612 => (if t612 = true then ((awardingbodylaw06_awake.f k).bind fun t613 => (some t613)) else (none))))) else (none)))) else (none)))) = some r := H
 have A3 := Aside0.mk A30
 clear A30
 replace H := Option.bind_eq_some_iff.mp H
 obtain ⟨t602, A40, H⟩ := H
 replace H : ((awardingbodyref06_ValidPaper.f k t595 t596 t597).bind fun t603 => (if (t602 == t603) = true then ((item_PaperTotal.f k t595 t596 t597).bind fun t604 => ((awardingbodyref06_PaperTotal.f k t595 t596 t597).bind fun t605 => (if t604 = t605 then ((item_Choices.f k t595 t596 t597).bind fun t606 => ((awardingbodyref06_Choices.f k t595 t596 t597).bind fun t609 => ((awardingbodyref06_Ints.f k t606 t609).bind fun t612 => (if t612 = true then ((awardingbodylaw06_awake.f k).bind fun t613 => (some t613)) else (none))))) else (none)))) else (none))) = some r := H
 have A4 := Aside0.mk A40
 clear A40
 replace H := Option.bind_eq_some_iff.mp H
 obtain ⟨t603, A50, H⟩ := H
 replace H : (if (t602 == t603) = true then ((item_PaperTotal.f k t595 t596 t597).bind fun t604 => ((awardingbodyref06_PaperTotal.f k t595 t596 t597).bind fun t605 => (if t604 = t605 then ((item_Choices.f k t595 t596 t597).bind fun t606 => ((awardingbodyref06_Choices.f k t595 t596 t597).bind fun t609 => ((awardingbodyref06_Ints.f k t606 t609).bind fun t612 => (if t612 = true then ((awardingbodylaw06_awake.f k).bind fun t613 => (some t613)) else (none))))) else (none)))) else (none)) = some r := H
 have A5 := Aside0.mk A50
 clear A50
 by_cases c6 : (t602 == t603) = true
 ·rw [if_pos c6] at H
  have c6b0 : (t602 == t603) = true := c6
  (try (have c6b1 : decide (t602 = t603) = true := by simpa using c6))
  (try (have c6b2 : (t602 == t603) = true := by simpa using c6))
  clear c6
  replace H := Option.bind_eq_some_iff.mp H
  obtain ⟨t604, A70, H⟩ := H
  replace H : ((awardingbodyref06_PaperTotal.f k t595 t596 t597).bind fun t605 => (if t604 = t605 then ((item_Choices.f k t595 t596 t597).bind fun t606 => ((awardingbodyref06_Choices.f k t595 t596 t597).bind fun t609 => ((awardingbodyref06_Ints.f k t606 t609).bind fun t612 => (if t612 = true then ((awardingbodylaw06_awake.f k).bind fun t613 => (some t613)) else (none))))) else (none))) = some r := H
  have A7 := Aside0.mk A70
  clear A70
  replace H := Option.bind_eq_some_iff.mp H
  obtain ⟨t605, A80, H⟩ := H
  replace H : (if t604 = t605 then ((item_Choices.f k t595 t596 t597).bind fun t606 => ((awardingbodyref06_Choices.f k t595 t596 t597).bind fun t609 => ((awardingbodyref06_Ints.f k t606 t609).bind fun t612 => (if t612 = true then ((awardingbodylaw06_awake.f k).bind fun t613 => (some t613)) else (none))))) else (none)) = some r := H
  have A8 := Aside0.mk A80
  clear A80
  by_cases c9 : t604 = t605
  ·rw [if_pos c9] at H
   have c9b0 : (t604 == t605) = true := beq_iff_eq.mpr c9
   have c9b1 : (t604 != t605) = false := bne_eq_false_iff_eq.mpr c9
   clear c9
   replace H := Option.bind_eq_some_iff.mp H
   obtain ⟨t606, A100, H⟩ := H
   replace H : ((awardingbodyref06_Choices.f k t595 t596 t597).bind fun t609 => ((awardingbodyref06_Ints.f k t606 t609).bind fun t612 => (if t612 = true then ((awardingbodylaw06_awake.f k).bind fun t613 => (some t613)) else (none)))) = some r := H
   have A10 := Aside0.mk A100
   clear A100
   replace H := Option.bind_eq_some_iff.mp H
   obtain ⟨t609, A110, H⟩ := H
   replace H : ((awardingbodyref06_Ints.f k t606 t609).bind fun t612 => (if t612 = true then ((awardingbodylaw06_awake.f k).bind fun t613 => (some t613)) else (none))) = some r := H
   have A11 := Aside0.mk A110
   clear A110
   replace H := Option.bind_eq_some_iff.mp H
   obtain ⟨t612, A120, H⟩ := H
   replace H : (if t612 = true then ((awardingbodylaw06_awake.f k).bind fun t613 => (some t613)) else (none)) = some r := H
   have A12 := Aside0.mk A120
   clear A120
   by_cases c13 : t612 = true
   ·subst c13
    have H1 : ((awardingbodylaw06_awake.f k).bind fun t613 => (some t613)) = some r := by rw [if_pos rfl] at H; exact H
    clear H
    have H := H1
    clear H1
    replace H := Option.bind_eq_some_iff.mp H
    obtain ⟨t613, A140, H⟩ := H
    replace H : (some t613) = some r := H
    have A14 := Aside0.mk A140
    clear A140
    obtain rfl := Option.some.inj H
    go_enter Try.func9, Try.ntmps9
    try go_wp2_with (first | ((with_reducible refine gate_callee (f := 15) rfl ?_); refine goesL_ (some 5) rfl rfl Try.func15 (by kernel_rfl) rfl #[.slice A0 l0.length c0] rfl (by (try simp only [List.map_toArray, List.map_cons, List.map_nil]); first | done | rfl | (simp only [List.length_drop, List.length_take]; rfl)) ?_; (with_reducible refine (awardingbodymake_New.calls _ _ l0 t592 t593 w _ ?side1 ?side2 ?side3 A2.out).mono ?_); (case side1 => repeat (first | (with_reducible first | exact HB.out | apply below_alloc | apply pw_below_drewN | apply below_drew1) | exact HB.out)); (case side2 => exact HR0.out); (case side3 => exact HC0.out); rintro e w15 ⟨g594, rfl, hi, hb, hb2⟩; refine ⟨_, rfl, ?_⟩; have n0_ := Aside0.mk (hb); have n1_ := Aside0.mk (hi); clear HB; have HB := n0_; have HI594 := n1_; clear n0_ n1_; (try clear hb); (try clear hb2); (try clear hk); (try clear hi)) | ((with_reducible refine gate_callee (f := 33) rfl ?_); refine goesL_ (some 6) rfl rfl Try.func33 (by kernel_rfl) rfl #[.pointer (some ⟨g594, 0, none⟩), .int .i64 2] rfl (by (try simp only [List.map_toArray, List.map_cons, List.map_nil]); first | done | rfl | (simp only [List.length_drop, List.length_take]; rfl)) ?_; (with_reducible refine (awardingbodymake_Tape_LoosePaper.calls k g594 t592 t593 2 t595 t596 t597 t600 w _ ?side1 ?side2 A3.out).mono ?_); (case side1 => repeat (first | (with_reducible first | exact HI594.out | apply IsS54.alloc | apply IsS54.drewN | apply IsS54.drew | apply IsS54.set_1) | exact HI594.out)); (case side2 => repeat (first | (with_reducible first | exact HB.out | apply below_alloc | apply pw_below_drewN | apply below_drew1 | refine below_set ?_ (IsS54.ge HI594.out)) | exact HB.out)); rintro e w16 ⟨v598, rfl, ho0, hi, hb, hk⟩; refine ⟨_, rfl, ?_⟩; have n0_ := Aside0.mk (Kd.R_lower ho0 (below_size (by repeat (first | (with_reducible first | exact HB.out | apply below_alloc | apply pw_below_drewN | apply below_drew1 | refine below_set ?_ (IsS54.ge HI594.out)) | exact HB.out)))); have n1_ := Aside0.mk (hb); have n2_ := Aside0.mk (hi); clear HB HI594; have HO599 := n0_; have HB := n1_; have HI594 := n2_; clear n0_ n1_ n2_; (try clear hb); (try clear hb2); (try clear hk); (try clear hi); (try clear ho0)) | ((with_reducible refine gate_dst (N := 3) rfl ?_); refine box_event ?hg (N := 3) ?hd (cs := #[.int .i64 0, .int .i64 0, .slice none 0 0]) (t := 45) ?hr ?_; (case hd => rfl); (case hg => rfl); (case hr => first | (go_simp; done) | (go_simp; rfl)); intro gb601 hg w17 hbox hb; have n0_ := Aside0.mk (Kd.R_below (by (with_reducible repeat (first | apply Kd.R_alloc | apply Kd.R_drewN | apply Kd.R_drew)); exact HO599.out) hb); have n1_ := Aside0.mk (IsS54.below (by repeat (first | (with_reducible first | exact HI594.out | apply IsS54.alloc | apply IsS54.drewN | apply IsS54.drew | apply IsS54.set_1) | exact HI594.out)) hb); have n2_ := Aside0.mk (below_step (by repeat (first | (with_reducible first | exact HB.out | apply below_alloc | apply pw_below_drewN | apply below_drew1 | refine below_set ?_ (IsS54.ge HI594.out)) | exact HB.out)) hb); have n3_ := Aside0.mk (hbox); have n4_ := Aside0.mk ((by rw [hg]; exact (below_size (by repeat (first | (with_reducible first | exact HB.out | apply below_alloc | apply pw_below_drewN | apply below_drew1 | refine below_set ?_ (IsS54.ge HI594.out)) | exact HB.out))) : w.heap.size ≤ gb601)); have n5_ := Aside0.mk ((by rw [hg]; exact (below_size (by repeat (first | (with_reducible first | exact HB.out | apply below_alloc | apply pw_below_drewN | apply below_drew1 | refine below_set ?_ (IsS54.ge HI594.out)) | exact HB.out))) : w.heap.size ≤ gb601)); have n6_ := Aside0.mk ((by rw [hg]; exact Nat.ne_of_lt (IsS54.lt (show IsS54 w _ g594 t592 t600 from by repeat (first | (with_reducible first | exact HI594.out | apply IsS54.alloc | apply IsS54.drewN | apply IsS54.drew | apply IsS54.set_1) | exact HI594.out))) : g594 ≠ gb601)); have n7_ := Aside0.mk ((by rw [hg]; exact Nat.ne_of_gt (IsS54.lt (show IsS54 w _ g594 t592 t600 from by repeat (first | (with_reducible first | exact HI594.out | apply IsS54.alloc | apply IsS54.drewN | apply IsS54.drew | apply IsS54.set_1) | exact HI594.out))) : gb601 ≠ g594)); clear HO599 HI594 HB; have HO599 := n0_; have HI594 := n1_; have HB := n2_; have BK601 := n3_; have GW601 := n4_; have GE601 := n5_; have NB594_601 := n6_; have NB601_594 := n7_; clear n0_ n1_ n2_ n3_ n4_ n5_ n6_ n7_ hb hbox hg; have hnb18 := NB601_594.out; have hnc18 := NB594_601.out; have hcz19_0 : w17.cell? ⟨gb601, 0, none⟩ = some (.int .i64 0) := (blk_cell BK601.out 0).trans rfl; have hcz19_1 : w17.cell? ⟨gb601, 1, none⟩ = some (.int .i64 0) := (blk_cell BK601.out 1).trans rfl; have hcz19_2 : w17.cell? ⟨gb601, 2, none⟩ = some (.slice none 0 0) := (blk_cell BK601.out 2).trans rfl; have hfz19_0 := blk_frozen BK601.out 0; have hfz19_1 := blk_frozen BK601.out 1; have hfz19_2 := blk_frozen BK601.out 2; obtain ⟨Ao20, co20, eo20⟩ := Kd.R_slice HO599.out; subst eo20))
    have n0_ : Aside0 (Kd.R k23 23 (((w17.setCell ⟨gb601, 0, none⟩ (.int .i64 t595)).setCell ⟨gb601, 1, none⟩ (.int .i64 t596)).setCell ⟨gb601, 2, none⟩ (.slice Ao20 t597.length co20)) w.heap.size (fun _ => True) (.slice Ao20 t597.length co20) t597) := ⟨by (with_reducible repeat (first | apply Kd.R_alloc | apply Kd.R_drewN | apply Kd.R_drew)); exact Kd.R_mono (Kd.R_far (p := ⟨gb601, 2, none⟩) (Kd.R_far (p := ⟨gb601, 1, none⟩) (Kd.R_far (p := ⟨gb601, 0, none⟩) (Kd.R_types HO599.out BK601.out (by decide)) (fun _ hk => hk.2) (.int .i64 t595)) (fun _ hk => hk.2) (.int .i64 t596)) (fun _ hk => hk.2) (.slice Ao20 t597.length co20)) (fun _ hk => trivial)⟩
    have n1_ : Aside0 ((((w17.setCell ⟨gb601, 0, none⟩ (.int .i64 t595)).setCell ⟨gb601, 1, none⟩ (.int .i64 t596)).setCell ⟨gb601, 2, none⟩ (.slice Ao20 t597.length co20)).heap[gb601]? = some (.cells #[.int .i64 t595, .int .i64 t596, .slice Ao20 t597.length co20] 45 (0, 0))) := ⟨by (with_reducible repeat (first | refine blk_drewN ?_ _ | refine blk_drew ?_ | refine blk_alloc ?_ _)); refine blk_put (cs := #[.int .i64 t595, .int .i64 t596, .slice none 0 0]) ?_ 2 _ rfl; (with_reducible repeat (first | refine blk_drewN ?_ _ | refine blk_drew ?_ | refine blk_alloc ?_ _)); refine blk_put (cs := #[.int .i64 t595, .int .i64 0, .slice none 0 0]) ?_ 1 _ rfl; (with_reducible repeat (first | refine blk_drewN ?_ _ | refine blk_drew ?_ | refine blk_alloc ?_ _)); refine blk_put (cs := #[.int .i64 0, .int .i64 0, .slice none 0 0]) ?_ 0 _ rfl; (with_reducible repeat (first | refine blk_drewN ?_ _ | refine blk_drew ?_ | refine blk_alloc ?_ _)); exact BK601.out⟩
    have n2_ : Aside0 (IsS54 w (((w17.setCell ⟨gb601, 0, none⟩ (.int .i64 t595)).setCell ⟨gb601, 1, none⟩ (.int .i64 t596)).setCell ⟨gb601, 2, none⟩ (.slice Ao20 t597.length co20)) g594 t592 t600) := ⟨by repeat (first | (with_reducible first | exact HI594.out | apply IsS54.alloc | apply IsS54.drewN | apply IsS54.drew | apply IsS54.set_1 | refine IsS54.far ?_ NB594_601.out _) | exact HI594.out)⟩
    have n3_ : Aside0 (Below w.heap.size w (((w17.setCell ⟨gb601, 0, none⟩ (.int .i64 t595)).setCell ⟨gb601, 1, none⟩ (.int .i64 t596)).setCell ⟨gb601, 2, none⟩ (.slice Ao20 t597.length co20))) := ⟨by repeat (first | (with_reducible first | exact HB.out | apply below_alloc | apply pw_below_drewN | apply below_drew1 | refine below_set ?_ (IsS54.ge HI594.out) | refine below_set ?_ GE601.out) | exact HB.out)⟩
    (try clear HO599)
    (try clear BK601)
    (try clear HI594)
    (try clear HB)
    generalize (((w17.setCell ⟨gb601, 0, none⟩ (.int .i64 t595)).setCell ⟨gb601, 1, none⟩ (.int .i64 t596)).setCell ⟨gb601, 2, none⟩ (.slice Ao20 t597.length co20)) = w21 at n0_ n1_ n2_ n3_ ⊢
    have HO599 := n0_
    have BK601 := n1_
    have HI594 := n2_
    have HB := n3_
    clear n0_ n1_ n2_ n3_
    have n0_ := Aside0.mk (Kd.R_drew HO599.out)
    have n1_ := Aside0.mk (blk_drew BK601.out)
    have n2_ := Aside0.mk (IsS54.drew HI594.out)
    have n3_ := Aside0.mk (below_drew1 HB.out)
    clear HO599 BK601 HI594 HB
    have HO599 := n0_
    have BK601 := n1_
    have HI594 := n2_
    have HB := n3_
    clear n0_ n1_ n2_ n3_
    refine start_ (n := 23) (S := fun w' => w'.cell? ⟨gb601, 0, none⟩ = some (.int .i64 t595) ∧ w'.cell? ⟨gb601, 1, none⟩ = some (.int .i64 t596) ∧ w'.cell? ⟨gb601, 2, none⟩ = some (.slice Ao20 t597.length co20)) (ds := []) #[false, false, false, false, false, false, false, false, false, false, false, false, false, false, false, false, false, false, false, false, false, false, false] (by kernel_rfl) rfl rfl ⟨(blk_cell BK601.out 0).trans rfl, (blk_cell BK601.out 1).trans rfl, (blk_cell BK601.out 2).trans rfl⟩ (fun hHeld => ?_); refine with_tabW awardingbodylaw06_ItemPapers.tab2 awardingbodylaw06_ItemPapers.bits2 (fun HT_ HW_ => ?_)
    generalize w21.drew = w22 at HO599 BK601 HI594 HB hHeld ⊢
    refine take_ (i := 0) (N := some 7) (v := ?_) (a' := ?_) #[true, false, false, false, false, false, false, false, false, false, false, false, false, false, false, false, false, false, false, false, false, false, false] rfl rfl (take_ofW HT_.out HW_.out (by kernel_rfl)) (fun _ _ _ h => h) (Or.inl ⟨by rfl, ?_⟩) hHeld ?_ ?_
    rotate_left
    ·rintro w' ⟨s0, s1, s2⟩
     go_simp
     with_reducible rfl
    rotate_left
    ·simp only [Act.put, List.setIfInBounds_toArray, List.set_cons_zero, List.set_cons_succ, i64_w, i32_w]
     rfl
    refine take_ (i := 2) (N := some 9) (v := ?_) (a' := ?_) #[true, false, true, false, false, false, false, false, false, false, false, false, false, false, false, false, false, false, false, false, false, false, false] rfl rfl (take_ofW HT_.out HW_.out (by kernel_rfl)) (fun _ _ _ h => h) (Or.inl ⟨by rfl, ?_⟩) hHeld ?_ ?_
    rotate_left
    ·rintro w' ⟨s0, s1, s2⟩
     go_simp
     with_reducible rfl
    rotate_left
    ·simp only [Act.put, List.setIfInBounds_toArray, List.set_cons_zero, List.set_cons_succ, i64_w, i32_w]
     rfl
    refine one_ (i := 1) (N := some 8) #[true, true, true, false, false, false, false, false, false, false, false, false, false, false, false, false, false, false, false, false, false, false, false] rfl rfl (one_of HT_.out (by kernel_rfl)) (by decide) (fun K hK => ?_)
    refine goes_ Try.func27 (by kernel_rfl) rfl #[.agg #[.int .i64 t595, .int .i64 t596, .slice Ao20 t597.length co20]] (by rfl) rfl rfl (by (try simp only [List.map_toArray, List.map_cons, List.map_nil]); first | done | rfl | (simp only [List.length_drop, List.length_take]; rfl)) ?_
    with_reducible refine (item_ValidPaper.calls k t595 t596 _ _ t597 t602 _ ?side1 ?side2 A4.out).mono ?_
    (case side1 => repeat (first | exact (Kd.R_reads' HO599.out).2.2 | (with_reducible refine Kd.C_alloc ?_ _) | (with_reducible refine Kd.C_drewN ?_ _) | (with_reducible refine Kd.C_drew ?_)))
    (case side2 => exact (Kd.R_reads' HO599.out).2.1)
    rintro e w23 ⟨rfl, hb⟩
    refine ⟨_, rfl, ?_⟩
    have n0_ := Aside0.mk (Kd.R_below (by (with_reducible repeat (first | apply Kd.R_alloc | apply Kd.R_drewN | apply Kd.R_drew)); exact HO599.out) hb)
    have n1_ := Aside0.mk (IsS54.below (by repeat (first | (with_reducible first | exact HI594.out | apply IsS54.alloc | apply IsS54.drewN | apply IsS54.drew | apply IsS54.set_1 | refine IsS54.far ?_ NB594_601.out _) | exact HI594.out)) hb)
    have n2_ := Aside0.mk (blk_below (g := gb601) (o := .cells #[.int .i64 t595, .int .i64 t596, .slice Ao20 t597.length co20] 45 (0, 0)) (by (with_reducible repeat (first | refine blk_drewN ?_ _ | refine blk_drew ?_ | refine blk_alloc ?_ _)); exact BK601.out) hb)
    have n3_ := Aside0.mk (below_step (by repeat (first | (with_reducible first | exact HB.out | apply below_alloc | apply pw_below_drewN | apply below_drew1 | refine below_set ?_ (IsS54.ge HI594.out) | refine below_set ?_ GE601.out) | exact HB.out)) hb)
    clear HO599 HI594 BK601 HB
    have HO599 := n0_
    have HI594 := n1_
    have BK601 := n2_
    have HB := n3_
    clear n0_ n1_ n2_ n3_
    (try clear hb)
    (try clear hb2)
    (try clear hk)
    (try clear hi)
    refine hK.out _ _ ⟨(blk_cell BK601.out 0).trans rfl, (blk_cell BK601.out 1).trans rfl, (blk_cell BK601.out 2).trans rfl⟩ (fun hHeld => ?_)
    clear hK K
    refine norm_ (a' := ?_) ?_ ?_
    rotate_left
    ·show Act.put _ (some 8) _ = _
     simp only [Act.put, List.setIfInBounds_toArray, List.set_cons_zero, List.set_cons_succ, i64_w, i32_w]
     rfl
    refine one_ (i := 3) (N := some 10) #[true, true, true, true, false, false, false, false, false, false, false, false, false, false, false, false, false, false, false, false, false, false, false] rfl rfl (one_of HT_.out (by kernel_rfl)) (by decide) (fun K hK => ?_)
    refine goes_ Try.func28 (by kernel_rfl) rfl #[.agg #[.int .i64 t595, .int .i64 t596, .slice Ao20 t597.length co20]] (by rfl) rfl rfl (by (try simp only [List.map_toArray, List.map_cons, List.map_nil]); first | done | rfl | (simp only [List.length_drop, List.length_take]; rfl)) ?_
    with_reducible refine (awardingbodyref06_ValidPaper.calls k t595 t596 _ _ t597 t603 _ ?side1 ?side2 A5.out).mono ?_
    (case side1 => repeat (first | exact (Kd.R_reads' HO599.out).2.2 | (with_reducible refine Kd.C_alloc ?_ _) | (with_reducible refine Kd.C_drewN ?_ _) | (with_reducible refine Kd.C_drew ?_)))
    (case side2 => exact (Kd.R_reads' HO599.out).2.1)
    rintro e w24 ⟨rfl, hb⟩
    refine ⟨_, rfl, ?_⟩
    have n0_ := Aside0.mk (Kd.R_below (by (with_reducible repeat (first | apply Kd.R_alloc | apply Kd.R_drewN | apply Kd.R_drew)); exact HO599.out) hb)
    have n1_ := Aside0.mk (IsS54.below (by repeat (first | (with_reducible first | exact HI594.out | apply IsS54.alloc | apply IsS54.drewN | apply IsS54.drew | apply IsS54.set_1 | refine IsS54.far ?_ NB594_601.out _) | exact HI594.out)) hb)
    have n2_ := Aside0.mk (blk_below (g := gb601) (o := .cells #[.int .i64 t595, .int .i64 t596, .slice Ao20 t597.length co20] 45 (0, 0)) (by (with_reducible repeat (first | refine blk_drewN ?_ _ | refine blk_drew ?_ | refine blk_alloc ?_ _)); exact BK601.out) hb)
    have n3_ := Aside0.mk (below_step (by repeat (first | (with_reducible first | exact HB.out | apply below_alloc | apply pw_below_drewN | apply below_drew1 | refine below_set ?_ (IsS54.ge HI594.out) | refine below_set ?_ GE601.out) | exact HB.out)) hb)
    clear HO599 HI594 BK601 HB
    have HO599 := n0_
    have HI594 := n1_
    have BK601 := n2_
    have HB := n3_
    clear n0_ n1_ n2_ n3_
    (try clear hb)
    (try clear hb2)
    (try clear hk)
    (try clear hi)
    refine hK.out _ _ ⟨(blk_cell BK601.out 0).trans rfl, (blk_cell BK601.out 1).trans rfl, (blk_cell BK601.out 2).trans rfl⟩ (fun hHeld => ?_)
    clear hK K
    refine norm_ (a' := ?_) ?_ ?_
    rotate_left
    ·show Act.put _ (some 10) _ = _
     simp only [Act.put, List.setIfInBounds_toArray, List.set_cons_zero, List.set_cons_succ, i64_w, i32_w]
     rfl
    refine pure_ (i := 4) (N := some 11) (v := ?_) (a' := ?_) #[true, true, true, true, true, false, false, false, false, false, false, false, false, false, false, false, false, false, false, false, false, false, false] rfl rfl (any_of HT_.out (by kernel_rfl)) (fun _ _ _ h => h) (Or.inl ⟨by rfl, ?_⟩) ?_ ?_
    rotate_left
    ·intro w'
     go_simp
     with_reducible rfl
    rotate_left
    ·simp only [Act.put, List.setIfInBounds_toArray, List.set_cons_zero, List.set_cons_succ, i64_w, i32_w]
     rfl
    refine pure_ (i := 5) (N := some 12) (v := ?_) (a' := ?_) #[true, true, true, true, true, true, false, false, false, false, false, false, false, false, false, false, false, false, false, false, false, false, false] rfl rfl (any_of HT_.out (by kernel_rfl)) (fun _ _ _ h => h) (Or.inl ⟨by rfl, ?_⟩) ?_ ?_
    rotate_left
    ·intro w'
     go_simp
     with_reducible rfl
    rotate_left
    ·simp only [Act.put, List.setIfInBounds_toArray, List.set_cons_zero, List.set_cons_succ, i64_w, i32_w]
     rfl
    refine take_ (i := 6) (N := some 13) (v := ?_) (a' := ?_) #[true, true, true, true, true, true, true, false, false, false, false, false, false, false, false, false, false, false, false, false, false, false, false] rfl rfl (take_ofW HT_.out HW_.out (by kernel_rfl)) (fun _ _ _ h => h) (Or.inl ⟨by rfl, ?_⟩) hHeld ?_ ?_
    rotate_left
    ·rintro w' ⟨s0, s1, s2⟩
     go_simp
     with_reducible rfl
    rotate_left
    ·simp only [Act.put, List.setIfInBounds_toArray, List.set_cons_zero, List.set_cons_succ, i64_w, i32_w]
     rfl
    refine take_ (i := 8) (N := some 15) (v := ?_) (a' := ?_) #[true, true, true, true, true, true, true, false, true, false, false, false, false, false, false, false, false, false, false, false, false, false, false] rfl rfl (take_ofW HT_.out HW_.out (by kernel_rfl)) (fun _ _ _ h => h) (Or.inl ⟨by rfl, ?_⟩) hHeld ?_ ?_
    rotate_left
    ·rintro w' ⟨s0, s1, s2⟩
     go_simp
     with_reducible rfl
    rotate_left
    ·simp only [Act.put, List.setIfInBounds_toArray, List.set_cons_zero, List.set_cons_succ, i64_w, i32_w]
     rfl
    refine one_ (i := 7) (N := some 14) #[true, true, true, true, true, true, true, true, true, false, false, false, false, false, false, false, false, false, false, false, false, false, false] rfl rfl (one_of HT_.out (by kernel_rfl)) (by decide) (fun K hK => ?_)
    refine goes_ Try.func29 (by kernel_rfl) rfl #[.agg #[.int .i64 t595, .int .i64 t596, .slice Ao20 t597.length co20]] (by rfl) rfl rfl (by (try simp only [List.map_toArray, List.map_cons, List.map_nil]); first | done | rfl | (simp only [List.length_drop, List.length_take]; rfl)) ?_
    with_reducible refine (item_PaperTotal.calls k t595 t596 _ _ t597 t604 _ ?side1 ?side2 A7.out).mono ?_
    (case side1 => repeat (first | exact (Kd.R_reads' HO599.out).2.2 | (with_reducible refine Kd.C_alloc ?_ _) | (with_reducible refine Kd.C_drewN ?_ _) | (with_reducible refine Kd.C_drew ?_)))
    (case side2 => exact (Kd.R_reads' HO599.out).2.1)
    rintro e w25 ⟨rfl, hb⟩
    refine ⟨_, rfl, ?_⟩
    have n0_ := Aside0.mk (Kd.R_below (by (with_reducible repeat (first | apply Kd.R_alloc | apply Kd.R_drewN | apply Kd.R_drew)); exact HO599.out) hb)
    have n1_ := Aside0.mk (IsS54.below (by repeat (first | (with_reducible first | exact HI594.out | apply IsS54.alloc | apply IsS54.drewN | apply IsS54.drew | apply IsS54.set_1 | refine IsS54.far ?_ NB594_601.out _) | exact HI594.out)) hb)
    have n2_ := Aside0.mk (blk_below (g := gb601) (o := .cells #[.int .i64 t595, .int .i64 t596, .slice Ao20 t597.length co20] 45 (0, 0)) (by (with_reducible repeat (first | refine blk_drewN ?_ _ | refine blk_drew ?_ | refine blk_alloc ?_ _)); exact BK601.out) hb)
    have n3_ := Aside0.mk (below_step (by repeat (first | (with_reducible first | exact HB.out | apply below_alloc | apply pw_below_drewN | apply below_drew1 | refine below_set ?_ (IsS54.ge HI594.out) | refine below_set ?_ GE601.out) | exact HB.out)) hb)
    clear HO599 HI594 BK601 HB
    have HO599 := n0_
    have HI594 := n1_
    have BK601 := n2_
    have HB := n3_
    clear n0_ n1_ n2_ n3_
    (try clear hb)
    (try clear hb2)
    (try clear hk)
    (try clear hi)
    refine hK.out _ _ ⟨(blk_cell BK601.out 0).trans rfl, (blk_cell BK601.out 1).trans rfl, (blk_cell BK601.out 2).trans rfl⟩ (fun hHeld => ?_)
    clear hK K
    refine norm_ (a' := ?_) ?_ ?_
    rotate_left
    ·show Act.put _ (some 14) _ = _
     simp only [Act.put, List.setIfInBounds_toArray, List.set_cons_zero, List.set_cons_succ, i64_w, i32_w]
     rfl
    refine one_ (i := 9) (N := some 16) #[true, true, true, true, true, true, true, true, true, true, false, false, false, false, false, false, false, false, false, false, false, false, false] rfl rfl (one_of HT_.out (by kernel_rfl)) (by decide) (fun K hK => ?_)
    refine goes_ Try.func30 (by kernel_rfl) rfl #[.agg #[.int .i64 t595, .int .i64 t596, .slice Ao20 t597.length co20]] (by rfl) rfl rfl (by (try simp only [List.map_toArray, List.map_cons, List.map_nil]); first | done | rfl | (simp only [List.length_drop, List.length_take]; rfl)) ?_
    with_reducible refine (awardingbodyref06_PaperTotal.calls k t595 t596 _ _ t597 t605 _ ?side1 ?side2 A8.out).mono ?_
    (case side1 => repeat (first | exact (Kd.R_reads' HO599.out).2.2 | (with_reducible refine Kd.C_alloc ?_ _) | (with_reducible refine Kd.C_drewN ?_ _) | (with_reducible refine Kd.C_drew ?_)))
    (case side2 => exact (Kd.R_reads' HO599.out).2.1)
    rintro e w26 ⟨rfl, hb⟩
    refine ⟨_, rfl, ?_⟩
    have n0_ := Aside0.mk (Kd.R_below (by (with_reducible repeat (first | apply Kd.R_alloc | apply Kd.R_drewN | apply Kd.R_drew)); exact HO599.out) hb)
    have n1_ := Aside0.mk (IsS54.below (by repeat (first | (with_reducible first | exact HI594.out | apply IsS54.alloc | apply IsS54.drewN | apply IsS54.drew | apply IsS54.set_1 | refine IsS54.far ?_ NB594_601.out _) | exact HI594.out)) hb)
    have n2_ := Aside0.mk (blk_below (g := gb601) (o := .cells #[.int .i64 t595, .int .i64 t596, .slice Ao20 t597.length co20] 45 (0, 0)) (by (with_reducible repeat (first | refine blk_drewN ?_ _ | refine blk_drew ?_ | refine blk_alloc ?_ _)); exact BK601.out) hb)
    have n3_ := Aside0.mk (below_step (by repeat (first | (with_reducible first | exact HB.out | apply below_alloc | apply pw_below_drewN | apply below_drew1 | refine below_set ?_ (IsS54.ge HI594.out) | refine below_set ?_ GE601.out) | exact HB.out)) hb)
    clear HO599 HI594 BK601 HB
    have HO599 := n0_
    have HI594 := n1_
    have BK601 := n2_
    have HB := n3_
    clear n0_ n1_ n2_ n3_
    (try clear hb)
    (try clear hb2)
    (try clear hk)
    (try clear hi)
    refine hK.out _ _ ⟨(blk_cell BK601.out 0).trans rfl, (blk_cell BK601.out 1).trans rfl, (blk_cell BK601.out 2).trans rfl⟩ (fun hHeld => ?_)
    clear hK K
    refine norm_ (a' := ?_) ?_ ?_
    rotate_left
    ·show Act.put _ (some 16) _ = _
     simp only [Act.put, List.setIfInBounds_toArray, List.set_cons_zero, List.set_cons_succ, i64_w, i32_w]
     rfl
    refine pure_ (i := 10) (N := some 17) (v := ?_) (a' := ?_) #[true, true, true, true, true, true, true, true, true, true, true, false, false, false, false, false, false, false, false, false, false, false, false] rfl rfl (any_of HT_.out (by kernel_rfl)) (fun _ _ _ h => h) (Or.inl ⟨by rfl, ?_⟩) ?_ ?_
    rotate_left
    ·intro w'
     go_simp
     with_reducible rfl
    rotate_left
    ·simp only [Act.put, List.setIfInBounds_toArray, List.set_cons_zero, List.set_cons_succ, i64_w, i32_w]
     rfl
    refine pure_ (i := 11) (N := some 18) (v := ?_) (a' := ?_) #[true, true, true, true, true, true, true, true, true, true, true, true, false, false, false, false, false, false, false, false, false, false, false] rfl rfl (any_of HT_.out (by kernel_rfl)) (fun _ _ _ h => h) (Or.inl ⟨by rfl, ?_⟩) ?_ ?_
    rotate_left
    ·intro w'
     go_simp
     with_reducible rfl
    rotate_left
    ·simp only [Act.put, List.setIfInBounds_toArray, List.set_cons_zero, List.set_cons_succ, i64_w, i32_w]
     rfl
    refine pure_ (i := 12) (N := some 19) (v := ?_) (a' := ?_) #[true, true, true, true, true, true, true, true, true, true, true, true, true, false, false, false, false, false, false, false, false, false, false] rfl rfl (any_of HT_.out (by kernel_rfl)) (fun _ _ _ h => h) (Or.inl ⟨by rfl, ?_⟩) ?_ ?_
    rotate_left
    ·intro w'
     go_simp
     with_reducible rfl
    rotate_left
    ·simp only [Act.put, List.setIfInBounds_toArray, List.set_cons_zero, List.set_cons_succ, i64_w, i32_w]
     rfl
    refine take_ (i := 13) (N := some 20) (v := ?_) (a' := ?_) #[true, true, true, true, true, true, true, true, true, true, true, true, true, true, false, false, false, false, false, false, false, false, false] rfl rfl (take_ofW HT_.out HW_.out (by kernel_rfl)) (fun _ _ _ h => h) (Or.inl ⟨by rfl, ?_⟩) hHeld ?_ ?_
    rotate_left
    ·rintro w' ⟨s0, s1, s2⟩
     go_simp
     with_reducible rfl
    rotate_left
    ·simp only [Act.put, List.setIfInBounds_toArray, List.set_cons_zero, List.set_cons_succ, i64_w, i32_w]
     rfl
    refine take_ (i := 15) (N := some 22) (v := ?_) (a' := ?_) #[true, true, true, true, true, true, true, true, true, true, true, true, true, true, false, true, false, false, false, false, false, false, false] rfl rfl (take_ofW HT_.out HW_.out (by kernel_rfl)) (fun _ _ _ h => h) (Or.inl ⟨by rfl, ?_⟩) hHeld ?_ ?_
    rotate_left
    ·rintro w' ⟨s0, s1, s2⟩
     go_simp
     with_reducible rfl
    rotate_left
    ·simp only [Act.put, List.setIfInBounds_toArray, List.set_cons_zero, List.set_cons_succ, i64_w, i32_w]
     rfl
    refine one_ (i := 14) (N := some 21) #[true, true, true, true, true, true, true, true, true, true, true, true, true, true, true, true, false, false, false, false, false, false, false] rfl rfl (one_of HT_.out (by kernel_rfl)) (by decide) (fun K hK => ?_)
    refine goes_ Try.func34 (by kernel_rfl) rfl #[.agg #[.int .i64 t595, .int .i64 t596, .slice Ao20 t597.length co20]] (by rfl) rfl rfl (by (try simp only [List.map_toArray, List.map_cons, List.map_nil]); first | done | rfl | (simp only [List.length_drop, List.length_take]; rfl)) ?_
    with_reducible refine (item_Choices.calls k t595 t596 _ _ t597 t606 _ ?side1 ?side2 A10.out).mono ?_
    (case side1 => repeat (first | exact (Kd.R_reads' HO599.out).2.2 | (with_reducible refine Kd.C_alloc ?_ _) | (with_reducible refine Kd.C_drewN ?_ _) | (with_reducible refine Kd.C_drew ?_)))
    (case side2 => exact (Kd.R_reads' HO599.out).2.1)
    rintro e w27 ⟨v607, rfl, ho0, hb⟩
    refine ⟨_, rfl, ?_⟩
    have n0_ := Aside0.mk (Kd.R_below (by (with_reducible repeat (first | apply Kd.R_alloc | apply Kd.R_drewN | apply Kd.R_drew)); exact HO599.out) hb)
    have n1_ := Aside0.mk (Kd.R_lower ho0 (below_size (by repeat (first | (with_reducible first | exact HB.out | apply below_alloc | apply pw_below_drewN | apply below_drew1 | refine below_set ?_ (IsS54.ge HI594.out) | refine below_set ?_ GE601.out) | exact HB.out))))
    have n2_ := Aside0.mk (IsS54.below (by repeat (first | (with_reducible first | exact HI594.out | apply IsS54.alloc | apply IsS54.drewN | apply IsS54.drew | apply IsS54.set_1 | refine IsS54.far ?_ NB594_601.out _) | exact HI594.out)) hb)
    have n3_ := Aside0.mk (blk_below (g := gb601) (o := .cells #[.int .i64 t595, .int .i64 t596, .slice Ao20 t597.length co20] 45 (0, 0)) (by (with_reducible repeat (first | refine blk_drewN ?_ _ | refine blk_drew ?_ | refine blk_alloc ?_ _)); exact BK601.out) hb)
    have n4_ := Aside0.mk (below_step (by repeat (first | (with_reducible first | exact HB.out | apply below_alloc | apply pw_below_drewN | apply below_drew1 | refine below_set ?_ (IsS54.ge HI594.out) | refine below_set ?_ GE601.out) | exact HB.out)) hb)
    clear HO599 HI594 BK601 HB
    have HO599 := n0_
    have HO608 := n1_
    have HI594 := n2_
    have BK601 := n3_
    have HB := n4_
    clear n0_ n1_ n2_ n3_ n4_
    (try clear hb)
    (try clear hb2)
    (try clear hk)
    (try clear hi)
    (try clear ho0)
    refine hK.out _ _ ⟨(blk_cell BK601.out 0).trans rfl, (blk_cell BK601.out 1).trans rfl, (blk_cell BK601.out 2).trans rfl⟩ (fun hHeld => ?_)
    clear hK K
    refine norm_ (a' := ?_) ?_ ?_
    rotate_left
    ·show Act.put _ (some 21) _ = _
     simp only [Act.put, List.setIfInBounds_toArray, List.set_cons_zero, List.set_cons_succ, i64_w, i32_w]
     rfl
    refine one_ (i := 16) (N := some 23) #[true, true, true, true, true, true, true, true, true, true, true, true, true, true, true, true, true, false, false, false, false, false, false] rfl rfl (one_of HT_.out (by kernel_rfl)) (by decide) (fun K hK => ?_)
    refine goes_ Try.func35 (by kernel_rfl) rfl #[.agg #[.int .i64 t595, .int .i64 t596, .slice Ao20 t597.length co20]] (by rfl) rfl rfl (by (try simp only [List.map_toArray, List.map_cons, List.map_nil]); first | done | rfl | (simp only [List.length_drop, List.length_take]; rfl)) ?_
    with_reducible refine (awardingbodyref06_Choices.calls k t595 t596 _ _ t597 t609 _ ?side1 ?side2 A11.out).mono ?_
    (case side1 => repeat (first | exact (Kd.R_reads' HO599.out).2.2 | (with_reducible refine Kd.C_alloc ?_ _) | (with_reducible refine Kd.C_drewN ?_ _) | (with_reducible refine Kd.C_drew ?_)))
    (case side2 => exact (Kd.R_reads' HO599.out).2.1)
    rintro e w28 ⟨v610, rfl, ho0, hb⟩
    refine ⟨_, rfl, ?_⟩
    have n0_ := Aside0.mk (Kd.R_below (by (with_reducible repeat (first | apply Kd.R_alloc | apply Kd.R_drewN | apply Kd.R_drew)); exact HO599.out) hb)
    have n1_ := Aside0.mk (Kd.R_elder' (by (with_reducible repeat (first | apply Kd.R_alloc | apply Kd.R_drewN | apply Kd.R_drew)); exact HO608.out) (Kd.R_base ho0) hb)
    have n2_ := Aside0.mk (Kd.R_lower (Kd.R_new' ho0 (Kd.R_lt (by (with_reducible repeat (first | apply Kd.R_alloc | apply Kd.R_drewN | apply Kd.R_drew)); exact HO608.out))) (below_size (by repeat (first | (with_reducible first | exact HB.out | apply below_alloc | apply pw_below_drewN | apply below_drew1 | refine below_set ?_ (IsS54.ge HI594.out) | refine below_set ?_ GE601.out) | exact HB.out))))
    have n3_ := Aside0.mk (IsS54.below (by repeat (first | (with_reducible first | exact HI594.out | apply IsS54.alloc | apply IsS54.drewN | apply IsS54.drew | apply IsS54.set_1 | refine IsS54.far ?_ NB594_601.out _) | exact HI594.out)) hb)
    have n4_ := Aside0.mk (blk_below (g := gb601) (o := .cells #[.int .i64 t595, .int .i64 t596, .slice Ao20 t597.length co20] 45 (0, 0)) (by (with_reducible repeat (first | refine blk_drewN ?_ _ | refine blk_drew ?_ | refine blk_alloc ?_ _)); exact BK601.out) hb)
    have n5_ := Aside0.mk (below_step (by repeat (first | (with_reducible first | exact HB.out | apply below_alloc | apply pw_below_drewN | apply below_drew1 | refine below_set ?_ (IsS54.ge HI594.out) | refine below_set ?_ GE601.out) | exact HB.out)) hb)
    clear HO599 HO608 HI594 BK601 HB
    have HO599 := n0_
    have HO608 := n1_
    have HO611 := n2_
    have HI594 := n3_
    have BK601 := n4_
    have HB := n5_
    clear n0_ n1_ n2_ n3_ n4_ n5_
    (try clear hb)
    (try clear hb2)
    (try clear hk)
    (try clear hi)
    (try clear ho0)
    obtain ⟨Ao29, co29, eo29⟩ := Kd.R_slice HO608.out
    (first | subst eo29 | (injection eo29 with f1_ f2_ f3_; have f4_ := f1_.symm; have f5_ := f3_.symm; clear f1_ f2_ f3_; subst f4_; subst f5_))
    obtain ⟨Ao30, co30, eo30⟩ := Kd.R_slice HO611.out
    (first | subst eo30 | (injection eo30 with f1_ f2_ f3_; have f4_ := f1_.symm; have f5_ := f3_.symm; clear f1_ f2_ f3_; subst f4_; subst f5_))
    refine hK.out _ _ ⟨(blk_cell BK601.out 0).trans rfl, (blk_cell BK601.out 1).trans rfl, (blk_cell BK601.out 2).trans rfl⟩ (fun hHeld => ?_)
    clear hK K
    refine norm_ (a' := ?_) ?_ ?_
    rotate_left
    ·show Act.put _ (some 23) _ = _
     simp only [Act.put, List.setIfInBounds_toArray, List.set_cons_zero, List.set_cons_succ, i64_w, i32_w]
     rfl
    refine one_ (i := 17) (N := some 24) #[true, true, true, true, true, true, true, true, true, true, true, true, true, true, true, true, true, true, false, false, false, false, false] rfl rfl (one_of HT_.out (by kernel_rfl)) (by decide) (fun K hK => ?_)
    refine goes_ Try.func24 (by kernel_rfl) rfl #[.slice Ao29 t606.length co29, .slice Ao30 t609.length co30] (by rfl) rfl rfl (by (try simp only [List.map_toArray, List.map_cons, List.map_nil]); first | done | rfl | (simp only [List.length_drop, List.length_take]; rfl)) ?_
    with_reducible refine (awardingbodyref06_Ints.calls k _ _ t606 _ _ t609 true _ ?side1 ?side2 ?side3 ?side4 A12.out).mono ?_
    (case side1 => repeat (first | exact (Kd.R_reads' HO608.out).2.2 | (with_reducible refine Kd.C_alloc ?_ _) | (with_reducible refine Kd.C_drewN ?_ _) | (with_reducible refine Kd.C_drew ?_)))
    (case side2 => exact (Kd.R_reads' HO608.out).2.1)
    (case side3 => repeat (first | exact (Kd.R_reads' HO611.out).2.2 | (with_reducible refine Kd.C_alloc ?_ _) | (with_reducible refine Kd.C_drewN ?_ _) | (with_reducible refine Kd.C_drew ?_)))
    (case side4 => exact (Kd.R_reads' HO611.out).2.1)
    rintro e w' ⟨rfl, ⟨nd, rfl⟩⟩
    refine ⟨_, rfl, ?_⟩
    refine hK.out _ _ ⟨(blk_cell BK601.out 0).trans rfl, (blk_cell BK601.out 1).trans rfl, (blk_cell BK601.out 2).trans rfl⟩ (fun hHeld => ?_)
    clear hK K
    refine norm_ (a' := ?_) ?_ ?_
    rotate_left
    ·show Act.put _ (some 24) _ = _
     simp only [Act.put, List.setIfInBounds_toArray, List.set_cons_zero, List.set_cons_succ, i64_w, i32_w]
     rfl
    refine pure_ (i := 18) (N := some 25) (v := ?_) (a' := ?_) #[true, true, true, true, true, true, true, true, true, true, true, true, true, true, true, true, true, true, true, false, false, false, false] rfl rfl (any_of HT_.out (by kernel_rfl)) (fun _ _ _ h => h) (Or.inl ⟨by rfl, ?_⟩) ?_ ?_
    rotate_left
    ·intro w'
     go_simp
     with_reducible rfl
    rotate_left
    ·simp only [Act.put, List.setIfInBounds_toArray, List.set_cons_zero, List.set_cons_succ, i64_w, i32_w]
     rfl
    refine pure_ (i := 19) (N := some 26) (v := ?_) (a' := ?_) #[true, true, true, true, true, true, true, true, true, true, true, true, true, true, true, true, true, true, true, true, false, false, false] rfl rfl (any_of HT_.out (by kernel_rfl)) (fun _ _ _ h => h) (Or.inl ⟨by rfl, ?_⟩) ?_ ?_
    rotate_left
    ·intro w'
     go_simp
     with_reducible rfl
    rotate_left
    ·simp only [Act.put, List.setIfInBounds_toArray, List.set_cons_zero, List.set_cons_succ, i64_w, i32_w]
     rfl
    refine one_ (i := 20) (N := some 27) #[true, true, true, true, true, true, true, true, true, true, true, true, true, true, true, true, true, true, true, true, true, false, false] rfl rfl (one_of HT_.out (by kernel_rfl)) (by decide) (fun K hK => ?_)
    refine goes_ Try.func14 (by kernel_rfl) rfl #[] (by rfl) rfl rfl (by (try simp only [List.map_toArray, List.map_cons, List.map_nil]); first | done | rfl | (simp only [List.length_drop, List.length_take]; rfl)) ?_
    with_reducible refine (awardingbodylaw06_awake.calls k  t613 _ A14.out).mono ?_
    rintro e w31 ⟨rfl, hb⟩
    refine ⟨_, rfl, ?_⟩
    have n0_ := Aside0.mk (Kd.R_below (by (with_reducible repeat (first | apply Kd.R_alloc | apply Kd.R_drewN | apply Kd.R_drew)); exact HO599.out) hb)
    have n1_ := Aside0.mk (Kd.R_below (by (with_reducible repeat (first | apply Kd.R_alloc | apply Kd.R_drewN | apply Kd.R_drew)); exact HO608.out) hb)
    have n2_ := Aside0.mk (Kd.R_below (by (with_reducible repeat (first | apply Kd.R_alloc | apply Kd.R_drewN | apply Kd.R_drew)); exact HO611.out) hb)
    have n3_ := Aside0.mk (IsS54.below (by repeat (first | (with_reducible first | exact HI594.out | apply IsS54.alloc | apply IsS54.drewN | apply IsS54.drew | apply IsS54.set_1 | refine IsS54.far ?_ NB594_601.out _) | exact HI594.out)) hb)
    have n4_ := Aside0.mk (blk_below (g := gb601) (o := .cells #[.int .i64 t595, .int .i64 t596, .slice Ao20 t597.length co20] 45 (0, 0)) (by (with_reducible repeat (first | refine blk_drewN ?_ _ | refine blk_drew ?_ | refine blk_alloc ?_ _)); exact BK601.out) hb)
    have n5_ := Aside0.mk (below_step (by repeat (first | (with_reducible first | exact HB.out | apply below_alloc | apply pw_below_drewN | apply below_drew1 | refine below_set ?_ (IsS54.ge HI594.out) | refine below_set ?_ GE601.out) | exact HB.out)) hb)
    clear HO599 HO608 HO611 HI594 BK601 HB
    have HO599 := n0_
    have HO608 := n1_
    have HO611 := n2_
    have HI594 := n3_
    have BK601 := n4_
    have HB := n5_
    clear n0_ n1_ n2_ n3_ n4_ n5_
    (try clear hb)
    (try clear hb2)
    (try clear hk)
    (try clear hi)
    refine hK.out _ _ ⟨(blk_cell BK601.out 0).trans rfl, (blk_cell BK601.out 1).trans rfl, (blk_cell BK601.out 2).trans rfl⟩ (fun hHeld => ?_)
    clear hK K
    refine norm_ (a' := ?_) ?_ ?_
    rotate_left
    ·show Act.put _ (some 27) _ = _
     simp only [Act.put, List.setIfInBounds_toArray, List.set_cons_zero, List.set_cons_succ, i64_w, i32_w]
     rfl
    refine pure_ (i := 21) (N := some 28) (v := ?_) (a' := ?_) #[true, true, true, true, true, true, true, true, true, true, true, true, true, true, true, true, true, true, true, true, true, true, false] rfl rfl (any_of HT_.out (by kernel_rfl)) (fun _ _ _ h => h) (Or.inl ⟨by rfl, ?_⟩) ?_ ?_
    rotate_left
    ·intro w'
     go_simp
     with_reducible rfl
    rotate_left
    ·simp only [Act.put, List.setIfInBounds_toArray, List.set_cons_zero, List.set_cons_succ, i64_w, i32_w]
     rfl
    refine pure_ (i := 22) (N := some 2) (v := ?_) (a' := ?_) #[true, true, true, true, true, true, true, true, true, true, true, true, true, true, true, true, true, true, true, true, true, true, true] rfl rfl (any_of HT_.out (by kernel_rfl)) (fun _ _ _ h => h) (Or.inl ⟨by rfl, ?_⟩) ?_ ?_
    rotate_left
    ·intro w'
     go_simp
     with_reducible rfl
    rotate_left
    ·simp only [Act.put, List.setIfInBounds_toArray, List.set_cons_zero, List.set_cons_succ, i64_w, i32_w]
     rfl
    refine done_ (done_of HT_.out (by kernel_rfl)) ?_
    try go_wp2
    go_ret
    exact ⟨by first | rfl | (simp [errW_none, errW_some] <;> rfl) | (simp [*, errW_none, errW_some] <;> rfl), by repeat (first | (with_reducible first | exact HB.out | apply below_alloc | apply pw_below_drewN | apply below_drew1 | refine below_set ?_ (IsS54.ge HI594.out) | refine below_set ?_ GE601.out) | exact HB.out)⟩
   ·replace c13 := Bool.eq_false_iff.mpr c13
    subst c13
    have H1 : (none) = some r := by rw [if_neg (show ¬ (false = true) by decide)] at H; exact H
    clear H
    have H := H1
    clear H1
    exact absurd H (by simp)
  ·rw [if_neg c9] at H
   have c9b0 : (t604 == t605) = false := beq_eq_false_iff_ne.mpr c9
   have c9b1 : (t604 != t605) = true := bne_iff_ne.mpr c9
   exact absurd H (by simp)
 ·rw [if_neg c6] at H
  have c6b0 : (t602 == t603) = false := by simpa using c6
  (try (have c6b1 : decide (t602 = t603) = false := by simpa using c6))
  (try (have c6b2 : (t602 == t603) = false := by simpa using c6))
  (try (have c6b3 : ¬ (t602 = t603) := by simpa using c6))
  clear c6
  exact absurd H (by simp)

/-- THE ONE PURE STATEMENT of awardingbodylaw06_ItemPapers: yours. -/
def awardingbodylaw06_ItemPapers.Pure : Prop := ∀ (l0 : List Int), l0.length ≤ maxLen → l0.length * 8 ≤ 140737488351232 → (∀ x ∈ l0, (Lit.int .i64 x).wf = true) → ∃ k, awardingbodylaw06_ItemPapers.f k l0 = some true
theorem awardingbodylaw06_ItemPapers.walk (P : awardingbodylaw06_ItemPapers.Pure) (a0 : Option Addr) (len0 cap0 : Nat) (z0 : List Int) (w : World) (w0 : (a0 = none ∧ len0 = 0 ∧ cap0 = 0 ∧ z0 = []) ∨ ∃ x, a0 = some x ∧ len0 ≤ cap0 ∧ cap0 ≤ maxLen ∧ z0.length = cap0 ∧ (∀ i, i < z0.length → w.cell? (x.add i) = some (.int .i64 (z0.getD i 0))) ∧ ∀ n ∈ z0, (Lit.int .i64 n).wf = true) (y0 : len0 * 8 ≤ 140737488351232) :
  Calls Try.prog 9 #[.slice a0 len0 cap0] w fun e w' => e = .returned (.bool true) ∧ Below w.heap.size w w' := by
 obtain ⟨l0, rfl, hr0, hm0, hw0, hc0⟩ := ReadsInt.ofRowC w0
 obtain ⟨k, h⟩ := P l0 hm0 y0 hw0
 refine (awardingbodylaw06_ItemPapers.calls k _ _ l0 true w (Kd.C_of_reads (d := (0 : Int)) (h1 := fun _ => rfl) hr0) hc0 h).mono ?_
 rintro e w' ⟨rfl, hd⟩
 exact ⟨rfl, hd⟩

end Go.Proofs.Ytinmdoemkejanaa.Print
