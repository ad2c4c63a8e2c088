-- Printed by a program of this session (wip/own_print.py) out of the translation; Lean checks it.
import Derived.Test.YtinmdoemkejanaaPrint0
import Derived.Test.YtinmdoemkejanaaPrint5
import Derived.Test.YtinmdoemkejanaaPrint7
import Derived.Test.YtinmdoemkejanaaPrint9
import Derived.Test.YtinmdoemkejanaaPrint12
import Derived.Test.YtinmdoemkejanaaPrint19
import Derived.Test.YtinmdoemkejanaaPrint28
namespace Go.Proofs.Ytinmdoemkejanaa.Print
open Go.RowKit Go.Proofs.YtinmdoemkejanaaW.PrintWords Go.Proofs.YtinmdoemkejanaaW.PrintLast Go.Proofs.YtinmdoemkejanaaW.PrintMore
attribute [local go_sem] max2_int min2_int max_two min_two max_three min_three max_four min_four   -- for this text's walks alone
set_option linter.unusedVariables false
set_option linter.unusedSimpArgs false

/-! ### awardingbodylaw06_ItemSums: function 10 -/
def awardingbodylaw06_ItemSums.l0 : Nat → List Int → Int → Int → Int → Int → ByteArray → List (S23) → List Int → Int → Int → List (S23) → Option (Bool)
  | 0, _, _, _, _, _, _, _, _, _, _, _ => none
  | k + 1, x5, x6, x7, x628000, x628001, x628002, x628003, x628004, x629000, x629001, x629002 => if x7 < (x628003.length : Int) then (if 0 ≤ x7 then (if ((rd_T23 x628003 x7).f0) = 2 then (if x6 ≥ (x5.length : Int) then (none) else (if 0 ≤ x6 then (if x6 < (x5.length : Int) then (if (rd x5 x6) = x7 then (awardingbodylaw06_ItemSums.l0 k x5 (wrap64 (x6 + 1)) (wrap64 (x7 + 1)) x628000 x628001 x628002 x628003 x628004 x629000 x629001 x629002) else (none)) else (none)) else (none))) else (awardingbodylaw06_ItemSums.l0 k x5 x6 (wrap64 (x7 + 1)) x628000 x628001 x628002 x628003 x628004 x629000 x629001 x629002)) else (none)) else (if x6 = (x5.length : Int) then ((item_Total.f k x628000 x628001 x628002 x628003 x628004).bind fun t634 => ((item_PaperTotal.f k x629000 x629001 x629002).bind fun t635 => (if t634 = t635 then ((item_Total.f k x628000 x628001 x628002 x628003 x628004).bind fun t636 => (if t636 > 0 then ((awardingbodylaw06_awake.f k).bind fun t637 => (some t637)) else (none))) else (none)))) else (none))
def awardingbodylaw06_ItemSums.f (k : Nat) (l0 : List Int) : Option (Bool) := (awardingbodymake_New.f l0).bind fun bt614 => ((awardingbodymake_Tape_Item.f k bt614.1 bt614.2 1 1 0).bind fun bt617 => ((item_Choices.f k 0 0 bt617.2.2.2.1).bind fun t629 => (awardingbodylaw06_ItemSums.l0 k t629 0 0 bt617.1 bt617.2.1 bt617.2.2.1 bt617.2.2.2.1 bt617.2.2.2.2.1 0 0 bt617.2.2.2.1)))
theorem awardingbodylaw06_ItemSums.mono_l : ∀ k, (∀ y0 y1 y2 y3 y4 y5 y6 y7 y8 y9 y10, LeO (awardingbodylaw06_ItemSums.l0 k y0 y1 y2 y3 y4 y5 y6 y7 y8 y9 y10) (awardingbodylaw06_ItemSums.l0 (k + 1) y0 y1 y2 y3 y4 y5 y6 y7 y8 y9 y10))
  | 0 => fun _ _ _ _ _ _ _ _ _ _ _ r h => by simp [awardingbodylaw06_ItemSums.l0] at h
  | k + 1 => by
    have ih0 := awardingbodylaw06_ItemSums.mono_l k
    · intro y0 y1 y2 y3 y4 y5 y6 y7 y8 y9 y10
      unfold awardingbodylaw06_ItemSums.l0
      repeat' first
      | (with_reducible exact ih0 _ _ _ _ _ _ _ _ _ _ _)
      | (with_reducible exact awardingbodylaw06_awake.mono _)
      | (with_reducible exact awardingbodymake_Tape_Item.mono _ _ _ _ _ _)
      | (with_reducible exact item_Choices.mono _ _ _ _)
      | (with_reducible exact item_PaperTotal.mono _ _ _ _)
      | (with_reducible exact item_Total.mono _ _ _ _ _ _)
      | (with_reducible exact LeO.refl _)
      | (with_reducible exact LeO.none _)
      | (with_reducible refine LeO.ite ?_ ?_)
      | (with_reducible refine LeO.bind ?_ (fun _ => ?_))
      | exact ih0 _ _ _ _ _ _ _ _ _ _ _
      | exact awardingbodylaw06_awake.mono _
      | exact awardingbodymake_Tape_Item.mono _ _ _ _ _ _
      | exact item_Choices.mono _ _ _ _
      | exact item_PaperTotal.mono _ _ _ _
      | exact item_Total.mono _ _ _ _ _ _
      | exact LeO.none _
      | refine LeO.ite ?_ ?_
      | refine LeO.bind ?_ (fun _ => ?_)
theorem awardingbodylaw06_ItemSums.mono : ∀ a0 k, LeO (awardingbodylaw06_ItemSums.f k a0) (awardingbodylaw06_ItemSums.f (k + 1) a0) := by
  intro a0 k
  have ih0 := awardingbodylaw06_ItemSums.mono_l k
  unfold awardingbodylaw06_ItemSums.f
  repeat' first
      | (with_reducible exact ih0 _ _ _ _ _ _ _ _ _ _ _)
      | (with_reducible exact awardingbodylaw06_awake.mono _)
      | (with_reducible exact awardingbodymake_Tape_Item.mono _ _ _ _ _ _)
      | (with_reducible exact item_Choices.mono _ _ _ _)
      | (with_reducible exact item_PaperTotal.mono _ _ _ _)
      | (with_reducible exact item_Total.mono _ _ _ _ _ _)
      | (with_reducible exact LeO.refl _)
      | (with_reducible exact LeO.none _)
      | (with_reducible refine LeO.ite ?_ ?_)
      | (with_reducible refine LeO.bind ?_ (fun _ => ?_))
      | exact ih0 _ _ _ _ _ _ _ _ _ _ _
      | exact awardingbodylaw06_awake.mono _
      | exact awardingbodymake_Tape_Item.mono _ _ _ _ _ _
      | exact item_Choices.mono _ _ _ _
      | exact item_PaperTotal.mono _ _ _ _
      | exact item_Total.mono _ _ _ _ _ _
      | exact LeO.none _
      | refine LeO.ite ?_ ?_
      | refine LeO.bind ?_ (fun _ => ?_)
def awardingbodylaw06_ItemSums.T12 : Bool × List (List Nat × List Nat) := (true, [([], []), ([], []), ([1], [1]), ([0, 2], [0, 2]), ([3], [3]), ([4], [4]), ([5, 4, 4], [4, 5]), ([4], [4]), ([7, 6, 4], [4, 7]), ([6, 8, 4], [4, 6, 8]), ([4, 9], [4, 9]), ([10, 8], [10]), ([11], [11]), ([12, 11, 11], [11, 12]), ([13, 11], [11, 13]), ([11, 14], [11, 14]), ([15, 13], [15]), ([16, 16], [16]), ([16, 17], [16, 17]), ([18, 17, 0, 1, 2, 3, 4, 5, 6, 7, 8, 9, 10, 11, 12, 13, 14, 15, 16, 17, 18], [18])])
def awardingbodylaw06_ItemSums.B12 : List Nat := [0, 0, 2, 7, 15, 31, 63, 31, 255, 511, 1023, 2047, 4095, 8191, 16383, 32767, 65535, 131071, 262143, 524287]
theorem awardingbodylaw06_ItemSums.tab12 : rtab .any (opsOf Try.f10 12) = awardingbodylaw06_ItemSums.T12 := by kernel_rfl
theorem awardingbodylaw06_ItemSums.bits12 : waitsOk awardingbodylaw06_ItemSums.T12.2 awardingbodylaw06_ItemSums.B12 = true := by kernel_rfl
set_option maxHeartbeats 8000000 in
set_option maxRecDepth 100000 in
theorem awardingbodylaw06_ItemSums.calls (k : Nat) (A0 : Option Addr) (c0 : Nat) (l0 : List Int) (r : Bool) (w : World) (hr0 : Kd.C (Kd.int .i64) w A0 l0.length l0) (hc0 : l0.length ≤ c0) (h : awardingbodylaw06_ItemSums.f k l0 = some r) :
    Calls Try.prog 10 #[.slice A0 l0.length c0] w fun e w' => e = .returned (.bool r) ∧ Below w.heap.size w w' := by
 have hu33 := Try.underlying33
 have hu45 := Try.underlying45
 have HR0 := Aside0.mk hr0
 have HC0 := Aside0.mk hc0
 clear hr0 hc0
 have HB := Aside0.mk (Below.refl w.heap.size w)
 have H : ((awardingbodymake_New.f l0).bind fun bt614 => ((awardingbodymake_Tape_Item.f k bt614.1 bt614.2 1 1 0).bind fun bt617 => ((item_Choices.f k 0 0 bt617.2.2.2.1).bind fun t629 => (awardingbodylaw06_ItemSums.l0 k t629 0 0 bt617.1 bt617.2.1 bt617.2.2.1 bt617.2.2.2.1 bt617.2.2.2.2.1 0 0 bt617.2.2.2.1)))) = some r := h
 clear h
 replace H := Option.bind_eq_some_iff.mp H
 obtain ⟨⟨t614, t615⟩, A20, H⟩ := H
 replace H : ((awardingbodymake_Tape_Item.f k t614 t615 1 1 0).bind fun bt617 => ((item_Choices.f k 0 0 bt617.2.2.2.1).bind fun t629 => (awardingbodylaw06_ItemSums.l0 k t629 0 0 bt617.1 bt617.2.1 bt617.2.2.1 bt617.2.2.2.1 bt617.2.2.2.2.1 0 0 bt617.2.2.2.1))) = some r := H
 have A2 := Aside0.mk A20
 clear A20
 replace H := Option.bind_eq_some_iff.mp H
 obtain ⟨⟨t617, t618, t619, t620, t623, t626⟩, A30, H⟩ := H
 replace H : ((item_Choices.f k 0 0 t620).bind fun t629 => (awardingbodylaw06_ItemSums.l0 k t629 0 0 t617 t618 t619 t620 t623 0 0 t620)) = some r := H
 have A3 := Aside0.mk A30
 clear A30
 replace H := Option.bind_eq_some_iff.mp H
 obtain ⟨t629, A40, H⟩ := H
 replace H : (awardingbodylaw06_ItemSums.l0 k t629 0 0 t617 t618 t619 t620 t623 0 0 t620) = some r := H
 have A4 := Aside0.mk A40
 clear A40
 have H' := Aside0.mk H
 clear H
 go_enter Try.func10, Try.ntmps10
 go_wp2_with (first | ((with_reducible refine gate_callee (f := 15) rfl ?_); refine goesL_ (some 9) rfl rfl Try.func15 (by kernel_rfl) rfl #[.slice A0 l0.length c0] rfl (by (try simp only [List.map_toArray, List.map_cons, List.map_nil]); first | done | rfl | (simp only [List.length_drop, List.length_take]; rfl)) ?_; (with_reducible refine (awardingbodymake_New.calls _ _ l0 t614 t615 w _ ?side1 ?side2 ?side3 A2.out).mono ?_); (case side1 => repeat (first | (with_reducible first | exact HB.out | apply below_alloc | apply pw_below_drewN | apply below_drew1) | exact HB.out)); (case side2 => exact HR0.out); (case side3 => exact HC0.out); rintro e w5 ⟨g616, rfl, hi, hb, hb2⟩; refine ⟨_, rfl, ?_⟩; have n0_ := Aside0.mk (hb); have n1_ := Aside0.mk (hi); clear HB; have HB := n0_; have HI616 := n1_; clear n0_ n1_; (try clear hb); (try clear hb2); (try clear hk); (try clear hi)) | ((with_reducible refine gate_callee (f := 16) rfl ?_); refine goesL_ (some 10) rfl rfl Try.func16 (by kernel_rfl) rfl #[.pointer (some ⟨g616, 0, none⟩), .int .i64 1, .int .i64 1, .int .i64 0] rfl (by (try simp only [List.map_toArray, List.map_cons, List.map_nil]); first | done | rfl | (simp only [List.length_drop, List.length_take]; rfl)) ?_; (with_reducible refine (awardingbodymake_Tape_Item.calls k g616 t614 t615 1 1 0 t617 t618 t619 t620 t623 t626 w _ ?side1 ?side2 A3.out).mono ?_); (case side1 => repeat (first | (with_reducible first | exact HI616.out | apply IsS54.alloc | apply IsS54.drewN | apply IsS54.drew | apply IsS54.set_1) | exact HI616.out)); (case side2 => repeat (first | (with_reducible first | exact HB.out | apply below_alloc | apply pw_below_drewN | apply below_drew1 | refine below_set ?_ (IsS54.ge HI616.out)) | exact HB.out)); rintro e w6 ⟨v621, v624, rfl, ho0, ho1, hi, hb, hk⟩; refine ⟨_, rfl, ?_⟩; have n0_ := Aside0.mk (Kd.R_lower ho0 (below_size (by repeat (first | (with_reducible first | exact HB.out | apply below_alloc | apply pw_below_drewN | apply below_drew1 | refine below_set ?_ (IsS54.ge HI616.out)) | exact HB.out)))); have n1_ := Aside0.mk (Kd.R_lower ho1 (below_size (by repeat (first | (with_reducible first | exact HB.out | apply below_alloc | apply pw_below_drewN | apply below_drew1 | refine below_set ?_ (IsS54.ge HI616.out)) | exact HB.out)))); have n2_ := Aside0.mk (hb); have n3_ := Aside0.mk (hi); clear HB HI616; have HO622 := n0_; have HO625 := n1_; have HB := n2_; have HI616 := n3_; clear n0_ n1_ n2_ n3_; (try clear hb); (try clear hb2); (try clear hk); (try clear hi); (try clear ho0); (try clear ho1)) | ((with_reducible refine gate_dst (N := 3) rfl ?_); refine box_event ?hg (N := 3) ?hd (cs := #[.int .i64 0, .int .i64 0, .string (⟨#[]⟩ : ByteArray), .slice none 0 0, .slice none 0 0]) (t := 33) ?hr ?_; (case hd => rfl); (case hg => rfl); (case hr => first | (go_simp; done) | (go_simp; rfl)); intro gb627 hg w7 hbox hb; have n0_ := Aside0.mk (Kd.R_below (by (with_reducible repeat (first | apply Kd.R_alloc | apply Kd.R_drewN | apply Kd.R_drew)); exact HO622.out) hb); have n1_ := Aside0.mk (Kd.R_below (by (with_reducible repeat (first | apply Kd.R_alloc | apply Kd.R_drewN | apply Kd.R_drew)); exact HO625.out) hb); have n2_ := Aside0.mk (IsS54.below (by repeat (first | (with_reducible first | exact HI616.out | apply IsS54.alloc | apply IsS54.drewN | apply IsS54.drew | apply IsS54.set_1) | exact HI616.out)) hb); have n3_ := Aside0.mk (below_step (by repeat (first | (with_reducible first | exact HB.out | apply below_alloc | apply pw_below_drewN | apply below_drew1 | refine below_set ?_ (IsS54.ge HI616.out)) | exact HB.out)) hb); have n4_ := Aside0.mk (hbox); have n5_ := Aside0.mk ((by rw [hg]; exact (below_size (by repeat (first | (with_reducible first | exact HB.out | apply below_alloc | apply pw_below_drewN | apply below_drew1 | refine below_set ?_ (IsS54.ge HI616.out)) | exact HB.out))) : w.heap.size ≤ gb627)); have n6_ := Aside0.mk ((by rw [hg]; exact (below_size (by repeat (first | (with_reducible first | exact HB.out | apply below_alloc | apply pw_below_drewN | apply below_drew1 | refine below_set ?_ (IsS54.ge HI616.out)) | exact HB.out))) : w.heap.size ≤ gb627)); have n7_ := Aside0.mk ((by rw [hg]; exact Nat.ne_of_lt (IsS54.lt (show IsS54 w _ g616 t614 t626 from by repeat (first | (with_reducible first | exact HI616.out | apply IsS54.alloc | apply IsS54.drewN | apply IsS54.drew | apply IsS54.set_1) | exact HI616.out))) : g616 ≠ gb627)); have n8_ := Aside0.mk ((by rw [hg]; exact Nat.ne_of_gt (IsS54.lt (show IsS54 w _ g616 t614 t626 from by repeat (first | (with_reducible first | exact HI616.out | apply IsS54.alloc | apply IsS54.drewN | apply IsS54.drew | apply IsS54.set_1) | exact HI616.out))) : gb627 ≠ g616)); clear HO622 HO625 HI616 HB; have HO622 := n0_; have HO625 := n1_; have HI616 := n2_; have HB := n3_; have BK627 := n4_; have GW627 := n5_; have GE627 := n6_; have NB616_627 := n7_; have NB627_616 := n8_; clear n0_ n1_ n2_ n3_ n4_ n5_ n6_ n7_ n8_ hb hbox hg; have hnb8 := NB627_616.out; have hnc8 := NB616_627.out; have hcz9_0 : w7.cell? ⟨gb627, 0, none⟩ = some (.int .i64 0) := (blk_cell BK627.out 0).trans rfl; have hcz9_1 : w7.cell? ⟨gb627, 1, none⟩ = some (.int .i64 0) := (blk_cell BK627.out 1).trans rfl; have hcz9_2 : w7.cell? ⟨gb627, 2, none⟩ = some (.string (⟨#[]⟩ : ByteArray)) := (blk_cell BK627.out 2).trans rfl; have hcz9_3 : w7.cell? ⟨gb627, 3, none⟩ = some (.slice none 0 0) := (blk_cell BK627.out 3).trans rfl; have hcz9_4 : w7.cell? ⟨gb627, 4, none⟩ = some (.slice none 0 0) := (blk_cell BK627.out 4).trans rfl; have hfz9_0 := blk_frozen BK627.out 0; have hfz9_1 := blk_frozen BK627.out 1; have hfz9_2 := blk_frozen BK627.out 2; have hfz9_3 := blk_frozen BK627.out 3; have hfz9_4 := blk_frozen BK627.out 4; obtain ⟨Ao10, co10, eo10⟩ := Kd.R_slice HO622.out; subst eo10; obtain ⟨Ao11, co11, eo11⟩ := Kd.R_slice HO625.out; subst eo11) | ((with_reducible refine gate_dst (N := 4) rfl ?_); refine box_event ?hg (N := 4) ?hd (cs := #[.int .i64 0, .int .i64 0, .slice none 0 0]) (t := 45) ?hr ?_; (case hd => rfl); (case hg => rfl); (case hr => first | (go_simp; done) | (go_simp; rfl)); intro gb628 hg w12 hbox hb; have n0_ := Aside0.mk (Kd.R_below (by (with_reducible repeat (first | apply Kd.R_alloc | apply Kd.R_drewN | apply Kd.R_drew)); exact (Kd.R_mono (Kd.R_far (p := ⟨gb627, 4, none⟩) (Kd.R_far (p := ⟨gb627, 3, none⟩) (Kd.R_far (p := ⟨gb627, 2, none⟩) (Kd.R_far (p := ⟨gb627, 1, none⟩) (Kd.R_far (p := ⟨gb627, 0, none⟩) (Kd.R_types HO622.out BK627.out (by decide)) (fun _ hk => hk.2) (.int .i64 t617)) (fun _ hk => hk.2) (.int .i64 t618)) (fun _ hk => hk.2) (.string t619)) (fun _ hk => hk.2) (.slice Ao10 t620.length co10)) (fun _ hk => hk.2) (.slice Ao11 t623.length co11)) (fun _ h_ => h_.1))) hb); have n1_ := Aside0.mk (Kd.R_below (by (with_reducible repeat (first | apply Kd.R_alloc | apply Kd.R_drewN | apply Kd.R_drew)); exact (Kd.R_mono (Kd.R_far (p := ⟨gb627, 4, none⟩) (Kd.R_far (p := ⟨gb627, 3, none⟩) (Kd.R_far (p := ⟨gb627, 2, none⟩) (Kd.R_far (p := ⟨gb627, 1, none⟩) (Kd.R_far (p := ⟨gb627, 0, none⟩) (Kd.R_types HO625.out BK627.out (by decide)) (fun _ hk => hk.2) (.int .i64 t617)) (fun _ hk => hk.2) (.int .i64 t618)) (fun _ hk => hk.2) (.string t619)) (fun _ hk => hk.2) (.slice Ao10 t620.length co10)) (fun _ hk => hk.2) (.slice Ao11 t623.length co11)) (fun _ h_ => h_.1))) hb); have n2_ := Aside0.mk (IsS54.below (show IsS54 w (((((w7.setCell ⟨gb627, 0, none⟩ (.int .i64 t617)).setCell ⟨gb627, 1, none⟩ (.int .i64 t618)).setCell ⟨gb627, 2, none⟩ (.string t619)).setCell ⟨gb627, 3, none⟩ (.slice Ao10 t620.length co10)).setCell ⟨gb627, 4, none⟩ (.slice Ao11 t623.length co11)) g616 t614 t626 from by repeat (first | (with_reducible first | exact HI616.out | apply IsS54.alloc | apply IsS54.drewN | apply IsS54.drew | apply IsS54.set_1 | refine IsS54.far ?_ NB616_627.out _) | exact HI616.out)) hb); have n3_ := Aside0.mk (blk_below (g := gb627) (o := .cells #[.int .i64 t617, .int .i64 t618, .string t619, .slice Ao10 t620.length co10, .slice Ao11 t623.length co11] 33 (0, 0)) (by (with_reducible repeat (first | refine blk_drewN ?_ _ | refine blk_drew ?_ | refine blk_alloc ?_ _)); refine blk_put (cs := #[.int .i64 t617, .int .i64 t618, .string t619, .slice Ao10 t620.length co10, .slice none 0 0]) ?_ 4 _ rfl; (with_reducible repeat (first | refine blk_drewN ?_ _ | refine blk_drew ?_ | refine blk_alloc ?_ _)); refine blk_put (cs := #[.int .i64 t617, .int .i64 t618, .string t619, .slice none 0 0, .slice none 0 0]) ?_ 3 _ rfl; (with_reducible repeat (first | refine blk_drewN ?_ _ | refine blk_drew ?_ | refine blk_alloc ?_ _)); refine blk_put (cs := #[.int .i64 t617, .int .i64 t618, .string (⟨#[]⟩ : ByteArray), .slice none 0 0, .slice none 0 0]) ?_ 2 _ rfl; (with_reducible repeat (first | refine blk_drewN ?_ _ | refine blk_drew ?_ | refine blk_alloc ?_ _)); refine blk_put (cs := #[.int .i64 t617, .int .i64 0, .string (⟨#[]⟩ : ByteArray), .slice none 0 0, .slice none 0 0]) ?_ 1 _ rfl; (with_reducible repeat (first | refine blk_drewN ?_ _ | refine blk_drew ?_ | refine blk_alloc ?_ _)); refine blk_put (cs := #[.int .i64 0, .int .i64 0, .string (⟨#[]⟩ : ByteArray), .slice none 0 0, .slice none 0 0]) ?_ 0 _ rfl; (with_reducible repeat (first | refine blk_drewN ?_ _ | refine blk_drew ?_ | refine blk_alloc ?_ _)); exact BK627.out) hb); have n4_ := Aside0.mk (below_step (by repeat (first | (with_reducible first | exact HB.out | apply below_alloc | apply pw_below_drewN | apply below_drew1 | refine below_set ?_ (IsS54.ge HI616.out) | refine below_set ?_ GE627.out) | exact HB.out)) hb); have n5_ := Aside0.mk (hbox); have n6_ := Aside0.mk ((by rw [hg]; exact (below_size (by repeat (first | (with_reducible first | exact HB.out | apply below_alloc | apply pw_below_drewN | apply below_drew1 | refine below_set ?_ (IsS54.ge HI616.out) | refine below_set ?_ GE627.out) | exact HB.out))) : w.heap.size ≤ gb628)); have n7_ := Aside0.mk ((by rw [hg]; exact (below_size (by repeat (first | (with_reducible first | exact HB.out | apply below_alloc | apply pw_below_drewN | apply below_drew1 | refine below_set ?_ (IsS54.ge HI616.out) | refine below_set ?_ GE627.out) | exact HB.out))) : w.heap.size ≤ gb628)); have n8_ := Aside0.mk ((by rw [hg]; exact Nat.ne_of_lt (blk_lt (g := gb627) (o := .cells #[.int .i64 t617, .int .i64 t618, .string t619, .slice Ao10 t620.length co10, .slice Ao11 t623.length co11] 33 (0, 0)) (by (with_reducible repeat (first | refine blk_drewN ?_ _ | refine blk_drew ?_ | refine blk_alloc ?_ _)); refine blk_put (cs := #[.int .i64 t617, .int .i64 t618, .string t619, .slice Ao10 t620.length co10, .slice none 0 0]) ?_ 4 _ rfl; (with_reducible repeat (first | refine blk_drewN ?_ _ | refine blk_drew ?_ | refine blk_alloc ?_ _)); refine blk_put (cs := #[.int .i64 t617, .int .i64 t618, .string t619, .slice none 0 0, .slice none 0 0]) ?_ 3 _ rfl; (with_reducible repeat (first | refine blk_drewN ?_ _ | refine blk_drew ?_ | refine blk_alloc ?_ _)); refine blk_put (cs := #[.int .i64 t617, .int .i64 t618, .string (⟨#[]⟩ : ByteArray), .slice none 0 0, .slice none 0 0]) ?_ 2 _ rfl; (with_reducible repeat (first | refine blk_drewN ?_ _ | refine blk_drew ?_ | refine blk_alloc ?_ _)); refine blk_put (cs := #[.int .i64 t617, .int .i64 0, .string (⟨#[]⟩ : ByteArray), .slice none 0 0, .slice none 0 0]) ?_ 1 _ rfl; (with_reducible repeat (first | refine blk_drewN ?_ _ | refine blk_drew ?_ | refine blk_alloc ?_ _)); refine blk_put (cs := #[.int .i64 0, .int .i64 0, .string (⟨#[]⟩ : ByteArray), .slice none 0 0, .slice none 0 0]) ?_ 0 _ rfl; (with_reducible repeat (first | refine blk_drewN ?_ _ | refine blk_drew ?_ | refine blk_alloc ?_ _)); exact BK627.out)) : gb627 ≠ gb628)); have n9_ := Aside0.mk ((by rw [hg]; exact Nat.ne_of_gt (blk_lt (g := gb627) (o := .cells #[.int .i64 t617, .int .i64 t618, .string t619, .slice Ao10 t620.length co10, .slice Ao11 t623.length co11] 33 (0, 0)) (by (with_reducible repeat (first | refine blk_drewN ?_ _ | refine blk_drew ?_ | refine blk_alloc ?_ _)); refine blk_put (cs := #[.int .i64 t617, .int .i64 t618, .string t619, .slice Ao10 t620.length co10, .slice none 0 0]) ?_ 4 _ rfl; (with_reducible repeat (first | refine blk_drewN ?_ _ | refine blk_drew ?_ | refine blk_alloc ?_ _)); refine blk_put (cs := #[.int .i64 t617, .int .i64 t618, .string t619, .slice none 0 0, .slice none 0 0]) ?_ 3 _ rfl; (with_reducible repeat (first | refine blk_drewN ?_ _ | refine blk_drew ?_ | refine blk_alloc ?_ _)); refine blk_put (cs := #[.int .i64 t617, .int .i64 t618, .string (⟨#[]⟩ : ByteArray), .slice none 0 0, .slice none 0 0]) ?_ 2 _ rfl; (with_reducible repeat (first | refine blk_drewN ?_ _ | refine blk_drew ?_ | refine blk_alloc ?_ _)); refine blk_put (cs := #[.int .i64 t617, .int .i64 0, .string (⟨#[]⟩ : ByteArray), .slice none 0 0, .slice none 0 0]) ?_ 1 _ rfl; (with_reducible repeat (first | refine blk_drewN ?_ _ | refine blk_drew ?_ | refine blk_alloc ?_ _)); refine blk_put (cs := #[.int .i64 0, .int .i64 0, .string (⟨#[]⟩ : ByteArray), .slice none 0 0, .slice none 0 0]) ?_ 0 _ rfl; (with_reducible repeat (first | refine blk_drewN ?_ _ | refine blk_drew ?_ | refine blk_alloc ?_ _)); exact BK627.out)) : gb628 ≠ gb627)); have n10_ := Aside0.mk ((by rw [hg]; exact Nat.ne_of_lt (IsS54.lt (show IsS54 w _ g616 t614 t626 from by repeat (first | (with_reducible first | exact HI616.out | apply IsS54.alloc | apply IsS54.drewN | apply IsS54.drew | apply IsS54.set_1 | refine IsS54.far ?_ NB616_627.out _) | exact HI616.out))) : g616 ≠ gb628)); have n11_ := Aside0.mk ((by rw [hg]; exact Nat.ne_of_gt (IsS54.lt (show IsS54 w _ g616 t614 t626 from by repeat (first | (with_reducible first | exact HI616.out | apply IsS54.alloc | apply IsS54.drewN | apply IsS54.drew | apply IsS54.set_1 | refine IsS54.far ?_ NB616_627.out _) | exact HI616.out))) : gb628 ≠ g616)); clear HO622 HO625 HI616 BK627 HB; have HO622 := n0_; have HO625 := n1_; have HI616 := n2_; have BK627 := n3_; have HB := n4_; have BK628 := n5_; have GW628 := n6_; have GE628 := n7_; have NB627_628 := n8_; have NB628_627 := n9_; have NB616_628 := n10_; have NB628_616 := n11_; clear n0_ n1_ n2_ n3_ n4_ n5_ n6_ n7_ n8_ n9_ n10_ n11_ hb hbox hg; have hnb13 := NB628_627.out; have hnc13 := NB627_628.out; have hnb14 := NB628_616.out; have hnc14 := NB616_628.out; have hcz15_0 : w12.cell? ⟨gb628, 0, none⟩ = some (.int .i64 0) := (blk_cell BK628.out 0).trans rfl; have hcz15_1 : w12.cell? ⟨gb628, 1, none⟩ = some (.int .i64 0) := (blk_cell BK628.out 1).trans rfl; have hcz15_2 : w12.cell? ⟨gb628, 2, none⟩ = some (.slice none 0 0) := (blk_cell BK628.out 2).trans rfl; have hfz15_0 := blk_frozen BK628.out 0; have hfz15_1 := blk_frozen BK628.out 1; have hfz15_2 := blk_frozen BK628.out 2) | ((with_reducible refine gate_callee (f := 34) rfl ?_); refine goesL_ (some 15) rfl rfl Try.func34 (by kernel_rfl) rfl #[.agg #[.int .i64 0, .int .i64 0, .slice Ao10 t620.length co10]] rfl (by (try simp only [List.map_toArray, List.map_cons, List.map_nil]); first | done | rfl | (simp only [List.length_drop, List.length_take]; rfl)) ?_; (with_reducible refine (item_Choices.calls k 0 0 _ _ t620 t629 _ ?side1 ?side2 A4.out).mono ?_); (case side1 => refine (Kd.R_reads' (e := 23) (base := w.heap.size) (ok := fun k_ => True) (n := t620.length) (c := co10) ?_).2.2; exact (by (with_reducible repeat (first | apply Kd.R_alloc | apply Kd.R_drewN | apply Kd.R_drew)); exact (Kd.R_mono (Kd.R_far (p := ⟨gb628, 2, none⟩) (Kd.R_far (p := ⟨gb628, 1, none⟩) (Kd.R_far (p := ⟨gb628, 0, none⟩) (Kd.R_types HO622.out BK628.out (by decide)) (fun _ hk => hk.2) (.int .i64 0)) (fun _ hk => hk.2) (.int .i64 0)) (fun _ hk => hk.2) (.slice Ao10 t620.length co10)) (fun _ h_ => h_.1)))); (case side2 => exact (Kd.R_reads' HO622.out).2.1); rintro e w16 ⟨v630, rfl, ho0, hb⟩; refine ⟨_, rfl, ?_⟩; have n0_ := Aside0.mk (Kd.R_below (by (with_reducible repeat (first | apply Kd.R_alloc | apply Kd.R_drewN | apply Kd.R_drew)); exact (Kd.R_mono (Kd.R_far (p := ⟨gb628, 2, none⟩) (Kd.R_far (p := ⟨gb628, 1, none⟩) (Kd.R_far (p := ⟨gb628, 0, none⟩) (Kd.R_types HO622.out BK628.out (by decide)) (fun _ hk => hk.2) (.int .i64 0)) (fun _ hk => hk.2) (.int .i64 0)) (fun _ hk => hk.2) (.slice Ao10 t620.length co10)) (fun _ h_ => h_.1))) hb); have n1_ := Aside0.mk (Kd.R_elder' (by (with_reducible repeat (first | apply Kd.R_alloc | apply Kd.R_drewN | apply Kd.R_drew)); exact (Kd.R_mono (Kd.R_far (p := ⟨gb628, 2, none⟩) (Kd.R_far (p := ⟨gb628, 1, none⟩) (Kd.R_far (p := ⟨gb628, 0, none⟩) (Kd.R_types HO625.out BK628.out (by decide)) (fun _ hk => hk.2) (.int .i64 0)) (fun _ hk => hk.2) (.int .i64 0)) (fun _ hk => hk.2) (.slice Ao10 t620.length co10)) (fun _ h_ => h_.1))) (Kd.R_base ho0) hb); have n2_ := Aside0.mk (Kd.R_lower (Kd.R_new' ho0 (Kd.R_lt (by (with_reducible repeat (first | apply Kd.R_alloc | apply Kd.R_drewN | apply Kd.R_drew)); exact (Kd.R_mono (Kd.R_far (p := ⟨gb628, 2, none⟩) (Kd.R_far (p := ⟨gb628, 1, none⟩) (Kd.R_far (p := ⟨gb628, 0, none⟩) (Kd.R_types HO625.out BK628.out (by decide)) (fun _ hk => hk.2) (.int .i64 0)) (fun _ hk => hk.2) (.int .i64 0)) (fun _ hk => hk.2) (.slice Ao10 t620.length co10)) (fun _ h_ => h_.1))))) (below_size (by repeat (first | (with_reducible first | exact HB.out | apply below_alloc | apply pw_below_drewN | apply below_drew1 | refine below_set ?_ (IsS54.ge HI616.out) | refine below_set ?_ GE627.out | refine below_set ?_ GE628.out) | exact HB.out)))); have n3_ := Aside0.mk (IsS54.below (show IsS54 w (((w12.setCell ⟨gb628, 0, none⟩ (.int .i64 0)).setCell ⟨gb628, 1, none⟩ (.int .i64 0)).setCell ⟨gb628, 2, none⟩ (.slice Ao10 t620.length co10)) g616 t614 t626 from by repeat (first | (with_reducible first | exact HI616.out | apply IsS54.alloc | apply IsS54.drewN | apply IsS54.drew | apply IsS54.set_1 | refine IsS54.far ?_ NB616_627.out _ | refine IsS54.far ?_ NB616_628.out _) | exact HI616.out)) hb); have n4_ := Aside0.mk (blk_below (g := gb627) (o := .cells #[.int .i64 t617, .int .i64 t618, .string t619, .slice Ao10 t620.length co10, .slice Ao11 t623.length co11] 33 (0, 0)) (by (with_reducible repeat (first | refine blk_drewN ?_ _ | refine blk_drew ?_ | refine blk_alloc ?_ _)); refine blk_far ?_ NB627_628.out _; (with_reducible repeat (first | refine blk_drewN ?_ _ | refine blk_drew ?_ | refine blk_alloc ?_ _)); refine blk_far ?_ NB627_628.out _; (with_reducible repeat (first | refine blk_drewN ?_ _ | refine blk_drew ?_ | refine blk_alloc ?_ _)); refine blk_far ?_ NB627_628.out _; (with_reducible repeat (first | refine blk_drewN ?_ _ | refine blk_drew ?_ | refine blk_alloc ?_ _)); exact BK627.out) hb); have n5_ := Aside0.mk (blk_below (g := gb628) (o := .cells #[.int .i64 0, .int .i64 0, .slice Ao10 t620.length co10] 45 (0, 0)) (by (with_reducible repeat (first | refine blk_drewN ?_ _ | refine blk_drew ?_ | refine blk_alloc ?_ _)); refine blk_put (cs := #[.int .i64 0, .int .i64 0, .slice none 0 0]) ?_ 2 _ rfl; (with_reducible repeat (first | refine blk_drewN ?_ _ | refine blk_drew ?_ | refine blk_alloc ?_ _)); refine blk_put (cs := #[.int .i64 0, .int .i64 0, .slice none 0 0]) ?_ 1 _ rfl; (with_reducible repeat (first | refine blk_drewN ?_ _ | refine blk_drew ?_ | refine blk_alloc ?_ _)); refine blk_put (cs := #[.int .i64 0, .int .i64 0, .slice none 0 0]) ?_ 0 _ rfl; (with_reducible repeat (first | refine blk_drewN ?_ _ | refine blk_drew ?_ | refine blk_alloc ?_ _)); exact BK628.out) hb); have n6_ := Aside0.mk (below_step (by repeat (first | (with_reducible first | exact HB.out | apply below_alloc | apply pw_below_drewN | apply below_drew1 | refine below_set ?_ (IsS54.ge HI616.out) | refine below_set ?_ GE627.out | refine below_set ?_ GE628.out) | exact HB.out)) hb); clear HO622 HO625 HI616 BK627 BK628 HB; have HO622 := n0_; have HO625 := n1_; have HO631 := n2_; have HI616 := n3_; have BK627 := n4_; have BK628 := n5_; have HB := n6_; clear n0_ n1_ n2_ n3_ n4_ n5_ n6_; (try clear hb); (try clear hb2); (try clear hk); (try clear hi); (try clear ho0)))
 go_loopg [6, 7] k (fun kq v6 v7 w' => ∃ (x6_1 : Int) (x7_1 : Int), v6 = .int .i64 x6_1 ∧ v7 = .int .i64 x7_1 ∧ Aside0 (awardingbodylaw06_ItemSums.l0 kq t629 x6_1 x7_1 t617 t618 t619 t620 t623 0 0 t620 = some r) ∧ Aside0 (kq ≤ k) ∧ Aside0 (Kd.R (Kd.int .i64) 3 w' w.heap.size (fun k_ => some k_ ≠ ((.slice Ao11 t623.length co11) : Value).ownBlock) v630 t629) ∧ Aside0 (Kd.R k23 23 w' w.heap.size (fun _ => True) (.slice Ao10 t620.length co10) t620) ∧ Aside0 (Kd.R (Kd.int .i64) 3 w' w.heap.size (fun k_ => some k_ ≠ (v630 : Value).ownBlock) (.slice Ao11 t623.length co11) t623) ∧ Aside0 (Kd.R k23 23 w' w.heap.size (fun _ => True) (.slice Ao10 t620.length co10) t620) ∧ Aside0 (w'.heap[gb627]? = some (.cells #[.int .i64 t617, .int .i64 t618, .string t619, (.slice Ao10 t620.length co10), (.slice Ao11 t623.length co11)] 33 (0, 0))) ∧ Aside0 (w'.heap[gb628]? = some (.cells #[.int .i64 0, .int .i64 0, (.slice Ao10 t620.length co10)] 45 (0, 0))) ∧ Aside0 (Below w.heap.size w w'))
 case atStart => exact ⟨(0), (0), (by first | rfl | (simp; done) | (simp [*]; done)), (by first | rfl | (simp; done) | (simp [*]; done)), H', ⟨Nat.le_refl _⟩, ⟨by (with_reducible repeat (first | apply Kd.R_alloc | apply Kd.R_drewN | apply Kd.R_drew)); exact Kd.R_mono HO631.out (fun _ hk => hk.2)⟩, ⟨by (with_reducible repeat (first | apply Kd.R_alloc | apply Kd.R_drewN | apply Kd.R_drew)); exact HO622.out⟩, ⟨by (with_reducible repeat (first | apply Kd.R_alloc | apply Kd.R_drewN | apply Kd.R_drew)); exact Kd.R_mono HO625.out (fun _ hk => hk.2)⟩, ⟨by (with_reducible repeat (first | apply Kd.R_alloc | apply Kd.R_drewN | apply Kd.R_drew)); exact HO622.out⟩, ⟨by (with_reducible repeat (first | refine blk_drewN ?_ _ | refine blk_drew ?_ | refine blk_alloc ?_ _)); exact BK627.out⟩, ⟨by (with_reducible repeat (first | refine blk_drewN ?_ _ | refine blk_drew ?_ | refine blk_alloc ?_ _)); exact BK628.out⟩, ⟨by repeat (first | (with_reducible first | exact HB.out | apply below_alloc | apply pw_below_drewN | apply below_drew1 | refine below_set ?_ (IsS54.ge HI616.out) | refine below_set ?_ GE627.out | refine below_set ?_ GE628.out) | exact HB.out)⟩⟩
 case round =>
  clear H'
  try clear c1
  try clear p2
  try clear c3
  try clear c8
  try clear c10
  try clear c13
  try clear c14
  try clear c15
  try clear c16
  try clear hcz15_0
  try clear hcz15_1
  try clear hcz15_2
  try clear hcz9_0
  try clear hcz9_1
  try clear hcz9_2
  try clear hcz9_3
  try clear hcz9_4
  try clear hfz15_0
  try clear hfz15_1
  try clear hfz15_2
  try clear hfz9_0
  try clear hfz9_1
  try clear hfz9_2
  try clear hfz9_3
  try clear hfz9_4
  obtain ⟨x6_1, x7_1, rfl, rfl, HA, HK1, HO_5, HO_628003, HO_628004, HO_629002, BK627, BK628, HB⟩ := hrel
  cases gk with
  | zero => exact absurd HA.out (by simp [awardingbodylaw06_ItemSums.l0])
  | succ k1 =>
   have H := HA.out
   clear HA
   simp only [awardingbodylaw06_ItemSums.l0] at H
   by_cases c17 : x7_1 < (t620.length : Int)
   ·rw [if_pos c17] at H
    have c17b0 : decide (x7_1 < (t620.length : Int)) = true := decide_eq_true c17
    clear c17
    by_cases c18 : 0 ≤ x7_1
    ·rw [if_pos c18] at H
     have c18b0 : decide (0 ≤ x7_1) = true := decide_eq_true c18
     clear c18
     by_cases c19 : ((rd_T23 t620 x7_1).f0) = 2
     ·rw [if_pos c19] at H
      have c19b0 : (((rd_T23 t620 x7_1).f0) == 2) = true := beq_iff_eq.mpr c19
      have c19b1 : (((rd_T23 t620 x7_1).f0) != 2) = false := bne_eq_false_iff_eq.mpr c19
      clear c19
      by_cases c20 : x6_1 ≥ (t629.length : Int)
      ·rw [if_pos c20] at H
       exact absurd H (by simp)
      ·rw [if_neg c20] at H
       have c20b0 : decide ((t629.length : Int) ≤ x6_1) = false := decide_eq_false c20
       clear c20
       by_cases c21 : 0 ≤ x6_1
       ·rw [if_pos c21] at H
        have c21b0 : decide (0 ≤ x6_1) = true := decide_eq_true c21
        clear c21
        by_cases c22 : x6_1 < (t629.length : Int)
        ·rw [if_pos c22] at H
         have c22b0 : decide (x6_1 < (t629.length : Int)) = true := decide_eq_true c22
         clear c22
         by_cases c23 : (rd t629 x6_1) = x7_1
         ·rw [if_pos c23] at H
          have c23b0 : ((rd t629 x6_1) == x7_1) = true := beq_iff_eq.mpr c23
          have c23b1 : ((rd t629 x6_1) != x7_1) = false := bne_eq_false_iff_eq.mpr c23
          clear c23
          have H' := Aside0.mk H
          clear H
          have hnb24 := NB627_628.out
          have hnc24 := NB628_627.out
          have hcz25_0 : wr.cell? ⟨gb627, 0, none⟩ = some (.int .i64 t617) := (blk_cell BK627.out 0).trans rfl
          have hcz25_1 : wr.cell? ⟨gb627, 1, none⟩ = some (.int .i64 t618) := (blk_cell BK627.out 1).trans rfl
          have hcz25_2 : wr.cell? ⟨gb627, 2, none⟩ = some (.string t619) := (blk_cell BK627.out 2).trans rfl
          have hcz25_3 : wr.cell? ⟨gb627, 3, none⟩ = some (.slice Ao10 t620.length co10) := (blk_cell BK627.out 3).trans rfl
          have hcz25_4 : wr.cell? ⟨gb627, 4, none⟩ = some (.slice Ao11 t623.length co11) := (blk_cell BK627.out 4).trans rfl
          have hfz25_0 := blk_frozen BK627.out 0
          have hfz25_1 := blk_frozen BK627.out 1
          have hfz25_2 := blk_frozen BK627.out 2
          have hfz25_3 := blk_frozen BK627.out 3
          have hfz25_4 := blk_frozen BK627.out 4
          have p632 : 0 ≤ (x7_1 : Int) := of_decide_eq_true (by first | (with_reducible assumption) | assumption)
          have q632 : x7_1 < (t620.length : Int) := of_decide_eq_true (by first | (with_reducible assumption) | assumption)
          obtain ⟨ad632, e632, hx632_0, hx632_1, hx632_2, hx632_3, hx632_4, hx632_5⟩ := at_T23 (Kd.R_reads' HO_628003.out).2.2 x7_1 p632 q632
          cases e632
          replace p632 := eq_true p632
          replace q632 := eq_true q632
          obtain ⟨Ao26, co26, eo26⟩ := Kd.R_slice HO_5.out
          subst eo26
          have p633 : 0 ≤ (x6_1 : Int) := of_decide_eq_true (by first | (with_reducible assumption) | assumption)
          have q633 : x6_1 < (t629.length : Int) := of_decide_eq_true (by first | (with_reducible assumption) | assumption)
          obtain ⟨ad633, e633, hx633_0⟩ := Kd.at_int (Kd.R_reads' HO_5.out).2.2 x6_1 p633 q633
          cases e633
          replace p633 := eq_true p633
          replace q633 := eq_true q633
          go_wp2
          go_roundg k1
          case measure => have := HK1.out; omega
          case rel => exact ⟨(wrap64 (x6_1 + 1)), (wrap64 (x7_1 + 1)), (by first | rfl | (simp; done) | (simp [*]; done)), (by first | rfl | (simp; done) | (simp [*]; done)), H', ⟨by have := HK1.out; omega⟩, ⟨by (with_reducible repeat (first | apply Kd.R_alloc | apply Kd.R_drewN | apply Kd.R_drew)); exact HO_5.out⟩, ⟨by (with_reducible repeat (first | apply Kd.R_alloc | apply Kd.R_drewN | apply Kd.R_drew)); exact HO_628003.out⟩, ⟨by (with_reducible repeat (first | apply Kd.R_alloc | apply Kd.R_drewN | apply Kd.R_drew)); exact HO_628004.out⟩, ⟨by (with_reducible repeat (first | apply Kd.R_alloc | apply Kd.R_drewN | apply Kd.R_drew)); exact HO_629002.out⟩, ⟨by (with_reducible repeat (first | refine blk_drewN ?_ _ | refine blk_drew ?_ | refine blk_alloc ?_ _)); exact BK627.out⟩, ⟨by (with_reducible repeat (first | refine blk_drewN ?_ _ | refine blk_drew ?_ | refine blk_alloc ?_ _)); exact BK628.out⟩, ⟨by repeat (first | (with_reducible first | exact HB.out | apply below_alloc | apply pw_below_drewN | apply below_drew1 | refine below_set ?_ GE627.out | refine below_set ?_ GE628.out) | exact HB.out)⟩⟩
         ·rw [if_neg c23] at H
          exact absurd H (by simp)
        ·rw [if_neg c22] at H
         exact absurd H (by simp)
       ·rw [if_neg c21] at H
        exact absurd H (by simp)
     ·rw [if_neg c19] at H
      have c19b0 : (((rd_T23 t620 x7_1).f0) == 2) = false := beq_eq_false_iff_ne.mpr c19
      have c19b1 : (((rd_T23 t620 x7_1).f0) != 2) = true := bne_iff_ne.mpr c19
      have H' := Aside0.mk H
      clear H
      have hnb27 := NB627_628.out
      have hnc27 := NB628_627.out
      have hcz28_0 : wr.cell? ⟨gb627, 0, none⟩ = some (.int .i64 t617) := (blk_cell BK627.out 0).trans rfl
      have hcz28_1 : wr.cell? ⟨gb627, 1, none⟩ = some (.int .i64 t618) := (blk_cell BK627.out 1).trans rfl
      have hcz28_2 : wr.cell? ⟨gb627, 2, none⟩ = some (.string t619) := (blk_cell BK627.out 2).trans rfl
      have hcz28_3 : wr.cell? ⟨gb627, 3, none⟩ = some (.slice Ao10 t620.length co10) := (blk_cell BK627.out 3).trans rfl
      have hcz28_4 : wr.cell? ⟨gb627, 4, none⟩ = some (.slice Ao11 t623.length co11) := (blk_cell BK627.out 4).trans rfl
      have hfz28_0 := blk_frozen BK627.out 0
      have hfz28_1 := blk_frozen BK627.out 1
      have hfz28_2 := blk_frozen BK627.out 2
      have hfz28_3 := blk_frozen BK627.out 3
      have hfz28_4 := blk_frozen BK627.out 4
      have p632 : 0 ≤ (x7_1 : Int) := of_decide_eq_true (by first | (with_reducible assumption) | assumption)
      have q632 : x7_1 < (t620.length : Int) := of_decide_eq_true (by first | (with_reducible assumption) | assumption)
      obtain ⟨ad632, e632, hx632_0, hx632_1, hx632_2, hx632_3, hx632_4, hx632_5⟩ := at_T23 (Kd.R_reads' HO_628003.out).2.2 x7_1 p632 q632
      cases e632
      replace p632 := eq_true p632
      replace q632 := eq_true q632
      go_wp2
      go_roundg k1
      case measure => have := HK1.out; omega
      case rel => exact ⟨(x6_1), (wrap64 (x7_1 + 1)), (by first | rfl | (simp; done) | (simp [*]; done)), (by first | rfl | (simp; done) | (simp [*]; done)), H', ⟨by have := HK1.out; omega⟩, ⟨by (with_reducible repeat (first | apply Kd.R_alloc | apply Kd.R_drewN | apply Kd.R_drew)); exact HO_5.out⟩, ⟨by (with_reducible repeat (first | apply Kd.R_alloc | apply Kd.R_drewN | apply Kd.R_drew)); exact HO_628003.out⟩, ⟨by (with_reducible repeat (first | apply Kd.R_alloc | apply Kd.R_drewN | apply Kd.R_drew)); exact HO_628004.out⟩, ⟨by (with_reducible repeat (first | apply Kd.R_alloc | apply Kd.R_drewN | apply Kd.R_drew)); exact HO_629002.out⟩, ⟨by (with_reducible repeat (first | refine blk_drewN ?_ _ | refine blk_drew ?_ | refine blk_alloc ?_ _)); exact BK627.out⟩, ⟨by (with_reducible repeat (first | refine blk_drewN ?_ _ | refine blk_drew ?_ | refine blk_alloc ?_ _)); exact BK628.out⟩, ⟨by repeat (first | (with_reducible first | exact HB.out | apply below_alloc | apply pw_below_drewN | apply below_drew1 | refine below_set ?_ GE627.out | refine below_set ?_ GE628.out) | exact HB.out)⟩⟩
    ·rw [if_neg c18] at H
     exact absurd H (by simp)
   ·rw [if_neg c17] at H
    have c17b0 : decide (x7_1 < (t620.length : Int)) = false := decide_eq_false c17
    clear c17
    by_cases c29 : x6_1 = (t629.length : Int)
    ·rw [if_pos c29] at H
     have c29b0 : (x6_1 == (t629.length : Int)) = true := beq_iff_eq.mpr c29
     have c29b1 : (x6_1 != (t629.length : Int)) = false := bne_eq_false_iff_eq.mpr c29
     clear c29
     replace H := Option.bind_eq_some_iff.mp H
     obtain ⟨t634, A300, H⟩ := H
     replace H : ((item_PaperTotal.f k1 0 0 t620).bind fun t635 => (if t634 = t635 then ((item_Total.f k1 t617 t618 t619 t620 t623).bind fun t636 => (if t636 > 0 then ((awardingbodylaw06_awake.f k1).bind fun t637 => (some t637)) else (none))) else (none))) = some r := H
     have A30 := Aside0.mk A300
     clear A300
     replace H := Option.bind_eq_some_iff.mp H
     obtain ⟨t635, A310, H⟩ := H
     replace H : (if t634 = t635 then ((item_Total.f k1 t617 t618 t619 t620 t623).bind fun t636 => (if t636 > 0 then ((awardingbodylaw06_awake.f k1).bind fun t637 => (some t637)) else (none))) else (none)) = some r := H
     have A31 := Aside0.mk A310
     clear A310
     by_cases c32 : t634 = t635
     ·rw [if_pos c32] at H
      have c32b0 : (t634 == t635) = true := beq_iff_eq.mpr c32
      have c32b1 : (t634 != t635) = false := bne_eq_false_iff_eq.mpr c32
      clear c32
      replace H := Option.bind_eq_some_iff.mp H
      obtain ⟨t636, A330, H⟩ := H
      replace H : (if t636 > 0 then ((awardingbodylaw06_awake.f k1).bind fun t637 => (some t637)) else (none)) = some r := H
      have A33 := Aside0.mk A330
      clear A330
      by_cases c34 : t636 > 0
      ·rw [if_pos c34] at H
       have c34b0 : decide (0 < t636) = true := decide_eq_true c34
       clear c34
       replace H := Option.bind_eq_some_iff.mp H
       obtain ⟨t637, A350, H⟩ := H
       replace H : (some t637) = some r := H
       have A35 := Aside0.mk A350
       clear A350
       obtain rfl := Option.some.inj H
       have hnb36 := NB627_628.out
       have hnc36 := NB628_627.out
       have hcz37_0 : wr.cell? ⟨gb627, 0, none⟩ = some (.int .i64 t617) := (blk_cell BK627.out 0).trans rfl
       have hcz37_1 : wr.cell? ⟨gb627, 1, none⟩ = some (.int .i64 t618) := (blk_cell BK627.out 1).trans rfl
       have hcz37_2 : wr.cell? ⟨gb627, 2, none⟩ = some (.string t619) := (blk_cell BK627.out 2).trans rfl
       have hcz37_3 : wr.cell? ⟨gb627, 3, none⟩ = some (.slice Ao10 t620.length co10) := (blk_cell BK627.out 3).trans rfl
       have hcz37_4 : wr.cell? ⟨gb627, 4, none⟩ = some (.slice Ao11 t623.length co11) := (blk_cell BK627.out 4).trans rfl
       have hfz37_0 := blk_frozen BK627.out 0
       have hfz37_1 := blk_frozen BK627.out 1
       have hfz37_2 := blk_frozen BK627.out 2
       have hfz37_3 := blk_frozen BK627.out 3
       have hfz37_4 := blk_frozen BK627.out 4
       try go_wp2
       have n0_ := Aside0.mk (Kd.R_drew HO_5.out)
       have n1_ := Aside0.mk (Kd.R_drew HO_628003.out)
       have n2_ := Aside0.mk (Kd.R_drew HO_628004.out)
       have n3_ := Aside0.mk (Kd.R_drew HO_629002.out)
       have n4_ := Aside0.mk (blk_drew BK627.out)
       have n5_ := Aside0.mk (blk_drew BK628.out)
       have n6_ := Aside0.mk (below_drew1 HB.out)
       clear HO_5 HO_628003 HO_628004 HO_629002 BK627 BK628 HB
       have HO_5 := n0_
       have HO_628003 := n1_
       have HO_628004 := n2_
       have HO_629002 := n3_
       have BK627 := n4_
       have BK628 := n5_
       have HB := n6_
       clear n0_ n1_ n2_ n3_ n4_ n5_ n6_
       obtain ⟨Ao39, co39, eo39⟩ := Kd.R_slice HO_5.out
       (first | subst eo39 | (injection eo39 with f1_ f2_ f3_; have f4_ := f1_.symm; have f5_ := f3_.symm; clear f1_ f2_ f3_; subst f4_; subst f5_))
       refine start_ (n := 20) (S := fun w' => w'.cell? ⟨gb627, 0, none⟩ = some (.int .i64 t617) ∧ w'.cell? ⟨gb627, 1, none⟩ = some (.int .i64 t618) ∧ w'.cell? ⟨gb627, 2, none⟩ = some (.string t619) ∧ w'.cell? ⟨gb627, 3, none⟩ = some (.slice Ao10 t620.length co10) ∧ w'.cell? ⟨gb627, 4, none⟩ = some (.slice Ao11 t623.length co11) ∧ w'.cell? ⟨gb628, 0, none⟩ = some (.int .i64 0) ∧ w'.cell? ⟨gb628, 1, none⟩ = some (.int .i64 0) ∧ w'.cell? ⟨gb628, 2, none⟩ = some (.slice Ao10 t620.length co10)) (ds := []) #[false, false, false, false, false, false, false, false, false, false, false, false, false, false, false, false, false, false, false, false] (by kernel_rfl) rfl rfl ⟨(blk_cell BK627.out 0).trans rfl, (blk_cell BK627.out 1).trans rfl, (blk_cell BK627.out 2).trans rfl, (blk_cell BK627.out 3).trans rfl, (blk_cell BK627.out 4).trans rfl, (blk_cell BK628.out 0).trans rfl, (blk_cell BK628.out 1).trans rfl, (blk_cell BK628.out 2).trans rfl⟩ (fun hHeld => ?_); refine with_tabW awardingbodylaw06_ItemSums.tab12 awardingbodylaw06_ItemSums.bits12 (fun HT_ HW_ => ?_)
       generalize wr.drew = w38 at HO_5 HO_628003 HO_628004 HO_629002 BK627 BK628 HB hHeld ⊢
       refine pure_ (i := 0) (N := some 44) (v := ?_) (a' := ?_) #[true, false, false, false, false, false, false, false, false, false, false, false, false, false, false, false, false, false, false, false] rfl rfl (any_of HT_.out (by kernel_rfl)) (fun _ _ _ h => h) (Or.inl ⟨by rfl, ?_⟩) ?_ ?_
       rotate_left
       ·intro w'
        go_simp
        with_reducible rfl
       rotate_left
       ·simp only [Act.put, List.setIfInBounds_toArray, List.set_cons_zero, List.set_cons_succ, i64_w, i32_w]
        rfl
       refine pure_ (i := 1) (N := some 45) (v := ?_) (a' := ?_) #[true, true, false, false, false, false, false, false, false, false, false, false, false, false, false, false, false, false, false, false] rfl rfl (any_of HT_.out (by kernel_rfl)) (fun _ _ _ h => h) (Or.inl ⟨by rfl, ?_⟩) ?_ ?_
       rotate_left
       ·intro w'
        go_simp
        with_reducible rfl
       rotate_left
       ·simp only [Act.put, List.setIfInBounds_toArray, List.set_cons_zero, List.set_cons_succ, i64_w, i32_w]
        rfl
       refine pure_ (i := 2) (N := some 46) (v := ?_) (a' := ?_) #[true, true, true, false, false, false, false, false, false, false, false, false, false, false, false, false, false, false, false, false] rfl rfl (any_of HT_.out (by kernel_rfl)) (fun _ _ _ h => h) (Or.inl ⟨by rfl, ?_⟩) ?_ ?_
       rotate_left
       ·intro w'
        go_simp
        with_reducible rfl
       rotate_left
       ·simp only [Act.put, List.setIfInBounds_toArray, List.set_cons_zero, List.set_cons_succ, i64_w, i32_w]
        rfl
       refine pure_ (i := 3) (N := some 47) (v := ?_) (a' := ?_) #[true, true, true, true, false, false, false, false, false, false, false, false, false, false, false, false, false, false, false, false] rfl rfl (any_of HT_.out (by kernel_rfl)) (fun _ _ _ h => h) (Or.inl ⟨by rfl, ?_⟩) ?_ ?_
       rotate_left
       ·intro w'
        go_simp
        with_reducible rfl
       rotate_left
       ·simp only [Act.put, List.setIfInBounds_toArray, List.set_cons_zero, List.set_cons_succ, i64_w, i32_w]
        rfl
       refine pure_ (i := 4) (N := some 48) (v := ?_) (a' := ?_) #[true, true, true, true, true, false, false, false, false, false, false, false, false, false, false, false, false, false, false, false] rfl rfl (any_of HT_.out (by kernel_rfl)) (fun _ _ _ h => h) (Or.inl ⟨by rfl, ?_⟩) ?_ ?_
       rotate_left
       ·intro w'
        go_simp
        with_reducible rfl
       rotate_left
       ·simp only [Act.put, List.setIfInBounds_toArray, List.set_cons_zero, List.set_cons_succ, i64_w, i32_w]
        rfl
       refine take_ (i := 5) (N := some 49) (v := ?_) (a' := ?_) #[true, true, true, true, true, true, false, false, false, false, false, false, false, false, false, false, false, false, false, false] rfl rfl (take_ofW HT_.out HW_.out (by kernel_rfl)) (fun _ _ _ h => h) (Or.inl ⟨by rfl, ?_⟩) hHeld ?_ ?_
       rotate_left
       ·rintro w' ⟨s0, s1, s2, s3, s4, s5, s6, s7⟩
        go_simp
        with_reducible rfl
       rotate_left
       ·simp only [Act.put, List.setIfInBounds_toArray, List.set_cons_zero, List.set_cons_succ, i64_w, i32_w]
        rfl
       refine take_ (i := 7) (N := some 51) (v := ?_) (a' := ?_) #[true, true, true, true, true, true, false, true, false, false, false, false, false, false, false, false, false, false, false, false] rfl rfl (take_ofW HT_.out HW_.out (by kernel_rfl)) (fun _ _ _ h => h) (Or.inl ⟨by rfl, ?_⟩) hHeld ?_ ?_
       rotate_left
       ·rintro w' ⟨s0, s1, s2, s3, s4, s5, s6, s7⟩
        go_simp
        with_reducible rfl
       rotate_left
       ·simp only [Act.put, List.setIfInBounds_toArray, List.set_cons_zero, List.set_cons_succ, i64_w, i32_w]
        rfl
       refine one_ (i := 6) (N := some 50) #[true, true, true, true, true, true, true, true, false, false, false, false, false, false, false, false, false, false, false, false] rfl rfl (one_of HT_.out (by kernel_rfl)) (by decide) (fun K hK => ?_)
       refine goes_ Try.func21 (by kernel_rfl) rfl #[.agg #[.int .i64 t617, .int .i64 t618, .string t619, .slice Ao10 t620.length co10, .slice Ao11 t623.length co11]] (by rfl) rfl rfl (by (try simp only [List.map_toArray, List.map_cons, List.map_nil]); first | done | rfl | (simp only [List.length_drop, List.length_take]; rfl)) ?_
       with_reducible refine (item_Total.calls k1 t617 t618 t619 _ _ t620 _ _ t623 t634 _ ?side1 ?side2 ?side3 ?side4 A30.out).mono ?_
       (case side1 => repeat (first | exact (Kd.R_reads' HO_628003.out).2.2 | (with_reducible refine Kd.C_alloc ?_ _) | (with_reducible refine Kd.C_drewN ?_ _) | (with_reducible refine Kd.C_drew ?_)))
       (case side2 => exact (Kd.R_reads' HO_628003.out).2.1)
       (case side3 => repeat (first | exact (Kd.R_reads' HO_628004.out).2.2 | (with_reducible refine Kd.C_alloc ?_ _) | (with_reducible refine Kd.C_drewN ?_ _) | (with_reducible refine Kd.C_drew ?_)))
       (case side4 => exact (Kd.R_reads' HO_628004.out).2.1)
       rintro e w40 ⟨rfl, hb⟩
       refine ⟨_, rfl, ?_⟩
       have n0_ := Aside0.mk (Kd.R_below (by (with_reducible repeat (first | apply Kd.R_alloc | apply Kd.R_drewN | apply Kd.R_drew)); exact HO_5.out) hb)
       have n1_ := Aside0.mk (Kd.R_below (by (with_reducible repeat (first | apply Kd.R_alloc | apply Kd.R_drewN | apply Kd.R_drew)); exact HO_628003.out) hb)
       have n2_ := Aside0.mk (Kd.R_below (by (with_reducible repeat (first | apply Kd.R_alloc | apply Kd.R_drewN | apply Kd.R_drew)); exact HO_628004.out) hb)
       have n3_ := Aside0.mk (Kd.R_below (by (with_reducible repeat (first | apply Kd.R_alloc | apply Kd.R_drewN | apply Kd.R_drew)); exact HO_629002.out) hb)
       have n4_ := Aside0.mk (blk_below (g := gb627) (o := .cells #[.int .i64 t617, .int .i64 t618, .string t619, .slice Ao10 t620.length co10, .slice Ao11 t623.length co11] 33 (0, 0)) (by (with_reducible repeat (first | refine blk_drewN ?_ _ | refine blk_drew ?_ | refine blk_alloc ?_ _)); exact BK627.out) hb)
       have n5_ := Aside0.mk (blk_below (g := gb628) (o := .cells #[.int .i64 0, .int .i64 0, .slice Ao10 t620.length co10] 45 (0, 0)) (by (with_reducible repeat (first | refine blk_drewN ?_ _ | refine blk_drew ?_ | refine blk_alloc ?_ _)); exact BK628.out) hb)
       have n6_ := Aside0.mk (below_step (by repeat (first | (with_reducible first | exact HB.out | apply below_alloc | apply pw_below_drewN | apply below_drew1 | refine below_set ?_ GE627.out | refine below_set ?_ GE628.out) | exact HB.out)) hb)
       clear HO_5 HO_628003 HO_628004 HO_629002 BK627 BK628 HB
       have HO_5 := n0_
       have HO_628003 := n1_
       have HO_628004 := n2_
       have HO_629002 := n3_
       have BK627 := n4_
       have BK628 := n5_
       have HB := n6_
       clear n0_ n1_ n2_ n3_ n4_ n5_ n6_
       (try clear hb)
       (try clear hb2)
       (try clear hk)
       (try clear hi)
       refine hK.out _ _ ⟨(blk_cell BK627.out 0).trans rfl, (blk_cell BK627.out 1).trans rfl, (blk_cell BK627.out 2).trans rfl, (blk_cell BK627.out 3).trans rfl, (blk_cell BK627.out 4).trans rfl, (blk_cell BK628.out 0).trans rfl, (blk_cell BK628.out 1).trans rfl, (blk_cell BK628.out 2).trans rfl⟩ (fun hHeld => ?_)
       clear hK K
       refine norm_ (a' := ?_) ?_ ?_
       rotate_left
       ·show Act.put _ (some 50) _ = _
        simp only [Act.put, List.setIfInBounds_toArray, List.set_cons_zero, List.set_cons_succ, i64_w, i32_w]
        rfl
       refine one_ (i := 8) (N := some 52) #[true, true, true, true, true, true, true, true, true, false, false, false, false, false, false, false, false, false, false, false] rfl rfl (one_of HT_.out (by kernel_rfl)) (by decide) (fun K hK => ?_)
       refine goes_ Try.func29 (by kernel_rfl) rfl #[.agg #[.int .i64 0, .int .i64 0, .slice Ao10 t620.length co10]] (by rfl) rfl rfl (by (try simp only [List.map_toArray, List.map_cons, List.map_nil]); first | done | rfl | (simp only [List.length_drop, List.length_take]; rfl)) ?_
       with_reducible refine (item_PaperTotal.calls k1 0 0 _ _ t620 t635 _ ?side1 ?side2 A31.out).mono ?_
       (case side1 => repeat (first | exact (Kd.R_reads' HO_629002.out).2.2 | (with_reducible refine Kd.C_alloc ?_ _) | (with_reducible refine Kd.C_drewN ?_ _) | (with_reducible refine Kd.C_drew ?_)))
       (case side2 => exact (Kd.R_reads' HO_629002.out).2.1)
       rintro e w41 ⟨rfl, hb⟩
       refine ⟨_, rfl, ?_⟩
       have n0_ := Aside0.mk (Kd.R_below (by (with_reducible repeat (first | apply Kd.R_alloc | apply Kd.R_drewN | apply Kd.R_drew)); exact HO_5.out) hb)
       have n1_ := Aside0.mk (Kd.R_below (by (with_reducible repeat (first | apply Kd.R_alloc | apply Kd.R_drewN | apply Kd.R_drew)); exact HO_628003.out) hb)
       have n2_ := Aside0.mk (Kd.R_below (by (with_reducible repeat (first | apply Kd.R_alloc | apply Kd.R_drewN | apply Kd.R_drew)); exact HO_628004.out) hb)
       have n3_ := Aside0.mk (Kd.R_below (by (with_reducible repeat (first | apply Kd.R_alloc | apply Kd.R_drewN | apply Kd.R_drew)); exact HO_629002.out) hb)
       have n4_ := Aside0.mk (blk_below (g := gb627) (o := .cells #[.int .i64 t617, .int .i64 t618, .string t619, .slice Ao10 t620.length co10, .slice Ao11 t623.length co11] 33 (0, 0)) (by (with_reducible repeat (first | refine blk_drewN ?_ _ | refine blk_drew ?_ | refine blk_alloc ?_ _)); exact BK627.out) hb)
       have n5_ := Aside0.mk (blk_below (g := gb628) (o := .cells #[.int .i64 0, .int .i64 0, .slice Ao10 t620.length co10] 45 (0, 0)) (by (with_reducible repeat (first | refine blk_drewN ?_ _ | refine blk_drew ?_ | refine blk_alloc ?_ _)); exact BK628.out) hb)
       have n6_ := Aside0.mk (below_step (by repeat (first | (with_reducible first | exact HB.out | apply below_alloc | apply pw_below_drewN | apply below_drew1 | refine below_set ?_ GE627.out | refine below_set ?_ GE628.out) | exact HB.out)) hb)
       clear HO_5 HO_628003 HO_628004 HO_629002 BK627 BK628 HB
       have HO_5 := n0_
       have HO_628003 := n1_
       have HO_628004 := n2_
       have HO_629002 := n3_
       have BK627 := n4_
       have BK628 := n5_
       have HB := n6_
       clear n0_ n1_ n2_ n3_ n4_ n5_ n6_
       (try clear hb)
       (try clear hb2)
       (try clear hk)
       (try clear hi)
       refine hK.out _ _ ⟨(blk_cell BK627.out 0).trans rfl, (blk_cell BK627.out 1).trans rfl, (blk_cell BK627.out 2).trans rfl, (blk_cell BK627.out 3).trans rfl, (blk_cell BK627.out 4).trans rfl, (blk_cell BK628.out 0).trans rfl, (blk_cell BK628.out 1).trans rfl, (blk_cell BK628.out 2).trans rfl⟩ (fun hHeld => ?_)
       clear hK K
       refine norm_ (a' := ?_) ?_ ?_
       rotate_left
       ·show Act.put _ (some 52) _ = _
        simp only [Act.put, List.setIfInBounds_toArray, List.set_cons_zero, List.set_cons_succ, i64_w, i32_w]
        rfl
       refine pure_ (i := 9) (N := some 53) (v := ?_) (a' := ?_) #[true, true, true, true, true, true, true, true, true, true, false, false, false, false, false, false, false, false, false, false] rfl rfl (any_of HT_.out (by kernel_rfl)) (fun _ _ _ h => h) (Or.inl ⟨by rfl, ?_⟩) ?_ ?_
       rotate_left
       ·intro w'
        go_simp
        with_reducible rfl
       rotate_left
       ·simp only [Act.put, List.setIfInBounds_toArray, List.set_cons_zero, List.set_cons_succ, i64_w, i32_w]
        rfl
       refine pure_ (i := 10) (N := some 54) (v := ?_) (a' := ?_) #[true, true, true, true, true, true, true, true, true, true, true, false, false, false, false, false, false, false, false, false] rfl rfl (any_of HT_.out (by kernel_rfl)) (fun _ _ _ h => h) (Or.inl ⟨by rfl, ?_⟩) ?_ ?_
       rotate_left
       ·intro w'
        go_simp
        with_reducible rfl
       rotate_left
       ·simp only [Act.put, List.setIfInBounds_toArray, List.set_cons_zero, List.set_cons_succ, i64_w, i32_w]
        rfl
       refine pure_ (i := 11) (N := some 55) (v := ?_) (a' := ?_) #[true, true, true, true, true, true, true, true, true, true, true, true, false, false, false, false, false, false, false, false] rfl rfl (any_of HT_.out (by kernel_rfl)) (fun _ _ _ h => h) (Or.inl ⟨by rfl, ?_⟩) ?_ ?_
       rotate_left
       ·intro w'
        go_simp
        with_reducible rfl
       rotate_left
       ·simp only [Act.put, List.setIfInBounds_toArray, List.set_cons_zero, List.set_cons_succ, i64_w, i32_w]
        rfl
       refine take_ (i := 12) (N := some 56) (v := ?_) (a' := ?_) #[true, true, true, true, true, true, true, true, true, true, true, true, true, false, false, false, false, false, false, false] rfl rfl (take_ofW HT_.out HW_.out (by kernel_rfl)) (fun _ _ _ h => h) (Or.inl ⟨by rfl, ?_⟩) hHeld ?_ ?_
       rotate_left
       ·rintro w' ⟨s0, s1, s2, s3, s4, s5, s6, s7⟩
        go_simp
        with_reducible rfl
       rotate_left
       ·simp only [Act.put, List.setIfInBounds_toArray, List.set_cons_zero, List.set_cons_succ, i64_w, i32_w]
        rfl
       refine one_ (i := 13) (N := some 57) #[true, true, true, true, true, true, true, true, true, true, true, true, true, true, false, false, false, false, false, false] rfl rfl (one_of HT_.out (by kernel_rfl)) (by decide) (fun K hK => ?_)
       refine goes_ Try.func21 (by kernel_rfl) rfl #[.agg #[.int .i64 t617, .int .i64 t618, .string t619, .slice Ao10 t620.length co10, .slice Ao11 t623.length co11]] (by rfl) rfl rfl (by (try simp only [List.map_toArray, List.map_cons, List.map_nil]); first | done | rfl | (simp only [List.length_drop, List.length_take]; rfl)) ?_
       with_reducible refine (item_Total.calls k1 t617 t618 t619 _ _ t620 _ _ t623 t636 _ ?side1 ?side2 ?side3 ?side4 A33.out).mono ?_
       (case side1 => repeat (first | exact (Kd.R_reads' HO_628003.out).2.2 | (with_reducible refine Kd.C_alloc ?_ _) | (with_reducible refine Kd.C_drewN ?_ _) | (with_reducible refine Kd.C_drew ?_)))
       (case side2 => exact (Kd.R_reads' HO_628003.out).2.1)
       (case side3 => repeat (first | exact (Kd.R_reads' HO_628004.out).2.2 | (with_reducible refine Kd.C_alloc ?_ _) | (with_reducible refine Kd.C_drewN ?_ _) | (with_reducible refine Kd.C_drew ?_)))
       (case side4 => exact (Kd.R_reads' HO_628004.out).2.1)
       rintro e w42 ⟨rfl, hb⟩
       refine ⟨_, rfl, ?_⟩
       have n0_ := Aside0.mk (Kd.R_below (by (with_reducible repeat (first | apply Kd.R_alloc | apply Kd.R_drewN | apply Kd.R_drew)); exact HO_5.out) hb)
       have n1_ := Aside0.mk (Kd.R_below (by (with_reducible repeat (first | apply Kd.R_alloc | apply Kd.R_drewN | apply Kd.R_drew)); exact HO_628003.out) hb)
       have n2_ := Aside0.mk (Kd.R_below (by (with_reducible repeat (first | apply Kd.R_alloc | apply Kd.R_drewN | apply Kd.R_drew)); exact HO_628004.out) hb)
       have n3_ := Aside0.mk (Kd.R_below (by (with_reducible repeat (first | apply Kd.R_alloc | apply Kd.R_drewN | apply Kd.R_drew)); exact HO_629002.out) hb)
       have n4_ := Aside0.mk (blk_below (g := gb627) (o := .cells #[.int .i64 t617, .int .i64 t618, .string t619, .slice Ao10 t620.length co10, .slice Ao11 t623.length co11] 33 (0, 0)) (by (with_reducible repeat (first | refine blk_drewN ?_ _ | refine blk_drew ?_ | refine blk_alloc ?_ _)); exact BK627.out) hb)
       have n5_ := Aside0.mk (blk_below (g := gb628) (o := .cells #[.int .i64 0, .int .i64 0, .slice Ao10 t620.length co10] 45 (0, 0)) (by (with_reducible repeat (first | refine blk_drewN ?_ _ | refine blk_drew ?_ | refine blk_alloc ?_ _)); exact BK628.out) hb)
       have n6_ := Aside0.mk (below_step (by repeat (first | (with_reducible first | exact HB.out | apply below_alloc | apply pw_below_drewN | apply below_drew1 | refine below_set ?_ GE627.out | refine below_set ?_ GE628.out) | exact HB.out)) hb)
       clear HO_5 HO_628003 HO_628004 HO_629002 BK627 BK628 HB
       have HO_5 := n0_
       have HO_628003 := n1_
       have HO_628004 := n2_
       have HO_629002 := n3_
       have BK627 := n4_
       have BK628 := n5_
       have HB := n6_
       clear n0_ n1_ n2_ n3_ n4_ n5_ n6_
       (try clear hb)
       (try clear hb2)
       (try clear hk)
       (try clear hi)
       refine hK.out _ _ ⟨(blk_cell BK627.out 0).trans rfl, (blk_cell BK627.out 1).trans rfl, (blk_cell BK627.out 2).trans rfl, (blk_cell BK627.out 3).trans rfl, (blk_cell BK627.out 4).trans rfl, (blk_cell BK628.out 0).trans rfl, (blk_cell BK628.out 1).trans rfl, (blk_cell BK628.out 2).trans rfl⟩ (fun hHeld => ?_)
       clear hK K
       refine norm_ (a' := ?_) ?_ ?_
       rotate_left
       ·show Act.put _ (some 57) _ = _
        simp only [Act.put, List.setIfInBounds_toArray, List.set_cons_zero, List.set_cons_succ, i64_w, i32_w]
        rfl
       refine pure_ (i := 14) (N := some 58) (v := ?_) (a' := ?_) #[true, true, true, true, true, true, true, true, true, true, true, true, true, true, true, false, false, false, false, false] rfl rfl (any_of HT_.out (by kernel_rfl)) (fun _ _ _ h => h) (Or.inl ⟨by rfl, ?_⟩) ?_ ?_
       rotate_left
       ·intro w'
        go_simp
        with_reducible rfl
       rotate_left
       ·simp only [Act.put, List.setIfInBounds_toArray, List.set_cons_zero, List.set_cons_succ, i64_w, i32_w]
        rfl
       refine pure_ (i := 15) (N := some 59) (v := ?_) (a' := ?_) #[true, true, true, true, true, true, true, true, true, true, true, true, true, true, true, true, false, false, false, false] rfl rfl (any_of HT_.out (by kernel_rfl)) (fun _ _ _ h => h) (Or.inl ⟨by rfl, ?_⟩) ?_ ?_
       rotate_left
       ·intro w'
        go_simp
        with_reducible rfl
       rotate_left
       ·simp only [Act.put, List.setIfInBounds_toArray, List.set_cons_zero, List.set_cons_succ, i64_w, i32_w]
        rfl
       refine pure_ (i := 16) (N := some 60) (v := ?_) (a' := ?_) #[true, true, true, true, true, true, true, true, true, true, true, true, true, true, true, true, true, false, false, false] rfl rfl (any_of HT_.out (by kernel_rfl)) (fun _ _ _ h => h) (Or.inl ⟨by rfl, ?_⟩) ?_ ?_
       rotate_left
       ·intro w'
        go_simp
        with_reducible rfl
       rotate_left
       ·simp only [Act.put, List.setIfInBounds_toArray, List.set_cons_zero, List.set_cons_succ, i64_w, i32_w]
        rfl
       refine one_ (i := 17) (N := some 61) #[true, true, true, true, true, true, true, true, true, true, true, true, true, true, true, true, true, true, false, false] rfl rfl (one_of HT_.out (by kernel_rfl)) (by decide) (fun K hK => ?_)
       refine goes_ Try.func14 (by kernel_rfl) rfl #[] (by rfl) rfl rfl (by (try simp only [List.map_toArray, List.map_cons, List.map_nil]); first | done | rfl | (simp only [List.length_drop, List.length_take]; rfl)) ?_
       with_reducible refine (awardingbodylaw06_awake.calls k1  t637 _ A35.out).mono ?_
       rintro e w43 ⟨rfl, hb⟩
       refine ⟨_, rfl, ?_⟩
       have n0_ := Aside0.mk (Kd.R_below (by (with_reducible repeat (first | apply Kd.R_alloc | apply Kd.R_drewN | apply Kd.R_drew)); exact HO_5.out) hb)
       have n1_ := Aside0.mk (Kd.R_below (by (with_reducible repeat (first | apply Kd.R_alloc | apply Kd.R_drewN | apply Kd.R_drew)); exact HO_628003.out) hb)
       have n2_ := Aside0.mk (Kd.R_below (by (with_reducible repeat (first | apply Kd.R_alloc | apply Kd.R_drewN | apply Kd.R_drew)); exact HO_628004.out) hb)
       have n3_ := Aside0.mk (Kd.R_below (by (with_reducible repeat (first | apply Kd.R_alloc | apply Kd.R_drewN | apply Kd.R_drew)); exact HO_629002.out) hb)
       have n4_ := Aside0.mk (blk_below (g := gb627) (o := .cells #[.int .i64 t617, .int .i64 t618, .string t619, .slice Ao10 t620.length co10, .slice Ao11 t623.length co11] 33 (0, 0)) (by (with_reducible repeat (first | refine blk_drewN ?_ _ | refine blk_drew ?_ | refine blk_alloc ?_ _)); exact BK627.out) hb)
       have n5_ := Aside0.mk (blk_below (g := gb628) (o := .cells #[.int .i64 0, .int .i64 0, .slice Ao10 t620.length co10] 45 (0, 0)) (by (with_reducible repeat (first | refine blk_drewN ?_ _ | refine blk_drew ?_ | refine blk_alloc ?_ _)); exact BK628.out) hb)
       have n6_ := Aside0.mk (below_step (by repeat (first | (with_reducible first | exact HB.out | apply below_alloc | apply pw_below_drewN | apply below_drew1 | refine below_set ?_ GE627.out | refine below_set ?_ GE628.out) | exact HB.out)) hb)
       clear HO_5 HO_628003 HO_628004 HO_629002 BK627 BK628 HB
       have HO_5 := n0_
       have HO_628003 := n1_
       have HO_628004 := n2_
       have HO_629002 := n3_
       have BK627 := n4_
       have BK628 := n5_
       have HB := n6_
       clear n0_ n1_ n2_ n3_ n4_ n5_ n6_
       (try clear hb)
       (try clear hb2)
       (try clear hk)
       (try clear hi)
       refine hK.out _ _ ⟨(blk_cell BK627.out 0).trans rfl, (blk_cell BK627.out 1).trans rfl, (blk_cell BK627.out 2).trans rfl, (blk_cell BK627.out 3).trans rfl, (blk_cell BK627.out 4).trans rfl, (blk_cell BK628.out 0).trans rfl, (blk_cell BK628.out 1).trans rfl, (blk_cell BK628.out 2).trans rfl⟩ (fun hHeld => ?_)
       clear hK K
       refine norm_ (a' := ?_) ?_ ?_
       rotate_left
       ·show Act.put _ (some 61) _ = _
        simp only [Act.put, List.setIfInBounds_toArray, List.set_cons_zero, List.set_cons_succ, i64_w, i32_w]
        rfl
       refine pure_ (i := 18) (N := some 62) (v := ?_) (a' := ?_) #[true, true, true, true, true, true, true, true, true, true, true, true, true, true, true, true, true, true, true, false] rfl rfl (any_of HT_.out (by kernel_rfl)) (fun _ _ _ h => h) (Or.inl ⟨by rfl, ?_⟩) ?_ ?_
       rotate_left
       ·intro w'
        go_simp
        with_reducible rfl
       rotate_left
       ·simp only [Act.put, List.setIfInBounds_toArray, List.set_cons_zero, List.set_cons_succ, i64_w, i32_w]
        rfl
       refine pure_ (i := 19) (N := some 2) (v := ?_) (a' := ?_) #[true, true, true, true, true, true, true, true, true, true, true, true, true, true, true, true, true, true, true, true] rfl rfl (any_of HT_.out (by kernel_rfl)) (fun _ _ _ h => h) (Or.inl ⟨by rfl, ?_⟩) ?_ ?_
       rotate_left
       ·intro w'
        go_simp
        with_reducible rfl
       rotate_left
       ·simp only [Act.put, List.setIfInBounds_toArray, List.set_cons_zero, List.set_cons_succ, i64_w, i32_w]
        rfl
       refine done_ (done_of HT_.out (by kernel_rfl)) ?_
       try go_wp2
       go_ret
       exact ⟨by first | rfl | (simp [errW_none, errW_some] <;> rfl) | (simp [*, errW_none, errW_some] <;> rfl), by repeat (first | (with_reducible first | exact HB.out | apply below_alloc | apply pw_below_drewN | apply below_drew1 | refine below_set ?_ GE627.out | refine below_set ?_ GE628.out) | exact HB.out)⟩
      ·rw [if_neg c34] at H
       have c34b0 : decide (0 < t636) = false := decide_eq_false c34
       clear c34
       exact absurd H (by simp)
     ·rw [if_neg c32] at H
      have c32b0 : (t634 == t635) = false := beq_eq_false_iff_ne.mpr c32
      have c32b1 : (t634 != t635) = true := bne_iff_ne.mpr c32
      exact absurd H (by simp)
    ·rw [if_neg c29] at H
     have c29b0 : (x6_1 == (t629.length : Int)) = false := beq_eq_false_iff_ne.mpr c29
     have c29b1 : (x6_1 != (t629.length : Int)) = true := bne_iff_ne.mpr c29
     exact absurd H (by simp)

/-- THE ONE PURE STATEMENT of awardingbodylaw06_ItemSums: yours. -/
def awardingbodylaw06_ItemSums.Pure : Prop := ∀ (l0 : List Int), l0.length ≤ maxLen → l0.length * 8 ≤ 140737488351232 → (∀ x ∈ l0, (Lit.int .i64 x).wf = true) → ∃ k, awardingbodylaw06_ItemSums.f k l0 = some true
theorem awardingbodylaw06_ItemSums.walk (P : awardingbodylaw06_ItemSums.Pure) (a0 : Option Addr) (len0 cap0 : Nat) (z0 : List Int) (w : World) (w0 : (a0 = none ∧ len0 = 0 ∧ cap0 = 0 ∧ z0 = []) ∨ ∃ x, a0 = some x ∧ len0 ≤ cap0 ∧ cap0 ≤ maxLen ∧ z0.length = cap0 ∧ (∀ i, i < z0.length → w.cell? (x.add i) = some (.int .i64 (z0.getD i 0))) ∧ ∀ n ∈ z0, (Lit.int .i64 n).wf = true) (y0 : len0 * 8 ≤ 140737488351232) :
  Calls Try.prog 10 #[.slice a0 len0 cap0] w fun e w' => e = .returned (.bool true) ∧ Below w.heap.size w w' := by
 obtain ⟨l0, rfl, hr0, hm0, hw0, hc0⟩ := ReadsInt.ofRowC w0
 obtain ⟨k, h⟩ := P l0 hm0 y0 hw0
 refine (awardingbodylaw06_ItemSums.calls k _ _ l0 true w (Kd.C_of_reads (d := (0 : Int)) (h1 := fun _ => rfl) hr0) hc0 h).mono ?_
 rintro e w' ⟨rfl, hd⟩
 exact ⟨rfl, hd⟩

end Go.Proofs.Ytinmdoemkejanaa.Print
