-- Printed by a program of this session (wip/own_print.py) out of the translation; Lean checks it.
import Derived.Test.YtdmlbgdefapcjaaShort
import Derived.Test.YtdmlbgdefapcjaaPrint0
import Derived.Test.YtdmlbgdefapcjaaPrint1
import Derived.Test.YtdmlbgdefapcjaaPrint2
import Derived.Test.YtdmlbgdefapcjaaPrint8
import Derived.Test.YtdmlbgdefapcjaaPrint10
import Derived.Test.YtdmlbgdefapcjaaPrint13
import Derived.Test.YtdmlbgdefapcjaaPrint20
import Derived.Test.YtdmlbgdefapcjaaPrint26
import Derived.Test.YtdmlbgdefapcjaaPrint27
namespace Go.Proofs.Ytdmlbgdefapcjaa.Print
open Go.RowKit Go.Proofs.YtdmlbgdefapcjaaW.PrintWords Go.Proofs.YtdmlbgdefapcjaaW.PrintLast Go.Proofs.YtdmlbgdefapcjaaW.PrintMore
attribute [local go_sem] max2_int min2_int max_two min_two max_three min_three max_four min_four   -- for this text's walks alone
set_option linter.unusedVariables false
set_option linter.unusedSimpArgs false

attribute [local go_sem high] eqA53
/-! ### awardingbodylaw12_BookletFields: function 9 -/
mutual
def awardingbodylaw12_BookletFields.l0 : Nat → Int → Int → Int → Int → Int → List (S23) → List (List Int) → Option (Bool)
  | 0, _, _, _, _, _, _, _ => none
  | k + 1, x1, x8, x9, x572000, x572001, x572002, x577000 => if x9 < 2 then ((booklet_Fields.f k x572000 x572001 x572002 x577000 x1).bind fun t579 => ((awardingbodyref12_Fields.f k x572000 x572001 x572002 x577000 x1).bind fun t582 => (if (t579.length : Int) = (t582.length : Int) then (awardingbodylaw12_BookletFields.l1 k x8 x9 t579 t582 0 x572000 x572001 x572002 x577000) else (none)))) else ((awardingbodylaw12_awake.f k).bind fun t578 => (some t578))
def awardingbodylaw12_BookletFields.l1 : Nat → Int → Int → List (S53) → List (S53) → Int → Int → Int → List (S23) → List (List Int) → Option (Bool)
  | 0, _, _, _, _, _, _, _, _, _ => none
  | k + 1, x8, x9, x10, x11, x12, x572000, x572001, x572002, x577000 => if x12 < (x10.length : Int) then (if 0 ≤ x12 then (if x12 < (x11.length : Int) then (if (!(((rd_T53 x10 x12).f0) == ((rd_T53 x11 x12).f0)) || (!(((rd_T53 x10 x12).f1) == ((rd_T53 x11 x12).f1)))) = true then (none) else (awardingbodylaw12_BookletFields.l1 k x8 x9 x10 x11 (wrap64 (x12 + 1)) x572000 x572001 x572002 x577000)) else (none)) else (none)) else (awardingbodylaw12_BookletFields.l0 k x8 x8 (wrap64 (x9 + 1)) x572000 x572001 x572002 x577000)
end
def awardingbodylaw12_BookletFields.f (k : Nat) (l0 : List Int) (a1 : Int) : Option (Bool) := (awardingbodymake_New.f l0).bind fun bt562 => ((awardingbodymake_Tape_LoosePaper.f k bt562.1 bt562.2 10).bind fun bt565 => ((awardingbodylaw12_shaped.f k bt562.1 bt565.2.2.2 bt565.1 bt565.2.1 bt565.2.2.1).bind fun bt572 => ((awardingbodymake_Cut.f a1 9).bind fun t577 => (awardingbodylaw12_BookletFields.l0 k a1 t577 0 bt565.1 bt565.2.1 bt565.2.2.1 bt572.1))))
theorem awardingbodylaw12_BookletFields.mono_l : ∀ k, (∀ y0 y1 y2 y3 y4 y5 y6, LeO (awardingbodylaw12_BookletFields.l0 k y0 y1 y2 y3 y4 y5 y6) (awardingbodylaw12_BookletFields.l0 (k + 1) y0 y1 y2 y3 y4 y5 y6)) ∧ (∀ y0 y1 y2 y3 y4 y5 y6 y7 y8, LeO (awardingbodylaw12_BookletFields.l1 k y0 y1 y2 y3 y4 y5 y6 y7 y8) (awardingbodylaw12_BookletFields.l1 (k + 1) y0 y1 y2 y3 y4 y5 y6 y7 y8))
  | 0 => ⟨fun _ _ _ _ _ _ _ r h => by simp [awardingbodylaw12_BookletFields.l0] at h, fun _ _ _ _ _ _ _ _ _ r h => by simp [awardingbodylaw12_BookletFields.l1] at h⟩
  | k + 1 => by
    obtain ⟨ih0, ih1⟩ := awardingbodylaw12_BookletFields.mono_l k
    refine ⟨?_, ?_⟩
    · intro y0 y1 y2 y3 y4 y5 y6
      unfold awardingbodylaw12_BookletFields.l0
      repeat' first
      | (with_reducible exact ih0 _ _ _ _ _ _ _)
      | (with_reducible exact ih1 _ _ _ _ _ _ _ _ _)
      | (with_reducible exact awardingbodylaw12_awake.mono _)
      | (with_reducible exact awardingbodylaw12_shaped.mono _ _ _ _ _ _)
      | (with_reducible exact awardingbodymake_Tape_LoosePaper.mono _ _ _ _)
      | (with_reducible exact awardingbodyref12_Fields.mono _ _ _ _ _ _)
      | (with_reducible exact booklet_Fields.mono _ _ _ _ _ _)
      | (with_reducible exact LeO.refl _)
      | (with_reducible exact LeO.none _)
      | (with_reducible refine LeO.ite ?_ ?_)
      | (with_reducible refine LeO.bind ?_ (fun _ => ?_))
      | exact ih0 _ _ _ _ _ _ _
      | exact ih1 _ _ _ _ _ _ _ _ _
      | exact awardingbodylaw12_awake.mono _
      | exact awardingbodylaw12_shaped.mono _ _ _ _ _ _
      | exact awardingbodymake_Tape_LoosePaper.mono _ _ _ _
      | exact awardingbodyref12_Fields.mono _ _ _ _ _ _
      | exact booklet_Fields.mono _ _ _ _ _ _
      | exact LeO.none _
      | refine LeO.ite ?_ ?_
      | refine LeO.bind ?_ (fun _ => ?_)
    · intro y0 y1 y2 y3 y4 y5 y6 y7 y8
      unfold awardingbodylaw12_BookletFields.l1
      repeat' first
      | (with_reducible exact ih0 _ _ _ _ _ _ _)
      | (with_reducible exact ih1 _ _ _ _ _ _ _ _ _)
      | (with_reducible exact awardingbodylaw12_awake.mono _)
      | (with_reducible exact awardingbodylaw12_shaped.mono _ _ _ _ _ _)
      | (with_reducible exact awardingbodymake_Tape_LoosePaper.mono _ _ _ _)
      | (with_reducible exact awardingbodyref12_Fields.mono _ _ _ _ _ _)
      | (with_reducible exact booklet_Fields.mono _ _ _ _ _ _)
      | (with_reducible exact LeO.refl _)
      | (with_reducible exact LeO.none _)
      | (with_reducible refine LeO.ite ?_ ?_)
      | (with_reducible refine LeO.bind ?_ (fun _ => ?_))
      | exact ih0 _ _ _ _ _ _ _
      | exact ih1 _ _ _ _ _ _ _ _ _
      | exact awardingbodylaw12_awake.mono _
      | exact awardingbodylaw12_shaped.mono _ _ _ _ _ _
      | exact awardingbodymake_Tape_LoosePaper.mono _ _ _ _
      | exact awardingbodyref12_Fields.mono _ _ _ _ _ _
      | exact booklet_Fields.mono _ _ _ _ _ _
      | exact LeO.none _
      | refine LeO.ite ?_ ?_
      | refine LeO.bind ?_ (fun _ => ?_)
theorem awardingbodylaw12_BookletFields.mono : ∀ a0 a1 k, LeO (awardingbodylaw12_BookletFields.f k a0 a1) (awardingbodylaw12_BookletFields.f (k + 1) a0 a1) := by
  intro a0 a1 k
  obtain ⟨ih0, ih1⟩ := awardingbodylaw12_BookletFields.mono_l k
  unfold awardingbodylaw12_BookletFields.f
  repeat' first
      | (with_reducible exact ih0 _ _ _ _ _ _ _)
      | (with_reducible exact ih1 _ _ _ _ _ _ _ _ _)
      | (with_reducible exact awardingbodylaw12_awake.mono _)
      | (with_reducible exact awardingbodylaw12_shaped.mono _ _ _ _ _ _)
      | (with_reducible exact awardingbodymake_Tape_LoosePaper.mono _ _ _ _)
      | (with_reducible exact awardingbodyref12_Fields.mono _ _ _ _ _ _)
      | (with_reducible exact booklet_Fields.mono _ _ _ _ _ _)
      | (with_reducible exact LeO.refl _)
      | (with_reducible exact LeO.none _)
      | (with_reducible refine LeO.ite ?_ ?_)
      | (with_reducible refine LeO.bind ?_ (fun _ => ?_))
      | exact ih0 _ _ _ _ _ _ _
      | exact ih1 _ _ _ _ _ _ _ _ _
      | exact awardingbodylaw12_awake.mono _
      | exact awardingbodylaw12_shaped.mono _ _ _ _ _ _
      | exact awardingbodymake_Tape_LoosePaper.mono _ _ _ _
      | exact awardingbodyref12_Fields.mono _ _ _ _ _ _
      | exact booklet_Fields.mono _ _ _ _ _ _
      | exact LeO.none _
      | refine LeO.ite ?_ ?_
      | refine LeO.bind ?_ (fun _ => ?_)
def awardingbodylaw12_BookletFields.T8 : Bool × List (List Nat × List Nat) := (true, [([], []), ([], []), ([], []), ([0, 1, 2], [0, 1, 2]), ([], []), ([], []), ([], []), ([4, 5, 6, 3], [4, 5, 6]), ([3, 7, 0, 1, 2, 3], [3]), ([7, 8, 0, 1, 2, 3, 4, 5, 6, 7, 8], [7])])
def awardingbodylaw12_BookletFields.B8 : List Nat := [0, 0, 0, 7, 0, 0, 0, 127, 255, 511]
theorem awardingbodylaw12_BookletFields.tab8 : rtab .any (opsOf Try.f9 8) = awardingbodylaw12_BookletFields.T8 := by kernel_rfl
theorem awardingbodylaw12_BookletFields.bits8 : waitsOk awardingbodylaw12_BookletFields.T8.2 awardingbodylaw12_BookletFields.B8 = true := by kernel_rfl
def awardingbodylaw12_BookletFields.T14 : Bool × List (List Nat × List Nat) := (true, [([], []), ([], []), ([0, 1], [0, 1]), ([2], [2]), ([], []), ([], []), ([4, 5], [4, 5]), ([6], [6]), ([3, 7], [3, 7])])
def awardingbodylaw12_BookletFields.B14 : List Nat := [0, 0, 3, 7, 0, 0, 48, 112, 255]
theorem awardingbodylaw12_BookletFields.tab14 : rtab .any (opsOf Try.f9 14) = awardingbodylaw12_BookletFields.T14 := by kernel_rfl
theorem awardingbodylaw12_BookletFields.bits14 : waitsOk awardingbodylaw12_BookletFields.T14.2 awardingbodylaw12_BookletFields.B14 = true := by kernel_rfl
set_option maxHeartbeats 8000000 in
set_option maxRecDepth 100000 in
theorem awardingbodylaw12_BookletFields.calls (k : Nat) (A0 : Option Addr) (c0 : Nat) (l0 : List Int) (a1 : Int) (r : Bool) (w : World) (hr0 : Kd.C (Kd.int .i64) w A0 l0.length l0) (hc0 : l0.length ≤ c0) (h : awardingbodylaw12_BookletFields.f k l0 a1 = some r) :
    Calls Try.prog 9 #[.slice A0 l0.length c0, .int .i64 a1] w fun e w' => e = .returned (.bool r) ∧ Below w.heap.size w w' := by
 have hu33 := Try.underlying33
 have hu38 := Try.underlying38
 have hu53 := Try.underlying53
 have HR0 := za hr0
 have HC0 := za hc0
 clear hr0 hc0
 have HB := za (Below.refl w.heap.size w)
 have H : ((awardingbodymake_New.f l0).bind fun bt562 => ((awardingbodymake_Tape_LoosePaper.f k bt562.1 bt562.2 10).bind fun bt565 => ((awardingbodylaw12_shaped.f k bt562.1 bt565.2.2.2 bt565.1 bt565.2.1 bt565.2.2.1).bind fun bt572 => ((awardingbodymake_Cut.f a1 9).bind fun t577 => (awardingbodylaw12_BookletFields.l0 k a1 t577 0 bt565.1 bt565.2.1 bt565.2.2.1 bt572.1))))) = some r := h
 clear h
 replace H := Option.bind_eq_some_iff.mp H
 obtain ⟨⟨t562, t563⟩, A30, H⟩ := H
 replace H : ((awardingbodymake_Tape_LoosePaper.f k t562 t563 10).bind fun bt565 => ((awardingbodylaw12_shaped.f k t562 bt565.2.2.2 bt565.1 bt565.2.1 bt565.2.2.1).bind fun bt572 => ((awardingbodymake_Cut.f a1 9).bind fun t577 => (awardingbodylaw12_BookletFields.l0 k a1 t577 0 bt565.1 bt565.2.1 bt565.2.2.1 bt572.1)))) = some r := H
 have A3 := za A30
 clear A30
 replace H := Option.bind_eq_some_iff.mp H
 obtain ⟨⟨t565, t566, t567, t570⟩, A40, H⟩ := H
 replace H : ((awardingbodylaw12_shaped.f k t562 t570 t565 t566 t567).bind fun bt572 => ((awardingbodymake_Cut.f a1 9).bind fun t577 => (awardingbodylaw12_BookletFields.l0 k a1 t577 0 t565 t566 t567 bt572.1))) = some r := H
 have A4 := za A40
 clear A40
 replace H := Option.bind_eq_some_iff.mp H
 obtain ⟨⟨t572, t575⟩, A50, H⟩ := H
 replace H : ((awardingbodymake_Cut.f a1 9).bind fun t577 => (awardingbodylaw12_BookletFields.l0 k a1 t577 0 t565 t566 t567 t572)) = some r := H
 have A5 := za A50
 clear A50
 replace H := Option.bind_eq_some_iff.mp H
 obtain ⟨t577, A60, H⟩ := H
 replace H : (awardingbodylaw12_BookletFields.l0 k a1 t577 0 t565 t566 t567 t572) = some r := H
 have A6 := za A60
 clear A60
 have H' := za H
 clear H
 go_enter Try.func9, Try.ntmps9
 go_wp2_with (first | ((with_reducible refine gate_callee (f := 15) rfl ?_); refine zL (some 14) Try.func15 #[.slice A0 l0.length c0] ?_; (with_reducible refine (awardingbodymake_New.calls _ _ l0 t562 t563 w _ ?side1 ?side2 ?side3 A3.out).mono ?_); (case side1 => exact (by repeat (first | (with_reducible first | exact HB.out | apply below_alloc | apply pw_below_drewN | apply below_drew1) | exact HB.out))); (case side2 => exact HR0.out); (case side3 => exact HC0.out); rintro e w7 ⟨g564, rfl, hi, hb, hb2⟩; refine ⟨_, rfl, ?_⟩; have HI564 := za (hi); replace HB := za (hb); (try clear hb); (try clear hb2); (try clear hk); (try clear hi)) | ((with_reducible refine gate_callee (f := 16) rfl ?_); refine zL (some 16) Try.func16 #[.pointer (some ⟨g564, 0, none⟩), .int .i64 10] ?_; (with_reducible refine (awardingbodymake_Tape_LoosePaper.calls k g564 t562 t563 10 t565 t566 t567 t570 w _ ?side1 ?side2 A4.out).mono ?_); (case side1 => exact (by repeat (first | (with_reducible first | exact HI564.out | apply IsS61.alloc | apply IsS61.drewN | apply IsS61.drew | apply IsS61.set_1) | exact HI564.out))); (case side2 => exact (by repeat (first | (with_reducible first | exact HB.out | apply below_alloc | apply pw_below_drewN | apply below_drew1 | refine below_set ?_ (IsS61.ge HI564.out)) | exact HB.out))); rintro e w8 ⟨v568, rfl, ho0, hi, hb, hk⟩; refine ⟨_, rfl, ?_⟩; have HO569 := za (Kd.R_lower ho0 (below_size (zm HB))); replace HB := za (hb); replace HI564 := za (hi); (try clear hb); (try clear hb2); (try clear hk); (try clear hi); (try clear ho0)) | ((with_reducible refine gate_dst (N := 6) rfl ?_); refine zE 6 #[.int .i64 0, .int .i64 0, .slice none 0 0] 33 ?_; intro gb571 hg w9 hbox hb; have BK571 := za (hbox); have GW571 := zg HB hg; have GE571 := zg HB hg; have NB564_571 := za ((by rw [hg]; exact Nat.ne_of_lt (IsS61.lt (show IsS61 w _ g564 t562 t570 from by repeat (first | (with_reducible first | exact HI564.out | apply IsS61.alloc | apply IsS61.drewN | apply IsS61.drew | apply IsS61.set_1) | exact HI564.out))) : g564 ≠ gb571)); have NB571_564 := za ((by rw [hg]; exact Nat.ne_of_gt (IsS61.lt (show IsS61 w _ g564 t562 t570 from by repeat (first | (with_reducible first | exact HI564.out | apply IsS61.alloc | apply IsS61.drewN | apply IsS61.drew | apply IsS61.set_1) | exact HI564.out))) : gb571 ≠ g564)); replace HO569 := zR HO569 hb; replace HI564 := za (IsS61.below (by repeat (first | (with_reducible first | exact HI564.out | apply IsS61.alloc | apply IsS61.drewN | apply IsS61.drew | apply IsS61.set_1) | exact HI564.out)) hb); replace HB := zs HB hb; clear hb hbox hg; have hnb10 := NB571_564.out; have hnc10 := NB564_571.out; obtain ⟨hcz11_0, hcz11_1, hcz11_2, hfz11_0, hfz11_1, hfz11_2⟩ := z3 BK571; obtain ⟨Ao12, co12, eo12⟩ := Kd.R_slice HO569.out; subst eo12) | ((with_reducible refine gate_callee (f := 22) rfl ?_); refine zL (some 19) Try.func22 #[.pointer (some ⟨g564, 0, none⟩), .agg #[.int .i64 t565, .int .i64 t566, .slice Ao12 t567.length co12]] ?_; (with_reducible refine (awardingbodylaw12_shaped.calls k g564 t562 t570 t565 t566 _ _ t567 t572 t575 w _ ?side1 ?side2 ?side3 ?side4 A5.out).mono ?_); (case side1 => exact (by repeat (first | (with_reducible first | exact HI564.out | apply IsS61.alloc | apply IsS61.drewN | apply IsS61.drew | apply IsS61.set_1 | refine IsS61.far ?_ NB564_571.out _) | exact HI564.out))); (case side2 => exact (by repeat (first | (with_reducible first | exact HB.out | apply below_alloc | apply pw_below_drewN | apply below_drew1 | refine below_set ?_ (IsS61.ge HI564.out) | refine below_set ?_ GE571.out) | exact HB.out))); (case side3 => exact Kd.C_foot_own (IsS61.apart (show IsS61 w _ g564 t562 t570 from by repeat (first | (with_reducible first | exact HI564.out | apply IsS61.alloc | apply IsS61.drewN | apply IsS61.drew | apply IsS61.set_1 | refine IsS61.far ?_ NB564_571.out _) | exact HI564.out)) (by (with_reducible repeat (first | apply Kd.R_alloc | apply Kd.R_drewN | apply Kd.R_drew)); exact (Kd.R_mono (Kd.R_far (p := ⟨gb571, 2, none⟩) (Kd.R_far (p := ⟨gb571, 1, none⟩) (Kd.R_far (p := ⟨gb571, 0, none⟩) (Kd.R_types HO569.out BK571.out (by decide)) (fun _ hk => hk.2) (.int .i64 t565)) (fun _ hk => hk.2) (.int .i64 t566)) (fun _ hk => hk.2) (.slice Ao12 t567.length co12)) (fun _ h_ => h_.1))) (by decide)) (fun _ h_ => h_.2)); (case side4 => exact (Kd.R_reads' HO569.out).2.1); rintro e w13 ⟨v573, rfl, ho0, hi, hb, hk⟩; refine ⟨_, rfl, ?_⟩; have HO574 := za (Kd.S_lower ho0 (below_size (zm HB))); replace HO569 := za (Kd.R_mono (Kd.R_keep (IsS61.apart (show IsS61 w _ g564 t562 t570 from by repeat (first | (with_reducible first | exact HI564.out | apply IsS61.alloc | apply IsS61.drewN | apply IsS61.drew | apply IsS61.set_1 | refine IsS61.far ?_ NB564_571.out _) | exact HI564.out)) (by (with_reducible repeat (first | apply Kd.R_alloc | apply Kd.R_drewN | apply Kd.R_drew)); exact (Kd.R_mono (Kd.R_far (p := ⟨gb571, 2, none⟩) (Kd.R_far (p := ⟨gb571, 1, none⟩) (Kd.R_far (p := ⟨gb571, 0, none⟩) (Kd.R_types HO569.out BK571.out (by decide)) (fun _ hk => hk.2) (.int .i64 t565)) (fun _ hk => hk.2) (.int .i64 t566)) (fun _ hk => hk.2) (.slice Ao12 t567.length co12)) (fun _ h_ => h_.1))) (by decide)) hk (fun _ h => h.2)) (fun _ h => h.1)); replace BK571 := za (KeepBut.blk hk (g' := gb571) (o := .cells #[.int .i64 t565, .int .i64 t566, .slice Ao12 t567.length co12] 33 (0, 0)) (by (with_reducible repeat (first | refine blk_drewN ?_ _ | refine blk_drew ?_ | refine blk_alloc ?_ _)); refine blk_put (cs := #[.int .i64 t565, .int .i64 t566, .slice none 0 0]) ?_ 2 _ rfl; (with_reducible repeat (first | refine blk_drewN ?_ _ | refine blk_drew ?_ | refine blk_alloc ?_ _)); refine blk_put (cs := #[.int .i64 t565, .int .i64 0, .slice none 0 0]) ?_ 1 _ rfl; (with_reducible repeat (first | refine blk_drewN ?_ _ | refine blk_drew ?_ | refine blk_alloc ?_ _)); refine blk_put (cs := #[.int .i64 0, .int .i64 0, .slice none 0 0]) ?_ 0 _ rfl; (with_reducible repeat (first | refine blk_drewN ?_ _ | refine blk_drew ?_ | refine blk_alloc ?_ _)); exact BK571.out) NB571_564.out (by simp)); replace HB := za (hb); replace HI564 := za (hi); (try clear hb); (try clear hb2); (try clear hk); (try clear hi); (try clear ho0)) | ((with_reducible refine gate_dst (N := 7) rfl ?_); refine zE 7 #[.slice none 0 0] 38 ?_; intro gb576 hg w14 hbox hb; have BK576 := za (hbox); have GW576 := zg HB hg; have GE576 := zg HB hg; have NB571_576 := zl BK571 hg; have NB576_571 := zr BK571 hg; have NB564_576 := za ((by rw [hg]; exact Nat.ne_of_lt (IsS61.lt (show IsS61 w _ g564 t562 t575 from by repeat (first | (with_reducible first | exact HI564.out | apply IsS61.alloc | apply IsS61.drewN | apply IsS61.drew | apply IsS61.set_1 | refine IsS61.far ?_ NB564_571.out _) | exact HI564.out))) : g564 ≠ gb576)); have NB576_564 := za ((by rw [hg]; exact Nat.ne_of_gt (IsS61.lt (show IsS61 w _ g564 t562 t575 from by repeat (first | (with_reducible first | exact HI564.out | apply IsS61.alloc | apply IsS61.drewN | apply IsS61.drew | apply IsS61.set_1 | refine IsS61.far ?_ NB564_571.out _) | exact HI564.out))) : gb576 ≠ g564)); replace HO569 := zR HO569 hb; replace HO574 := zS HO574 hb; replace HI564 := za (IsS61.below (by repeat (first | (with_reducible first | exact HI564.out | apply IsS61.alloc | apply IsS61.drewN | apply IsS61.drew | apply IsS61.set_1 | refine IsS61.far ?_ NB564_571.out _) | exact HI564.out)) hb); replace BK571 := zb BK571 hb; replace HB := zs HB hb; clear hb hbox hg; obtain ⟨Ao15, co15, eo15⟩ := Kd.S_slice HO574.out; subst eo15; have hnb16 := NB576_571.out; have hnc16 := NB571_576.out; have hnb17 := NB576_564.out; have hnc17 := NB564_576.out; obtain ⟨hcz18_0, hfz18_0⟩ := z1 BK576) | ((with_reducible refine gate_callee (f := 11) rfl ?_); refine zL (some 21) Try.func11 #[.int .i64 a1, .int .i64 9] ?_; (with_reducible refine (awardingbodymake_Cut.calls a1 9 t577 _ A6.out).mono ?_); rintro e w' ⟨rfl, ⟨nd, rfl⟩⟩; refine ⟨_, rfl, ?_⟩))
 go_loopg [1, 9] k (fun kq v1 v9 w' => ∃ (x1_1 : Int) (x9_1 : Int), v1 = .int .i64 x1_1 ∧ v9 = .int .i64 x9_1 ∧ Aside0 (awardingbodylaw12_BookletFields.l0 kq x1_1 t577 x9_1 t565 t566 t567 t572 = some r) ∧ Aside0 (kq ≤ k) ∧ Aside0 (Kd.R k23 23 w' w.heap.size (fun _ => True) (.slice Ao12 t567.length co12) t567) ∧ Aside0 (Kd.S (Kd.slice 3 (Kd.int .i64)) 28 w' w.heap.size (fun _ => True) (.slice Ao15 t572.length co15) t572) ∧ Aside0 (w'.heap[gb571]? = some (.cells #[.int .i64 t565, .int .i64 t566, (.slice Ao12 t567.length co12)] 33 (0, 0))) ∧ Aside0 (w'.heap[gb576]? = some (.cells #[(.slice Ao15 t572.length co15)] 38 (0, 0))) ∧ Aside0 (Below w.heap.size w w'))
 case atStart => exact ⟨(a1), (0), (by first | rfl | (simp; done) | (simp [*]; done)), (by first | rfl | (simp; done) | (simp [*]; done)), H', ⟨Nat.le_refl _⟩, ⟨by (with_reducible repeat (first | apply Kd.R_alloc | apply Kd.R_drewN | apply Kd.R_drew)); exact Kd.R_mono (Kd.R_far (p := ⟨gb576, 0, none⟩) (Kd.R_types HO569.out BK576.out (by decide)) (fun _ hk => hk.2) (.slice Ao15 t572.length co15)) (fun _ hk => trivial)⟩, ⟨by (with_reducible repeat (first | apply Kd.S_alloc | apply Kd.S_drewN | apply Kd.S_drew)); exact Kd.S_mono (Kd.S_far (p := ⟨gb576, 0, none⟩) (Kd.S_types HO574.out BK576.out (by decide)) (fun _ hk => hk.2) (.slice Ao15 t572.length co15)) (fun _ hk => trivial)⟩, ⟨by (with_reducible repeat (first | refine blk_drewN ?_ _ | refine blk_drew ?_ | refine blk_alloc ?_ _)); refine blk_far ?_ NB571_576.out _; (with_reducible repeat (first | refine blk_drewN ?_ _ | refine blk_drew ?_ | refine blk_alloc ?_ _)); exact BK571.out⟩, ⟨by (with_reducible repeat (first | refine blk_drewN ?_ _ | refine blk_drew ?_ | refine blk_alloc ?_ _)); refine blk_put (cs := #[.slice none 0 0]) ?_ 0 _ rfl; (with_reducible repeat (first | refine blk_drewN ?_ _ | refine blk_drew ?_ | refine blk_alloc ?_ _)); exact BK576.out⟩, ⟨zm HB⟩⟩
 case round =>
  clear H'
  try clear c1
  try clear c2
  try clear p2
  try clear c9
  try clear c10
  try clear c11
  try clear c15
  try clear c16
  try clear c17
  try clear hcz11_0
  try clear hcz11_1
  try clear hcz11_2
  try clear hcz18_0
  try clear hfz11_0
  try clear hfz11_1
  try clear hfz11_2
  try clear hfz18_0
  obtain ⟨x1_1, x9_1, rfl, rfl, HA, HK1, HO_572002, HO_577000, BK571, BK576, HB⟩ := hrel
  cases gk with
  | zero => exact absurd HA.out (by simp [awardingbodylaw12_BookletFields.l0])
  | succ k1 =>
   have H := HA.out
   clear HA
   simp only [awardingbodylaw12_BookletFields.l0] at H
   by_cases c19 : x9_1 < 2
   ·rw [if_pos c19] at H
    have c19b0 : decide (x9_1 < 2) = true := decide_eq_true c19
    clear c19
    replace H := Option.bind_eq_some_iff.mp H
    obtain ⟨t579, A200, H⟩ := H
    replace H : ((awardingbodyref12_Fields.f k1 t565 t566 t567 t572 x1_1).bind fun t582 => (if (t579.length : Int) = (t582.length : Int) then (awardingbodylaw12_BookletFields.l1 k1 t577 x9_1 t579 t582 0 t565 t566 t567 t572) else (none))) = some r := H
    have A20 := za A200
    clear A200
    replace H := Option.bind_eq_some_iff.mp H
    obtain ⟨t582, A210, H⟩ := H
    replace H : (if (t579.length : Int) = (t582.length : Int) then (awardingbodylaw12_BookletFields.l1 k1 t577 x9_1 t579 t582 0 t565 t566 t567 t572) else (none)) = some r := H
    have A21 := za A210
    clear A210
    by_cases c22 : (t579.length : Int) = (t582.length : Int)
    ·rw [if_pos c22] at H
     have c22b0 : ((t579.length : Int) == (t582.length : Int)) = true := beq_iff_eq.mpr c22
     have c22b1 : ((t579.length : Int) != (t582.length : Int)) = false := bne_eq_false_iff_eq.mpr c22
     have c22b2 : (t579.length == t582.length) = true := by first | simpa using c22 | (simp at c22 ⊢; omega)
     clear c22
     have H' := za H
     clear H
     try go_wp2
     replace HO_572002 := za (Kd.R_drew HO_572002.out)
     replace HO_577000 := za (Kd.S_drew HO_577000.out)
     replace BK571 := za (blk_drew BK571.out)
     replace BK576 := za (blk_drew BK576.out)
     replace HB := za (below_drew1 HB.out)
     refine start_ (n := 10) (S := fun w' => w'.cell? ⟨gb571, 0, none⟩ = some (.int .i64 t565) ∧ w'.cell? ⟨gb571, 1, none⟩ = some (.int .i64 t566) ∧ w'.cell? ⟨gb571, 2, none⟩ = some (.slice Ao12 t567.length co12) ∧ w'.cell? ⟨gb576, 0, none⟩ = some (.slice Ao15 t572.length co15)) (ds := []) #[false, false, false, false, false, false, false, false, false, false] (by kernel_rfl) rfl rfl ⟨(blk_cell BK571.out 0).trans rfl, (blk_cell BK571.out 1).trans rfl, (blk_cell BK571.out 2).trans rfl, (blk_cell BK576.out 0).trans rfl⟩ (fun hHeld => ?_); refine with_tabW awardingbodylaw12_BookletFields.tab8 awardingbodylaw12_BookletFields.bits8 (fun HT_ HW_ => ?_)
     generalize wr.drew = w23 at HO_572002 HO_577000 BK571 BK576 HB hHeld ⊢
     refine pure_ (i := 2) (N := some 28) (v := ?_) (a' := ?_) #[false, false, true, false, false, false, false, false, false, false] rfl rfl (any_of HT_.out (by kernel_rfl)) (fun _ _ _ h => h) (Or.inl ⟨by rfl, ?_⟩) ?_ ?_
     rotate_left
     ·intro w'
      go_simp
      with_reducible rfl
     rotate_left
     ·simp only [Act.put, List.setIfInBounds_toArray, List.set_cons_zero, List.set_cons_succ, i64_w, i32_w]
      rfl
     refine pure_ (i := 6) (N := some 32) (v := ?_) (a' := ?_) #[false, false, true, false, false, false, true, false, false, false] rfl rfl (any_of HT_.out (by kernel_rfl)) (fun _ _ _ h => h) (Or.inl ⟨by rfl, ?_⟩) ?_ ?_
     rotate_left
     ·intro w'
      go_simp
      with_reducible rfl
     rotate_left
     ·simp only [Act.put, List.setIfInBounds_toArray, List.set_cons_zero, List.set_cons_succ, i64_w, i32_w]
      rfl
     refine take_ (i := 0) (N := some 26) (v := ?_) (a' := ?_) #[true, false, true, false, false, false, true, false, false, false] rfl rfl (take_ofW HT_.out HW_.out (by kernel_rfl)) (fun _ _ _ h => h) (Or.inl ⟨by rfl, ?_⟩) hHeld ?_ ?_
     rotate_left
     ·rintro w' ⟨s0, s1, s2, s3⟩
      go_simp
      with_reducible rfl
     rotate_left
     ·simp only [Act.put, List.setIfInBounds_toArray, List.set_cons_zero, List.set_cons_succ, i64_w, i32_w]
      rfl
     refine take_ (i := 1) (N := some 27) (v := ?_) (a' := ?_) #[true, true, true, false, false, false, true, false, false, false] rfl rfl (take_ofW HT_.out HW_.out (by kernel_rfl)) (fun _ _ _ h => h) (Or.inl ⟨by rfl, ?_⟩) hHeld ?_ ?_
     rotate_left
     ·rintro w' ⟨s0, s1, s2, s3⟩
      go_simp
      with_reducible rfl
     rotate_left
     ·simp only [Act.put, List.setIfInBounds_toArray, List.set_cons_zero, List.set_cons_succ, i64_w, i32_w]
      rfl
     refine take_ (i := 4) (N := some 30) (v := ?_) (a' := ?_) #[true, true, true, false, true, false, true, false, false, false] rfl rfl (take_ofW HT_.out HW_.out (by kernel_rfl)) (fun _ _ _ h => h) (Or.inl ⟨by rfl, ?_⟩) hHeld ?_ ?_
     rotate_left
     ·rintro w' ⟨s0, s1, s2, s3⟩
      go_simp
      with_reducible rfl
     rotate_left
     ·simp only [Act.put, List.setIfInBounds_toArray, List.set_cons_zero, List.set_cons_succ, i64_w, i32_w]
      rfl
     refine take_ (i := 5) (N := some 31) (v := ?_) (a' := ?_) #[true, true, true, false, true, true, true, false, false, false] rfl rfl (take_ofW HT_.out HW_.out (by kernel_rfl)) (fun _ _ _ h => h) (Or.inl ⟨by rfl, ?_⟩) hHeld ?_ ?_
     rotate_left
     ·rintro w' ⟨s0, s1, s2, s3⟩
      go_simp
      with_reducible rfl
     rotate_left
     ·simp only [Act.put, List.setIfInBounds_toArray, List.set_cons_zero, List.set_cons_succ, i64_w, i32_w]
      rfl
     refine one_ (i := 3) (N := some 29) #[true, true, true, true, true, true, true, false, false, false] rfl rfl (one_of HT_.out (by kernel_rfl)) (by decide) (fun K hK => ?_)
     refine goes_ Try.func27 (by kernel_rfl) rfl #[.agg #[.int .i64 t565, .int .i64 t566, .slice Ao12 t567.length co12], .agg #[.slice Ao15 t572.length co15], .int .i64 x1_1] (by rfl) rfl rfl (by (try simp only [List.map_toArray, List.map_cons, List.map_nil]); first | done | rfl | (simp only [List.length_drop, List.length_take]; rfl)) ?_
     with_reducible refine (booklet_Fields.calls k1 t565 t566 _ _ t567 _ _ t572 x1_1 t579 _ ?side1 ?side2 ?side3 ?side4 A20.out).mono ?_
     (case side1 => exact zD HO_572002)
     (case side2 => exact (Kd.R_reads' HO_572002.out).2.1)
     (case side3 => repeat (first | exact (Kd.S_reads' HO_577000.out).2.2 | (with_reducible refine Kd.C_alloc ?_ _) | (with_reducible refine Kd.C_drewN ?_ _) | (with_reducible refine Kd.C_drew ?_)))
     (case side4 => exact (Kd.S_reads' HO_577000.out).2.1)
     rintro e w24 ⟨v580, rfl, ho0, hb⟩
     refine ⟨_, rfl, ?_⟩
     have HO581 := za (Kd.R_lower ho0 (below_size (zm HB)))
     replace HO_572002 := zR HO_572002 hb
     replace HO_577000 := zS HO_577000 hb
     replace BK571 := zb BK571 hb
     replace BK576 := zb BK576 hb
     replace HB := zs HB hb
     (try clear hb)
     (try clear hb2)
     (try clear hk)
     (try clear hi)
     (try clear ho0)
     refine hK.out _ _ ⟨(blk_cell BK571.out 0).trans rfl, (blk_cell BK571.out 1).trans rfl, (blk_cell BK571.out 2).trans rfl, (blk_cell BK576.out 0).trans rfl⟩ (fun hHeld => ?_)
     clear hK K
     refine norm_ (a' := ?_) ?_ ?_
     rotate_left
     ·show Act.put _ (some 29) _ = _
      simp only [Act.put, List.setIfInBounds_toArray, List.set_cons_zero, List.set_cons_succ, i64_w, i32_w]
      rfl
     refine one_ (i := 7) (N := some 33) #[true, true, true, true, true, true, true, true, false, false] rfl rfl (one_of HT_.out (by kernel_rfl)) (by decide) (fun K hK => ?_)
     refine goes_ Try.func28 (by kernel_rfl) rfl #[.agg #[.int .i64 t565, .int .i64 t566, .slice Ao12 t567.length co12], .agg #[.slice Ao15 t572.length co15], .int .i64 x1_1] (by rfl) rfl rfl (by (try simp only [List.map_toArray, List.map_cons, List.map_nil]); first | done | rfl | (simp only [List.length_drop, List.length_take]; rfl)) ?_
     with_reducible refine (awardingbodyref12_Fields.calls k1 t565 t566 _ _ t567 _ _ t572 x1_1 t582 _ ?side1 ?side2 ?side3 ?side4 A21.out).mono ?_
     (case side1 => exact zD HO_572002)
     (case side2 => exact (Kd.R_reads' HO_572002.out).2.1)
     (case side3 => repeat (first | exact (Kd.S_reads' HO_577000.out).2.2 | (with_reducible refine Kd.C_alloc ?_ _) | (with_reducible refine Kd.C_drewN ?_ _) | (with_reducible refine Kd.C_drew ?_)))
     (case side4 => exact (Kd.S_reads' HO_577000.out).2.1)
     rintro e w25 ⟨v583, rfl, ho0, hb⟩
     refine ⟨_, rfl, ?_⟩
     have HO584 := za (Kd.R_lower (Kd.R_new' ho0 (Kd.R_lt (by (with_reducible repeat (first | apply Kd.R_alloc | apply Kd.R_drewN | apply Kd.R_drew)); exact HO581.out))) (below_size (zm HB)))
     replace HO_572002 := zR HO_572002 hb
     replace HO_577000 := zS HO_577000 hb
     replace HO581 := za (Kd.R_elder' (by (with_reducible repeat (first | apply Kd.R_alloc | apply Kd.R_drewN | apply Kd.R_drew)); exact HO581.out) (Kd.R_base ho0) hb)
     replace BK571 := zb BK571 hb
     replace BK576 := zb BK576 hb
     replace HB := zs HB hb
     (try clear hb)
     (try clear hb2)
     (try clear hk)
     (try clear hi)
     (try clear ho0)
     refine hK.out _ _ ⟨(blk_cell BK571.out 0).trans rfl, (blk_cell BK571.out 1).trans rfl, (blk_cell BK571.out 2).trans rfl, (blk_cell BK576.out 0).trans rfl⟩ (fun hHeld => ?_)
     clear hK K
     refine norm_ (a' := ?_) ?_ ?_
     rotate_left
     ·show Act.put _ (some 33) _ = _
      simp only [Act.put, List.setIfInBounds_toArray, List.set_cons_zero, List.set_cons_succ, i64_w, i32_w]
      rfl
     refine pure_ (i := 8) (N := some 10) (v := ?_) (a' := ?_) #[true, true, true, true, true, true, true, true, true, false] rfl rfl (any_of HT_.out (by kernel_rfl)) (fun _ _ _ h => h) (Or.inl ⟨by rfl, ?_⟩) ?_ ?_
     rotate_left
     ·intro w'
      go_simp
      with_reducible rfl
     rotate_left
     ·simp only [Act.put, List.setIfInBounds_toArray, List.set_cons_zero, List.set_cons_succ, i64_w, i32_w]
      rfl
     refine pure_ (i := 9) (N := some 11) (v := ?_) (a' := ?_) #[true, true, true, true, true, true, true, true, true, true] rfl rfl (any_of HT_.out (by kernel_rfl)) (fun _ _ _ h => h) (Or.inl ⟨by rfl, ?_⟩) ?_ ?_
     rotate_left
     ·intro w'
      go_simp
      with_reducible rfl
     rotate_left
     ·simp only [Act.put, List.setIfInBounds_toArray, List.set_cons_zero, List.set_cons_succ, i64_w, i32_w]
      rfl
     refine done_ (done_of HT_.out (by kernel_rfl)) ?_
     obtain ⟨Ao26, co26, eo26⟩ := Kd.R_slice HO581.out
     subst eo26
     obtain ⟨Ao27, co27, eo27⟩ := Kd.R_slice HO584.out
     subst eo27
     try go_wp2
     go_loopg [12] k1 (fun kq v12 w' => ∃ (x12_2 : Int), v12 = .int .i64 x12_2 ∧ Aside0 (awardingbodylaw12_BookletFields.l1 kq t577 x9_1 t579 t582 x12_2 t565 t566 t567 t572 = some r) ∧ Aside0 (kq ≤ k1) ∧ Aside0 (Kd.R k53 53 w' w.heap.size (fun k_ => some k_ ≠ ((.slice Ao27 t582.length co27) : Value).ownBlock) (.slice Ao26 t579.length co26) t579) ∧ Aside0 (Kd.R k53 53 w' w.heap.size (fun k_ => some k_ ≠ ((.slice Ao26 t579.length co26) : Value).ownBlock) (.slice Ao27 t582.length co27) t582) ∧ Aside0 (Kd.R k23 23 w' w.heap.size (fun _ => True) (.slice Ao12 t567.length co12) t567) ∧ Aside0 (Kd.S (Kd.slice 3 (Kd.int .i64)) 28 w' w.heap.size (fun _ => True) (.slice Ao15 t572.length co15) t572) ∧ Aside0 (w'.heap[gb571]? = some (.cells #[.int .i64 t565, .int .i64 t566, (.slice Ao12 t567.length co12)] 33 (0, 0))) ∧ Aside0 (w'.heap[gb576]? = some (.cells #[(.slice Ao15 t572.length co15)] 38 (0, 0))) ∧ Aside0 (Below w.heap.size w w'))
     case atStart => exact ⟨(0), (by first | rfl | (simp; done) | (simp [*]; done)), H', ⟨Nat.le_refl _⟩, ⟨by (with_reducible repeat (first | apply Kd.R_alloc | apply Kd.R_drewN | apply Kd.R_drew)); exact Kd.R_mono HO581.out (fun _ hk => hk.2)⟩, ⟨by (with_reducible repeat (first | apply Kd.R_alloc | apply Kd.R_drewN | apply Kd.R_drew)); exact Kd.R_mono HO584.out (fun _ hk => hk.2)⟩, ⟨by (with_reducible repeat (first | apply Kd.R_alloc | apply Kd.R_drewN | apply Kd.R_drew)); exact HO_572002.out⟩, ⟨by (with_reducible repeat (first | apply Kd.S_alloc | apply Kd.S_drewN | apply Kd.S_drew)); exact HO_577000.out⟩, ⟨by (with_reducible repeat (first | refine blk_drewN ?_ _ | refine blk_drew ?_ | refine blk_alloc ?_ _)); exact BK571.out⟩, ⟨by (with_reducible repeat (first | refine blk_drewN ?_ _ | refine blk_drew ?_ | refine blk_alloc ?_ _)); exact BK576.out⟩, ⟨zm HB⟩⟩
     case round =>
      clear H'
      try clear c1
      try clear c2
      try clear p2
      try clear c9
      try clear c10
      try clear c11
      try clear c15
      try clear c16
      try clear c17
      try clear c19
      try clear c19b0
      try clear c22
      try clear c22b0
      try clear c22b1
      try clear c22b2
      try clear c27
      try clear hcz11_0
      try clear hcz11_1
      try clear hcz11_2
      try clear hcz18_0
      try clear hfz11_0
      try clear hfz11_1
      try clear hfz11_2
      try clear hfz18_0
      try clear p2
      obtain ⟨x12_2, rfl, HA, HK2, HO_10, HO_11, HO_572002, HO_577000, BK571, BK576, HB⟩ := hrel
      cases gk with
      | zero => exact absurd HA.out (by simp [awardingbodylaw12_BookletFields.l1])
      | succ k2 =>
       have H := HA.out
       clear HA
       simp only [awardingbodylaw12_BookletFields.l1] at H
       by_cases c28 : x12_2 < (t579.length : Int)
       ·rw [if_pos c28] at H
        have c28b0 : decide (x12_2 < (t579.length : Int)) = true := decide_eq_true c28
        clear c28
        by_cases c29 : 0 ≤ x12_2
        ·rw [if_pos c29] at H
         have c29b0 : decide (0 ≤ x12_2) = true := decide_eq_true c29
         clear c29
         by_cases c30 : x12_2 < (t582.length : Int)
         ·rw [if_pos c30] at H
          have c30b0 : decide (x12_2 < (t582.length : Int)) = true := decide_eq_true c30
          clear c30
          by_cases c31 : (!(((rd_T53 t579 x12_2).f0) == ((rd_T53 t582 x12_2).f0)) || (!(((rd_T53 t579 x12_2).f1) == ((rd_T53 t582 x12_2).f1)))) = true
          ·rw [if_pos c31] at H
           exact absurd H (by simp)
          ·rw [if_neg c31] at H
           have c31b0 : (!(((rd_T53 t579 x12_2).f0) == ((rd_T53 t582 x12_2).f0)) || (!(((rd_T53 t579 x12_2).f1) == ((rd_T53 t582 x12_2).f1)))) = false := by simpa using c31
           clear c31
           have H' := za H
           clear H
           try go_wp2
           replace HO_10 := za (Kd.R_drew HO_10.out)
           replace HO_11 := za (Kd.R_drew HO_11.out)
           replace HO_572002 := za (Kd.R_drew HO_572002.out)
           replace HO_577000 := za (Kd.S_drew HO_577000.out)
           replace BK571 := za (blk_drew BK571.out)
           replace BK576 := za (blk_drew BK576.out)
           replace HB := za (below_drew1 HB.out)
           have p585 : 0 ≤ (x12_2 : Int) := of_decide_eq_true (by first | (with_reducible assumption) | assumption)
           have q585 : x12_2 < (t579.length : Int) := of_decide_eq_true (by first | (with_reducible assumption) | assumption)
           obtain ⟨ad585, e585, hx585_0, hx585_1⟩ := at_T53 (Kd.R_reads' HO_10.out).2.2 x12_2 p585 q585
           cases e585
           replace p585 := eq_true p585
           replace q585 := eq_true q585
           have p586 : 0 ≤ (x12_2 : Int) := of_decide_eq_true (by first | (with_reducible assumption) | assumption)
           have q586 : x12_2 < (t582.length : Int) := of_decide_eq_true (by first | (with_reducible assumption) | assumption)
           obtain ⟨ad586, e586, hx586_0, hx586_1⟩ := at_T53 (Kd.R_reads' HO_11.out).2.2 x12_2 p586 q586
           cases e586
           replace p586 := eq_true p586
           replace q586 := eq_true q586
           refine start_ (n := 9) (S := fun w' => w'.cell? (ad585.add ((x12_2).toNat * 2)) = some (.int .i64 ((rd_T53 t579 x12_2).f0)) ∧ w'.cell? ⟨(ad585.add ((x12_2).toNat * 2)).block, (ad585.add ((x12_2).toNat * 2)).off + 1, none⟩ = some (.int .i64 ((rd_T53 t579 x12_2).f1)) ∧ w'.cell? (ad586.add ((x12_2).toNat * 2)) = some (.int .i64 ((rd_T53 t582 x12_2).f0)) ∧ w'.cell? ⟨(ad586.add ((x12_2).toNat * 2)).block, (ad586.add ((x12_2).toNat * 2)).off + 1, none⟩ = some (.int .i64 ((rd_T53 t582 x12_2).f1))) (ds := []) #[false, false, false, false, false, false, false, false, false] (by kernel_rfl) rfl rfl ⟨hx585_0, hx585_1, hx586_0, hx586_1⟩ (fun hHeld => ?_); refine with_tabW awardingbodylaw12_BookletFields.tab14 awardingbodylaw12_BookletFields.bits14 (fun HT_ HW_ => ?_)
           generalize wr.drew = w32 at HO_10 HO_11 HO_572002 HO_577000 BK571 BK576 HB hx585_0 hx585_1 hx586_0 hx586_1 hHeld ⊢
           refine pure_ (i := 0) (N := some 45) (v := ?_) (a' := ?_) #[true, false, false, false, false, false, false, false, false] rfl rfl (any_of HT_.out (by kernel_rfl)) (fun _ _ _ h => h) (Or.inl ⟨by rfl, ?_⟩) ?_ ?_
           rotate_left
           ·intro w'
            go_simp
            with_reducible rfl
           rotate_left
           ·simp only [Act.put, List.setIfInBounds_toArray, List.set_cons_zero, List.set_cons_succ, i64_w, i32_w]
            rfl
           refine pure_ (i := 1) (N := some 46) (v := ?_) (a' := ?_) #[true, true, false, false, false, false, false, false, false] rfl rfl (any_of HT_.out (by kernel_rfl)) (fun _ _ _ h => h) (Or.inl ⟨by rfl, ?_⟩) ?_ ?_
           rotate_left
           ·intro w'
            go_simp
            with_reducible rfl
           rotate_left
           ·simp only [Act.put, List.setIfInBounds_toArray, List.set_cons_zero, List.set_cons_succ, i64_w, i32_w]
            rfl
           refine pure_ (i := 2) (N := some 47) (v := ?_) (a' := ?_) #[true, true, true, false, false, false, false, false, false] rfl rfl (any_of HT_.out (by kernel_rfl)) (fun _ _ _ h => h) (Or.inl ⟨by rfl, ?_⟩) ?_ ?_
           rotate_left
           ·intro w'
            go_simp
            with_reducible rfl
           rotate_left
           ·simp only [Act.put, List.setIfInBounds_toArray, List.set_cons_zero, List.set_cons_succ, i64_w, i32_w]
            rfl
           refine pure_ (i := 4) (N := some 49) (v := ?_) (a' := ?_) #[true, true, true, false, true, false, false, false, false] rfl rfl (any_of HT_.out (by kernel_rfl)) (fun _ _ _ h => h) (Or.inl ⟨by rfl, ?_⟩) ?_ ?_
           rotate_left
           ·intro w'
            go_simp
            with_reducible rfl
           rotate_left
           ·simp only [Act.put, List.setIfInBounds_toArray, List.set_cons_zero, List.set_cons_succ, i64_w, i32_w]
            rfl
           refine pure_ (i := 5) (N := some 50) (v := ?_) (a' := ?_) #[true, true, true, false, true, true, false, false, false] rfl rfl (any_of HT_.out (by kernel_rfl)) (fun _ _ _ h => h) (Or.inl ⟨by rfl, ?_⟩) ?_ ?_
           rotate_left
           ·intro w'
            go_simp
            with_reducible rfl
           rotate_left
           ·simp only [Act.put, List.setIfInBounds_toArray, List.set_cons_zero, List.set_cons_succ, i64_w, i32_w]
            rfl
           refine pure_ (i := 6) (N := some 51) (v := ?_) (a' := ?_) #[true, true, true, false, true, true, true, false, false] rfl rfl (any_of HT_.out (by kernel_rfl)) (fun _ _ _ h => h) (Or.inl ⟨by rfl, ?_⟩) ?_ ?_
           rotate_left
           ·intro w'
            go_simp
            with_reducible rfl
           rotate_left
           ·simp only [Act.put, List.setIfInBounds_toArray, List.set_cons_zero, List.set_cons_succ, i64_w, i32_w]
            rfl
           refine take_ (i := 3) (N := some 48) (v := ?_) (a' := ?_) #[true, true, true, true, true, true, true, false, false] rfl rfl (take_ofW HT_.out HW_.out (by kernel_rfl)) (fun _ _ _ h => h) (Or.inl ⟨by rfl, ?_⟩) hHeld ?_ ?_
           rotate_left
           ·rintro w' ⟨s0, s1, s2, s3⟩
            go_simp
            with_reducible rfl
           rotate_left
           ·simp only [Act.put, List.setIfInBounds_toArray, List.set_cons_zero, List.set_cons_succ, i64_w, i32_w]
            rfl
           refine take_ (i := 7) (N := some 52) (v := ?_) (a' := ?_) #[true, true, true, true, true, true, true, true, false] rfl rfl (take_ofW HT_.out HW_.out (by kernel_rfl)) (fun _ _ _ h => h) (Or.inl ⟨by rfl, ?_⟩) hHeld ?_ ?_
           rotate_left
           ·rintro w' ⟨s0, s1, s2, s3⟩
            go_simp
            with_reducible rfl
           rotate_left
           ·simp only [Act.put, List.setIfInBounds_toArray, List.set_cons_zero, List.set_cons_succ, i64_w, i32_w]
            rfl
           refine pure_ (i := 8) (N := some 53) (v := ?_) (a' := ?_) #[true, true, true, true, true, true, true, true, true] rfl rfl (any_of HT_.out (by kernel_rfl)) (fun _ _ _ h => h) (Or.inl ⟨by rfl, ?_⟩) ?_ ?_
           rotate_left
           ·intro w'
            go_simp
            with_reducible rfl
           rotate_left
           ·simp only [Act.put, List.setIfInBounds_toArray, List.set_cons_zero, List.set_cons_succ, i64_w, i32_w]
            rfl
           refine done_ (done_of HT_.out (by kernel_rfl)) ?_
           try go_wp2
           go_roundg k2
           case measure => have := HK1.out; have := HK2.out; omega
           case rel => exact ⟨(wrap64 (x12_2 + 1)), (by first | rfl | (simp; done) | (simp [*]; done)), H', ⟨by have := HK1.out; have := HK2.out; omega⟩, ⟨by (with_reducible repeat (first | apply Kd.R_alloc | apply Kd.R_drewN | apply Kd.R_drew)); exact HO_10.out⟩, ⟨by (with_reducible repeat (first | apply Kd.R_alloc | apply Kd.R_drewN | apply Kd.R_drew)); exact HO_11.out⟩, ⟨by (with_reducible repeat (first | apply Kd.R_alloc | apply Kd.R_drewN | apply Kd.R_drew)); exact HO_572002.out⟩, ⟨by (with_reducible repeat (first | apply Kd.S_alloc | apply Kd.S_drewN | apply Kd.S_drew)); exact HO_577000.out⟩, ⟨by (with_reducible repeat (first | refine blk_drewN ?_ _ | refine blk_drew ?_ | refine blk_alloc ?_ _)); exact BK571.out⟩, ⟨by (with_reducible repeat (first | refine blk_drewN ?_ _ | refine blk_drew ?_ | refine blk_alloc ?_ _)); exact BK576.out⟩, ⟨zm HB⟩⟩
         ·rw [if_neg c30] at H
          exact absurd H (by simp)
        ·rw [if_neg c29] at H
         exact absurd H (by simp)
       ·rw [if_neg c28] at H
        have c28b0 : decide (x12_2 < (t579.length : Int)) = false := decide_eq_false c28
        clear c28
        have H' := za H
        clear H
        go_wp2
        go_roundg k2
        case measure => have := HK1.out; have := HK2.out; omega
        case rel => exact ⟨(t577), (wrap64 (x9_1 + 1)), (by first | rfl | (simp; done) | (simp [*]; done)), (by first | rfl | (simp; done) | (simp [*]; done)), H', ⟨by have := HK1.out; have := HK2.out; omega⟩, ⟨by (with_reducible repeat (first | apply Kd.R_alloc | apply Kd.R_drewN | apply Kd.R_drew)); exact HO_572002.out⟩, ⟨by (with_reducible repeat (first | apply Kd.S_alloc | apply Kd.S_drewN | apply Kd.S_drew)); exact HO_577000.out⟩, ⟨by (with_reducible repeat (first | refine blk_drewN ?_ _ | refine blk_drew ?_ | refine blk_alloc ?_ _)); exact BK571.out⟩, ⟨by (with_reducible repeat (first | refine blk_drewN ?_ _ | refine blk_drew ?_ | refine blk_alloc ?_ _)); exact BK576.out⟩, ⟨zm HB⟩⟩
    ·rw [if_neg c22] at H
     exact absurd H (by simp)
   ·rw [if_neg c19] at H
    have c19b0 : decide (x9_1 < 2) = false := decide_eq_false c19
    clear c19
    replace H := Option.bind_eq_some_iff.mp H
    obtain ⟨t578, A330, H⟩ := H
    replace H : (some t578) = some r := H
    have A33 := za A330
    clear A330
    obtain rfl := Option.some.inj H
    go_wp2_with (first | ((with_reducible refine gate_callee (f := 14) rfl ?_); refine zL (some 55) Try.func14 #[] ?_; (with_reducible refine (awardingbodylaw12_awake.calls k1  t578 _ A33.out).mono ?_); rintro e w34 ⟨rfl, hb⟩; refine ⟨_, rfl, ?_⟩; replace HO_572002 := zR HO_572002 hb; replace HO_577000 := zS HO_577000 hb; replace BK571 := zb BK571 hb; replace BK576 := zb BK576 hb; replace HB := zs HB hb; (try clear hb); (try clear hb2); (try clear hk); (try clear hi)))
    go_ret
    exact ⟨zf, zm HB⟩

/-- THE ONE PURE STATEMENT of awardingbodylaw12_BookletFields: yours. -/
def awardingbodylaw12_BookletFields.Pure : Prop := ∀ (l0 : List Int) (a1 : Int), l0.length ≤ maxLen → l0.length * 8 ≤ 140737488351232 → (∀ x ∈ l0, (Lit.int .i64 x).wf = true) → (Lit.int .i64 a1).wf = true → ∃ k, awardingbodylaw12_BookletFields.f k l0 a1 = some true
theorem awardingbodylaw12_BookletFields.walk (P : awardingbodylaw12_BookletFields.Pure) (a0 : Option Addr) (len0 cap0 : Nat) (z0 : List Int) (a1 : Int) (w : World) (w0 : (a0 = none ∧ len0 = 0 ∧ cap0 = 0 ∧ z0 = []) ∨ ∃ x, a0 = some x ∧ len0 ≤ cap0 ∧ cap0 ≤ maxLen ∧ z0.length = cap0 ∧ (∀ i, i < z0.length → w.cell? (x.add i) = some (.int .i64 (z0.getD i 0))) ∧ ∀ n ∈ z0, (Lit.int .i64 n).wf = true) (y0 : len0 * 8 ≤ 140737488351232) (w1 : (Lit.int .i64 a1).wf = true) :
  Calls Try.prog 9 #[.slice a0 len0 cap0, .int .i64 a1] w fun e w' => e = .returned (.bool true) ∧ Below w.heap.size w w' := by
 obtain ⟨l0, rfl, hr0, hm0, hw0, hc0⟩ := ReadsInt.ofRowC w0
 obtain ⟨k, h⟩ := P l0 a1 hm0 y0 hw0 w1
 refine (awardingbodylaw12_BookletFields.calls k _ _ l0 a1 true w (Kd.C_of_reads (d := (0 : Int)) (h1 := fun _ => rfl) hr0) hc0 h).mono ?_
 rintro e w' ⟨rfl, hd⟩
 exact ⟨rfl, hd⟩

end Go.Proofs.Ytdmlbgdefapcjaa.Print
