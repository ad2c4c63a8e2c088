-- Printed by a program of this session (wip/own_print.py) out of the translation; Lean checks it.
import Derived.Test.YtdmlbgdefapcjaaShort
import Derived.Test.YtdmlbgdefapcjaaPrint0
import Derived.Test.YtdmlbgdefapcjaaPrint5
import Derived.Test.YtdmlbgdefapcjaaPrint6
import Derived.Test.YtdmlbgdefapcjaaPrint8
import Derived.Test.YtdmlbgdefapcjaaPrint10
import Derived.Test.YtdmlbgdefapcjaaPrint15
import Derived.Test.YtdmlbgdefapcjaaPrint20
namespace Go.Proofs.Ytdmlbgdefapcjaa.Print
open Go.RowKit Go.Proofs.YtdmlbgdefapcjaaW.PrintWords Go.Proofs.YtdmlbgdefapcjaaW.PrintLast Go.Proofs.YtdmlbgdefapcjaaW.PrintMore
attribute [local go_sem] max2_int min2_int max_two min_two max_three min_three max_four min_four   -- for this text's walks alone
set_option linter.unusedVariables false
set_option linter.unusedSimpArgs false

/-! ### awardingbodylaw12_BookletFewest: function 8 -/
def awardingbodylaw12_BookletFewest.j0 : Nat → Int → Bool → Int → Int → List (S23) → List (List Int) → List (List Int) → Option (Bool)
  | 0, _, _, _, _, _, _, _ => none
  | k + 1, x7, x27, x528000, x528001, x528002, x533000, x538000 => if x27 = true then (none) else ((booklet_Valid.f k x528000 x528001 x528002 x533000).bind fun t539 => (if t539 = true then (if x7 = 0 then (if (x538000.length : Int) ≤ (x533000.length : Int) then ((awardingbodylaw12_awake.f k).bind fun t540 => (some t540)) else (none)) else (none)) else ((awardingbodylaw12_awake.f k).bind fun t541 => (some t541))))
def awardingbodylaw12_BookletFewest.f (k : Nat) (l0 : List Int) : Option (Bool) := (awardingbodymake_New.f l0).bind fun bt518 => ((awardingbodymake_Tape_Long.f k bt518.1 bt518.2).bind fun bt521 => ((awardingbodylaw12_shaped.f k bt518.1 bt521.2.2.2 bt521.1 bt521.2.1 bt521.2.2.1).bind fun bt528 => ((booklet_Make.f k bt521.1 bt521.2.1 bt521.2.2.1).bind fun bt533 => (if bt533.2 = 0 then ((booklet_Valid.f k bt521.1 bt521.2.1 bt521.2.2.1 bt533.1).bind fun t538 => (awardingbodylaw12_BookletFewest.j0 k bt533.2 (!t538) bt521.1 bt521.2.1 bt521.2.2.1 bt528.1 bt533.1)) else (awardingbodylaw12_BookletFewest.j0 k bt533.2 false bt521.1 bt521.2.1 bt521.2.2.1 bt528.1 bt533.1)))))
theorem awardingbodylaw12_BookletFewest.mono_l : ∀ k, (∀ y0 y1 y2 y3 y4 y5 y6, LeO (awardingbodylaw12_BookletFewest.j0 k y0 y1 y2 y3 y4 y5 y6) (awardingbodylaw12_BookletFewest.j0 (k + 1) y0 y1 y2 y3 y4 y5 y6))
  | 0 => fun _ _ _ _ _ _ _ r h => by simp [awardingbodylaw12_BookletFewest.j0] at h
  | k + 1 => by
    have ih0 := awardingbodylaw12_BookletFewest.mono_l k
    · intro y0 y1 y2 y3 y4 y5 y6
      unfold awardingbodylaw12_BookletFewest.j0
      repeat' first
      | (with_reducible exact ih0 _ _ _ _ _ _ _)
      | (with_reducible exact awardingbodylaw12_awake.mono _)
      | (with_reducible exact awardingbodylaw12_shaped.mono _ _ _ _ _ _)
      | (with_reducible exact awardingbodymake_Tape_Long.mono _ _ _)
      | (with_reducible exact booklet_Make.mono _ _ _ _)
      | (with_reducible exact booklet_Valid.mono _ _ _ _ _)
      | (with_reducible exact LeO.refl _)
      | (with_reducible exact LeO.none _)
      | (with_reducible refine LeO.ite ?_ ?_)
      | (with_reducible refine LeO.bind ?_ (fun _ => ?_))
      | exact ih0 _ _ _ _ _ _ _
      | exact awardingbodylaw12_awake.mono _
      | exact awardingbodylaw12_shaped.mono _ _ _ _ _ _
      | exact awardingbodymake_Tape_Long.mono _ _ _
      | exact booklet_Make.mono _ _ _ _
      | exact booklet_Valid.mono _ _ _ _ _
      | exact LeO.none _
      | refine LeO.ite ?_ ?_
      | refine LeO.bind ?_ (fun _ => ?_)
theorem awardingbodylaw12_BookletFewest.mono : ∀ a0 k, LeO (awardingbodylaw12_BookletFewest.f k a0) (awardingbodylaw12_BookletFewest.f (k + 1) a0) := by
  intro a0 k
  have ih0 := awardingbodylaw12_BookletFewest.mono_l k
  unfold awardingbodylaw12_BookletFewest.f
  repeat' first
      | (with_reducible exact ih0 _ _ _ _ _ _ _)
      | (with_reducible exact awardingbodylaw12_awake.mono _)
      | (with_reducible exact awardingbodylaw12_shaped.mono _ _ _ _ _ _)
      | (with_reducible exact awardingbodymake_Tape_Long.mono _ _ _)
      | (with_reducible exact booklet_Make.mono _ _ _ _)
      | (with_reducible exact booklet_Valid.mono _ _ _ _ _)
      | (with_reducible exact LeO.refl _)
      | (with_reducible exact LeO.none _)
      | (with_reducible refine LeO.ite ?_ ?_)
      | (with_reducible refine LeO.bind ?_ (fun _ => ?_))
      | exact ih0 _ _ _ _ _ _ _
      | exact awardingbodylaw12_awake.mono _
      | exact awardingbodylaw12_shaped.mono _ _ _ _ _ _
      | exact awardingbodymake_Tape_Long.mono _ _ _
      | exact booklet_Make.mono _ _ _ _
      | exact booklet_Valid.mono _ _ _ _ _
      | exact LeO.none _
      | refine LeO.ite ?_ ?_
      | refine LeO.bind ?_ (fun _ => ?_)
set_option maxHeartbeats 8000000 in
set_option maxRecDepth 100000 in
theorem awardingbodylaw12_BookletFewest.calls (k : Nat) (A0 : Option Addr) (c0 : Nat) (l0 : List Int) (r : Bool) (w : World) (hr0 : Kd.C (Kd.int .i64) w A0 l0.length l0) (hc0 : l0.length ≤ c0) (h : awardingbodylaw12_BookletFewest.f k l0 = some r) :
    Calls Try.prog 8 #[.slice A0 l0.length c0] w fun e w' => e = .returned (.bool r) ∧ Below w.heap.size w w' := by
 have hu33 := Try.underlying33
 have hu38 := Try.underlying38
 have HR0 := za hr0
 have HC0 := za hc0
 clear hr0 hc0
 have HB := za (Below.refl w.heap.size w)
 have H : ((awardingbodymake_New.f l0).bind fun bt518 => ((awardingbodymake_Tape_Long.f k bt518.1 bt518.2).bind fun bt521 => ((awardingbodylaw12_shaped.f k bt518.1 bt521.2.2.2 bt521.1 bt521.2.1 bt521.2.2.1).bind fun bt528 => ((booklet_Make.f k bt521.1 bt521.2.1 bt521.2.2.1).bind fun bt533 => (if bt533.2 = 0 then ((booklet_Valid.f k bt521.1 bt521.2.1 bt521.2.2.1 bt533.1).bind fun t538 => (awardingbodylaw12_BookletFewest.j0 k bt533.2 (!t538) bt521.1 bt521.2.1 bt521.2.2.1 bt528.1 bt533.1)) else (awardingbodylaw12_BookletFewest.j0 k bt533.2 false bt521.1 bt521.2.1 bt521.2.2.1 bt528.1 bt533.1)))))) = some r := h
 clear h
 replace H := Option.bind_eq_some_iff.mp H
 obtain ⟨⟨t518, t519⟩, A20, H⟩ := H
 replace H : ((awardingbodymake_Tape_Long.f k t518 t519).bind fun bt521 => ((awardingbodylaw12_shaped.f k t518 bt521.2.2.2 bt521.1 bt521.2.1 bt521.2.2.1).bind fun bt528 => ((booklet_Make.f k bt521.1 bt521.2.1 bt521.2.2.1).bind fun bt533 => (if bt533.2 = 0 then ((booklet_Valid.f k bt521.1 bt521.2.1 bt521.2.2.1 bt533.1).bind fun t538 => (awardingbodylaw12_BookletFewest.j0 k bt533.2 (!t538) bt521.1 bt521.2.1 bt521.2.2.1 bt528.1 bt533.1)) else (awardingbodylaw12_BookletFewest.j0 k bt533.2 false bt521.1 bt521.2.1 bt521.2.2.1 bt528.1 bt533.1))))) = some r := H
 have A2 := za A20
 clear A20
 replace H := Option.bind_eq_some_iff.mp H
 obtain ⟨⟨t521, t522, t523, t526⟩, A30, H⟩ := H
 replace H : ((awardingbodylaw12_shaped.f k t518 t526 t521 t522 t523).bind fun bt528 => ((booklet_Make.f k t521 t522 t523).bind fun bt533 => (if bt533.2 = 0 then ((booklet_Valid.f k t521 t522 t523 bt533.1).bind fun t538 => (awardingbodylaw12_BookletFewest.j0 k bt533.2 (!t538) t521 t522 t523 bt528.1 bt533.1)) else (awardingbodylaw12_BookletFewest.j0 k bt533.2 false t521 t522 t523 bt528.1 bt533.1)))) = some r := H
 have A3 := za A30
 clear A30
 replace H := Option.bind_eq_some_iff.mp H
 obtain ⟨⟨t528, t531⟩, A40, H⟩ := H
 replace H : ((booklet_Make.f k t521 t522 t523).bind fun bt533 => (if bt533.2 = 0 then ((booklet_Valid.f k t521 t522 t523 bt533.1).bind fun t538 => (awardingbodylaw12_BookletFewest.j0 k bt533.2 (!t538) t521 t522 t523 t528 bt533.1)) else (awardingbodylaw12_BookletFewest.j0 k bt533.2 false t521 t522 t523 t528 bt533.1))) = some r := H
 have A4 := za A40
 clear A40
 replace H := Option.bind_eq_some_iff.mp H
 obtain ⟨⟨t533, t536⟩, A50, H⟩ := H
 replace H : (if t536 = 0 then ((booklet_Valid.f k t521 t522 t523 t533).bind fun t538 => (awardingbodylaw12_BookletFewest.j0 k t536 (!t538) t521 t522 t523 t528 t533)) else (awardingbodylaw12_BookletFewest.j0 k t536 false t521 t522 t523 t528 t533)) = some r := H
 have A5 := za A50
 clear A50
 have HC6 := za H
 clear H
 go_enter Try.func8, Try.ntmps8
 go_upto_region 5 with (first | ((with_reducible refine gate_callee (f := 15) rfl ?_); refine zL (some 9) Try.func15 #[.slice A0 l0.length c0] ?_; (with_reducible refine (awardingbodymake_New.calls _ _ l0 t518 t519 w _ ?side1 ?side2 ?side3 A2.out).mono ?_); (case side1 => exact (by repeat (first | (with_reducible first | exact HB.out | apply below_alloc | apply pw_below_drewN | apply below_drew1) | exact HB.out))); (case side2 => exact HR0.out); (case side3 => exact HC0.out); rintro e w7 ⟨g520, rfl, hi, hb, hb2⟩; refine ⟨_, rfl, ?_⟩; have HI520 := za (hi); replace HB := za (hb); (try clear hb); (try clear hb2); (try clear hk); (try clear hi)) | ((with_reducible refine gate_callee (f := 17) rfl ?_); refine zL (some 11) Try.func17 #[.pointer (some ⟨g520, 0, none⟩)] ?_; (with_reducible refine (awardingbodymake_Tape_Long.calls k g520 t518 t519 t521 t522 t523 t526 w _ ?side1 ?side2 A3.out).mono ?_); (case side1 => exact (by repeat (first | (with_reducible first | exact HI520.out | apply IsS61.alloc | apply IsS61.drewN | apply IsS61.drew | apply IsS61.set_1) | exact HI520.out))); (case side2 => exact (by repeat (first | (with_reducible first | exact HB.out | apply below_alloc | apply pw_below_drewN | apply below_drew1 | refine below_set ?_ (IsS61.ge HI520.out)) | exact HB.out))); rintro e w8 ⟨v524, rfl, ho0, hi, hb, hk⟩; refine ⟨_, rfl, ?_⟩; have HO525 := za (Kd.R_lower ho0 (below_size (zm HB))); replace HB := za (hb); replace HI520 := za (hi); (try clear hb); (try clear hb2); (try clear hk); (try clear hi); (try clear ho0)) | ((with_reducible refine gate_dst (N := 4) rfl ?_); (try (refine gate_guard (by rfl) ?_; dsimp only)); refine zE 4 #[.int .i64 0, .int .i64 0, .slice none 0 0] 33 ?_; intro gb527 hg w9 hbox hb; have BK527 := za (hbox); have GW527 := zg HB hg; have GE527 := zg HB hg; have NB520_527 := za ((by rw [hg]; exact Nat.ne_of_lt (IsS61.lt (show IsS61 w _ g520 t518 t526 from by repeat (first | (with_reducible first | exact HI520.out | apply IsS61.alloc | apply IsS61.drewN | apply IsS61.drew | apply IsS61.set_1) | exact HI520.out))) : g520 ≠ gb527)); have NB527_520 := za ((by rw [hg]; exact Nat.ne_of_gt (IsS61.lt (show IsS61 w _ g520 t518 t526 from by repeat (first | (with_reducible first | exact HI520.out | apply IsS61.alloc | apply IsS61.drewN | apply IsS61.drew | apply IsS61.set_1) | exact HI520.out))) : gb527 ≠ g520)); replace HO525 := zR HO525 hb; replace HI520 := za (IsS61.below (by repeat (first | (with_reducible first | exact HI520.out | apply IsS61.alloc | apply IsS61.drewN | apply IsS61.drew | apply IsS61.set_1) | exact HI520.out)) hb); replace HB := zs HB hb; clear hb hbox hg; have hnb10 := NB527_520.out; have hnc10 := NB520_527.out; obtain ⟨hcz11_0, hcz11_1, hcz11_2, hfz11_0, hfz11_1, hfz11_2⟩ := z3 BK527; obtain ⟨Ao12, co12, eo12⟩ := Kd.R_slice HO525.out; subst eo12) | ((with_reducible refine gate_callee (f := 22) rfl ?_); refine zL (some 14) Try.func22 #[.pointer (some ⟨g520, 0, none⟩), .agg #[.int .i64 t521, .int .i64 t522, .slice Ao12 t523.length co12]] ?_; (with_reducible refine (awardingbodylaw12_shaped.calls k g520 t518 t526 t521 t522 _ _ t523 t528 t531 w _ ?side1 ?side2 ?side3 ?side4 A4.out).mono ?_); (case side1 => exact (by repeat (first | (with_reducible first | exact HI520.out | apply IsS61.alloc | apply IsS61.drewN | apply IsS61.drew | apply IsS61.set_1 | refine IsS61.far ?_ NB520_527.out _) | exact HI520.out))); (case side2 => exact (by repeat (first | (with_reducible first | exact HB.out | apply below_alloc | apply pw_below_drewN | apply below_drew1 | refine below_set ?_ (IsS61.ge HI520.out) | refine below_set ?_ GE527.out) | exact HB.out))); (case side3 => exact Kd.C_foot_own (IsS61.apart (show IsS61 w _ g520 t518 t526 from by repeat (first | (with_reducible first | exact HI520.out | apply IsS61.alloc | apply IsS61.drewN | apply IsS61.drew | apply IsS61.set_1 | refine IsS61.far ?_ NB520_527.out _) | exact HI520.out)) (by (with_reducible repeat (first | apply Kd.R_alloc | apply Kd.R_drewN | apply Kd.R_drew)); exact (Kd.R_mono (Kd.R_far (p := ⟨gb527, 2, none⟩) (Kd.R_far (p := ⟨gb527, 1, none⟩) (Kd.R_far (p := ⟨gb527, 0, none⟩) (Kd.R_types HO525.out BK527.out (by decide)) (fun _ hk => hk.2) (.int .i64 t521)) (fun _ hk => hk.2) (.int .i64 t522)) (fun _ hk => hk.2) (.slice Ao12 t523.length co12)) (fun _ h_ => h_.1))) (by decide)) (fun _ h_ => h_.2)); (case side4 => exact (Kd.R_reads' HO525.out).2.1); rintro e w13 ⟨v529, rfl, ho0, hi, hb, hk⟩; refine ⟨_, rfl, ?_⟩; have HO530 := za (Kd.S_lower ho0 (below_size (zm HB))); replace HO525 := za (Kd.R_mono (Kd.R_keep (IsS61.apart (show IsS61 w _ g520 t518 t526 from by repeat (first | (with_reducible first | exact HI520.out | apply IsS61.alloc | apply IsS61.drewN | apply IsS61.drew | apply IsS61.set_1 | refine IsS61.far ?_ NB520_527.out _) | exact HI520.out)) (by (with_reducible repeat (first | apply Kd.R_alloc | apply Kd.R_drewN | apply Kd.R_drew)); exact (Kd.R_mono (Kd.R_far (p := ⟨gb527, 2, none⟩) (Kd.R_far (p := ⟨gb527, 1, none⟩) (Kd.R_far (p := ⟨gb527, 0, none⟩) (Kd.R_types HO525.out BK527.out (by decide)) (fun _ hk => hk.2) (.int .i64 t521)) (fun _ hk => hk.2) (.int .i64 t522)) (fun _ hk => hk.2) (.slice Ao12 t523.length co12)) (fun _ h_ => h_.1))) (by decide)) hk (fun _ h => h.2)) (fun _ h => h.1)); replace BK527 := za (KeepBut.blk hk (g' := gb527) (o := .cells #[.int .i64 t521, .int .i64 t522, .slice Ao12 t523.length co12] 33 (0, 0)) (by (with_reducible repeat (first | refine blk_drewN ?_ _ | refine blk_drew ?_ | refine blk_alloc ?_ _)); refine blk_put (cs := #[.int .i64 t521, .int .i64 t522, .slice none 0 0]) ?_ 2 _ rfl; (with_reducible repeat (first | refine blk_drewN ?_ _ | refine blk_drew ?_ | refine blk_alloc ?_ _)); refine blk_put (cs := #[.int .i64 t521, .int .i64 0, .slice none 0 0]) ?_ 1 _ rfl; (with_reducible repeat (first | refine blk_drewN ?_ _ | refine blk_drew ?_ | refine blk_alloc ?_ _)); refine blk_put (cs := #[.int .i64 0, .int .i64 0, .slice none 0 0]) ?_ 0 _ rfl; (with_reducible repeat (first | refine blk_drewN ?_ _ | refine blk_drew ?_ | refine blk_alloc ?_ _)); exact BK527.out) NB527_520.out (by simp)); replace HB := za (hb); replace HI520 := za (hi); (try clear hb); (try clear hb2); (try clear hk); (try clear hi); (try clear ho0)) | ((with_reducible refine gate_dst (N := 5) rfl ?_); (try (refine gate_guard (by rfl) ?_; dsimp only)); refine zE 5 #[.slice none 0 0] 38 ?_; intro gb532 hg w14 hbox hb; have BK532 := za (hbox); have GW532 := zg HB hg; have GE532 := zg HB hg; have NB527_532 := zl BK527 hg; have NB532_527 := zr BK527 hg; have NB520_532 := za ((by rw [hg]; exact Nat.ne_of_lt (IsS61.lt (show IsS61 w _ g520 t518 t531 from by repeat (first | (with_reducible first | exact HI520.out | apply IsS61.alloc | apply IsS61.drewN | apply IsS61.drew | apply IsS61.set_1 | refine IsS61.far ?_ NB520_527.out _) | exact HI520.out))) : g520 ≠ gb532)); have NB532_520 := za ((by rw [hg]; exact Nat.ne_of_gt (IsS61.lt (show IsS61 w _ g520 t518 t531 from by repeat (first | (with_reducible first | exact HI520.out | apply IsS61.alloc | apply IsS61.drewN | apply IsS61.drew | apply IsS61.set_1 | refine IsS61.far ?_ NB520_527.out _) | exact HI520.out))) : gb532 ≠ g520)); replace HO525 := zR HO525 hb; replace HO530 := zS HO530 hb; replace HI520 := za (IsS61.below (by repeat (first | (with_reducible first | exact HI520.out | apply IsS61.alloc | apply IsS61.drewN | apply IsS61.drew | apply IsS61.set_1 | refine IsS61.far ?_ NB520_527.out _) | exact HI520.out)) hb); replace BK527 := zb BK527 hb; replace HB := zs HB hb; clear hb hbox hg; obtain ⟨Ao15, co15, eo15⟩ := Kd.S_slice HO530.out; subst eo15; have hnb16 := NB532_527.out; have hnc16 := NB527_532.out; have hnb17 := NB532_520.out; have hnc17 := NB520_532.out; obtain ⟨hcz18_0, hfz18_0⟩ := z1 BK532; obtain ⟨hcz19_0, hcz19_1, hcz19_2, hfz19_0, hfz19_1, hfz19_2⟩ := z3 BK527) | ((with_reducible refine gate_callee (f := 18) rfl ?_); refine zL (some 17) Try.func18 #[.agg #[.int .i64 t521, .int .i64 t522, .slice Ao12 t523.length co12]] ?_; (with_reducible refine (booklet_Make.calls k t521 t522 _ _ t523 t533 t536 _ ?side1 ?side2 A5.out).mono ?_); (case side1 => refine (Kd.R_reads' (e := 23) (base := w.heap.size) (ok := fun k_ => True) (n := t523.length) (c := co12) ?_).2.2; exact (by (with_reducible repeat (first | apply Kd.R_alloc | apply Kd.R_drewN | apply Kd.R_drew)); exact (Kd.R_mono (Kd.R_far (p := ⟨gb532, 0, none⟩) (Kd.R_types HO525.out BK532.out (by decide)) (fun _ hk => hk.2) (.slice Ao15 t528.length co15)) (fun _ h_ => h_.1)))); (case side2 => exact (Kd.R_reads' HO525.out).2.1); rintro e w20 ⟨v534, rfl, ho0, hb⟩; refine ⟨_, rfl, ?_⟩; have HO535 := za (Kd.S_lower (Kd.S_new' ho0 (Kd.S_lt (by (with_reducible repeat (first | apply Kd.S_alloc | apply Kd.S_drewN | apply Kd.S_drew)); exact (Kd.S_mono (Kd.S_far (p := ⟨gb532, 0, none⟩) (Kd.S_types HO530.out BK532.out (by decide)) (fun _ hk => hk.2) (.slice Ao15 t528.length co15)) (fun _ h_ => h_.1))))) (below_size (zm HB))); replace HO525 := za (Kd.R_below (by (with_reducible repeat (first | apply Kd.R_alloc | apply Kd.R_drewN | apply Kd.R_drew)); exact (Kd.R_mono (Kd.R_far (p := ⟨gb532, 0, none⟩) (Kd.R_types HO525.out BK532.out (by decide)) (fun _ hk => hk.2) (.slice Ao15 t528.length co15)) (fun _ h_ => h_.1))) hb); replace HO530 := za (Kd.S_elder' (by (with_reducible repeat (first | apply Kd.S_alloc | apply Kd.S_drewN | apply Kd.S_drew)); exact (Kd.S_mono (Kd.S_far (p := ⟨gb532, 0, none⟩) (Kd.S_types HO530.out BK532.out (by decide)) (fun _ hk => hk.2) (.slice Ao15 t528.length co15)) (fun _ h_ => h_.1))) (Kd.S_base ho0) hb); replace HI520 := za (IsS61.below (show IsS61 w (w14.setCell ⟨gb532, 0, none⟩ (.slice Ao15 t528.length co15)) g520 t518 t531 from by repeat (first | (with_reducible first | exact HI520.out | apply IsS61.alloc | apply IsS61.drewN | apply IsS61.drew | apply IsS61.set_1 | refine IsS61.far ?_ NB520_527.out _ | refine IsS61.far ?_ NB520_532.out _) | exact HI520.out)) hb); replace BK527 := zb BK527 hb; replace BK532 := za (blk_below (g := gb532) (o := .cells #[.slice Ao15 t528.length co15] 38 (0, 0)) (by (with_reducible repeat (first | refine blk_drewN ?_ _ | refine blk_drew ?_ | refine blk_alloc ?_ _)); refine blk_put (cs := #[.slice none 0 0]) ?_ 0 _ rfl; (with_reducible repeat (first | refine blk_drewN ?_ _ | refine blk_drew ?_ | refine blk_alloc ?_ _)); exact BK532.out) hb); replace HB := zs HB hb; (try clear hb); (try clear hb2); (try clear hk); (try clear hi); (try clear ho0)) | ((with_reducible refine gate_dst (N := 6) rfl ?_); (try (refine gate_guard (by rfl) ?_; dsimp only)); refine zE 6 #[.slice none 0 0] 38 ?_; intro gb537 hg w21 hbox hb; have BK537 := za (hbox); have GW537 := zg HB hg; have GE537 := zg HB hg; have NB527_537 := zl BK527 hg; have NB537_527 := zr BK527 hg; have NB532_537 := zl BK532 hg; have NB537_532 := zr BK532 hg; have NB520_537 := za ((by rw [hg]; exact Nat.ne_of_lt (IsS61.lt (show IsS61 w _ g520 t518 t531 from by repeat (first | (with_reducible first | exact HI520.out | apply IsS61.alloc | apply IsS61.drewN | apply IsS61.drew | apply IsS61.set_1 | refine IsS61.far ?_ NB520_527.out _ | refine IsS61.far ?_ NB520_532.out _) | exact HI520.out))) : g520 ≠ gb537)); have NB537_520 := za ((by rw [hg]; exact Nat.ne_of_gt (IsS61.lt (show IsS61 w _ g520 t518 t531 from by repeat (first | (with_reducible first | exact HI520.out | apply IsS61.alloc | apply IsS61.drewN | apply IsS61.drew | apply IsS61.set_1 | refine IsS61.far ?_ NB520_527.out _ | refine IsS61.far ?_ NB520_532.out _) | exact HI520.out))) : gb537 ≠ g520)); replace HO525 := zR HO525 hb; replace HO530 := zS HO530 hb; replace HO535 := zS HO535 hb; replace HI520 := za (IsS61.below (by repeat (first | (with_reducible first | exact HI520.out | apply IsS61.alloc | apply IsS61.drewN | apply IsS61.drew | apply IsS61.set_1 | refine IsS61.far ?_ NB520_527.out _ | refine IsS61.far ?_ NB520_532.out _) | exact HI520.out)) hb); replace BK527 := zb BK527 hb; replace BK532 := zb BK532 hb; replace HB := zs HB hb; clear hb hbox hg; obtain ⟨Ao22, co22, eo22⟩ := Kd.S_slice HO535.out; subst eo22; have hnb23 := NB537_527.out; have hnc23 := NB527_537.out; have hnb24 := NB537_532.out; have hnc24 := NB532_537.out; have hnb25 := NB537_520.out; have hnc25 := NB520_537.out; obtain ⟨hcz26_0, hfz26_0⟩ := z1 BK537))
 (try simp only [Act.put, List.setIfInBounds_toArray, List.set_cons_zero, List.set_cons_succ])
 go_cut [27] (fun v27 wc => ∃ (kq : Nat) (x27_5 : Bool), v27 = .bool x27_5 ∧ Aside0 (awardingbodylaw12_BookletFewest.j0 kq t536 x27_5 t521 t522 t523 t528 t533 = some r) ∧ Aside0 (kq ≤ k) ∧ Aside0 (Kd.R k23 23 wc w.heap.size (fun _ => True) (.slice Ao12 t523.length co12) t523) ∧ Aside0 (Kd.S (Kd.slice 3 (Kd.int .i64)) 28 wc w.heap.size (fun k_ => some k_ ≠ ((.slice Ao22 t533.length co22) : Value).ownBlock) (.slice Ao15 t528.length co15) t528) ∧ Aside0 (Kd.S (Kd.slice 3 (Kd.int .i64)) 28 wc w.heap.size (fun k_ => some k_ ≠ ((.slice Ao15 t528.length co15) : Value).ownBlock) (.slice Ao22 t533.length co22) t533) ∧ Aside0 (wc.heap[gb527]? = some (.cells #[.int .i64 t521, .int .i64 t522, (.slice Ao12 t523.length co12)] 33 (0, 0))) ∧ Aside0 (wc.heap[gb532]? = some (.cells #[(.slice Ao15 t528.length co15)] 38 (0, 0))) ∧ Aside0 (wc.heap[gb537]? = some (.cells #[(.slice Ao22 t533.length co22)] 38 (0, 0))) ∧ Aside0 (Below w.heap.size w wc))
 case first =>
  have H := HC6.out
  clear HC6
  by_cases c27 : t536 = 0
  ·rw [if_pos c27] at H
   have c27b0 : (t536 == 0) = true := beq_iff_eq.mpr c27
   have c27b1 : (t536 != 0) = false := bne_eq_false_iff_eq.mpr c27
   clear c27
   (first | rw [c27b0] | (simp only [i64_w, i32_w]; rw [c27b0]) | skip)
   replace H := Option.bind_eq_some_iff.mp H
   obtain ⟨t538, A280, H⟩ := H
   replace H : (awardingbodylaw12_BookletFewest.j0 k t536 (!t538) t521 t522 t523 t528 t533) = some r := H
   have A28 := za A280
   clear A280
   have H' := za H
   clear H
   have hnb29 := NB527_532.out
   have hnc29 := NB532_527.out
   have hnb30 := NB527_537.out
   have hnc30 := NB537_527.out
   have hnb31 := NB527_520.out
   have hnc31 := NB520_527.out
   obtain ⟨hcz32_0, hcz32_1, hcz32_2, hfz32_0, hfz32_1, hfz32_2⟩ := z3 BK527
   have hnb33 := NB537_532.out
   have hnc33 := NB532_537.out
   have hnb34 := NB537_520.out
   have hnc34 := NB520_537.out
   obtain ⟨hcz35_0, hfz35_0⟩ := z1 BK537
   go_wp2_with (first | (go_at_call 23; (with_reducible refine (booklet_Valid.calls k t521 t522 _ _ t523 _ _ t533 t538 _ ?side1 ?side2 ?side3 ?side4 A28.out).mono ?_); (case side1 => refine (Kd.R_reads' (e := 23) (base := w.heap.size) (ok := fun k_ => True) (n := t523.length) (c := co12) ?_).2.2; exact (by (with_reducible repeat (first | apply Kd.R_alloc | apply Kd.R_drewN | apply Kd.R_drew)); exact (Kd.R_mono (Kd.R_far (p := ⟨gb537, 0, none⟩) (Kd.R_types HO525.out BK537.out (by decide)) (fun _ hk => hk.2) (.slice Ao22 t533.length co22)) (fun _ h_ => h_.1)))); (case side2 => exact (Kd.R_reads' HO525.out).2.1); (case side3 => refine (Kd.S_reads' (e := 28) (base := w.heap.size) (ok := fun k_ => (True ∧ some k_ ≠ (.slice Ao15 t528.length co15 : Value).ownBlock)) (n := t533.length) (c := co22) ?_).2.2; exact (by (with_reducible repeat (first | apply Kd.S_alloc | apply Kd.S_drewN | apply Kd.S_drew)); exact (Kd.S_mono (Kd.S_far (p := ⟨gb537, 0, none⟩) (Kd.S_types HO535.out BK537.out (by decide)) (fun _ hk => hk.2) (.slice Ao22 t533.length co22)) (fun _ h_ => h_.1)))); (case side4 => exact (Kd.S_reads' HO535.out).2.1); rintro e w36 ⟨rfl, hb⟩; replace HO525 := za (Kd.R_below (by (with_reducible repeat (first | apply Kd.R_alloc | apply Kd.R_drewN | apply Kd.R_drew)); exact (Kd.R_mono (Kd.R_far (p := ⟨gb537, 0, none⟩) (Kd.R_types HO525.out BK537.out (by decide)) (fun _ hk => hk.2) (.slice Ao22 t533.length co22)) (fun _ h_ => h_.1))) hb); replace HO530 := za (Kd.S_below (by (with_reducible repeat (first | apply Kd.S_alloc | apply Kd.S_drewN | apply Kd.S_drew)); exact (Kd.S_mono (Kd.S_far (p := ⟨gb537, 0, none⟩) (Kd.S_types HO530.out BK537.out (by decide)) (fun _ hk => hk.2) (.slice Ao22 t533.length co22)) (fun _ h_ => h_.1))) hb); replace HO535 := za (Kd.S_below (by (with_reducible repeat (first | apply Kd.S_alloc | apply Kd.S_drewN | apply Kd.S_drew)); exact (Kd.S_mono (Kd.S_far (p := ⟨gb537, 0, none⟩) (Kd.S_types HO535.out BK537.out (by decide)) (fun _ hk => hk.2) (.slice Ao22 t533.length co22)) (fun _ h_ => h_.1))) hb); replace HI520 := za (IsS61.below (show IsS61 w (w21.setCell ⟨gb537, 0, none⟩ (.slice Ao22 t533.length co22)) g520 t518 t531 from by repeat (first | (with_reducible first | exact HI520.out | apply IsS61.alloc | apply IsS61.drewN | apply IsS61.drew | apply IsS61.set_1 | refine IsS61.far ?_ NB520_527.out _ | refine IsS61.far ?_ NB520_532.out _ | refine IsS61.far ?_ NB520_537.out _) | exact HI520.out)) hb); replace BK527 := zb BK527 hb; replace BK532 := zb BK532 hb; replace BK537 := za (blk_below (g := gb537) (o := .cells #[.slice Ao22 t533.length co22] 38 (0, 0)) (by (with_reducible repeat (first | refine blk_drewN ?_ _ | refine blk_drew ?_ | refine blk_alloc ?_ _)); refine blk_put (cs := #[.slice none 0 0]) ?_ 0 _ rfl; (with_reducible repeat (first | refine blk_drewN ?_ _ | refine blk_drew ?_ | refine blk_alloc ?_ _)); exact BK537.out) hb); replace HB := zs HB hb; (try clear hb); (try clear hb2); (try clear hk); (try clear hi)))
   go_meet
   case rel => exact ⟨_, (!t538), (by first | rfl | (simp; done) | (simp [*]; done)), H', ⟨by first | omega | exact Nat.le_refl _⟩, ⟨by (with_reducible repeat (first | apply Kd.R_alloc | apply Kd.R_drewN | apply Kd.R_drew)); exact HO525.out⟩, ⟨by (with_reducible repeat (first | apply Kd.S_alloc | apply Kd.S_drewN | apply Kd.S_drew)); exact Kd.S_mono HO530.out (fun _ hk => hk.2)⟩, ⟨by (with_reducible repeat (first | apply Kd.S_alloc | apply Kd.S_drewN | apply Kd.S_drew)); exact Kd.S_mono HO535.out (fun _ hk => hk.2)⟩, ⟨by (with_reducible repeat (first | refine blk_drewN ?_ _ | refine blk_drew ?_ | refine blk_alloc ?_ _)); exact BK527.out⟩, ⟨by (with_reducible repeat (first | refine blk_drewN ?_ _ | refine blk_drew ?_ | refine blk_alloc ?_ _)); exact BK532.out⟩, ⟨by (with_reducible repeat (first | refine blk_drewN ?_ _ | refine blk_drew ?_ | refine blk_alloc ?_ _)); exact BK537.out⟩, ⟨zm HB⟩⟩
  ·rw [if_neg c27] at H
   have c27b0 : (t536 == 0) = false := beq_eq_false_iff_ne.mpr c27
   have c27b1 : (t536 != 0) = true := bne_iff_ne.mpr c27
   (first | rw [c27b0] | (simp only [i64_w, i32_w]; rw [c27b0]) | skip)
   have H' := za H
   clear H
   go_wp2
   go_meet
   case rel => exact ⟨_, (false), (by first | rfl | (simp; done) | (simp [*]; done)), H', ⟨by first | omega | exact Nat.le_refl _⟩, ⟨by (with_reducible repeat (first | apply Kd.R_alloc | apply Kd.R_drewN | apply Kd.R_drew)); exact Kd.R_mono (Kd.R_far (p := ⟨gb537, 0, none⟩) (Kd.R_types HO525.out BK537.out (by decide)) (fun _ hk => hk.2) (.slice Ao22 t533.length co22)) (fun _ hk => trivial)⟩, ⟨by (with_reducible repeat (first | apply Kd.S_alloc | apply Kd.S_drewN | apply Kd.S_drew)); exact Kd.S_mono (Kd.S_far (p := ⟨gb537, 0, none⟩) (Kd.S_types HO530.out BK537.out (by decide)) (fun _ hk => hk.2) (.slice Ao22 t533.length co22)) (fun _ hk => hk.1.2)⟩, ⟨by (with_reducible repeat (first | apply Kd.S_alloc | apply Kd.S_drewN | apply Kd.S_drew)); exact Kd.S_mono (Kd.S_far (p := ⟨gb537, 0, none⟩) (Kd.S_types HO535.out BK537.out (by decide)) (fun _ hk => hk.2) (.slice Ao22 t533.length co22)) (fun _ hk => hk.1.2)⟩, ⟨by (with_reducible repeat (first | refine blk_drewN ?_ _ | refine blk_drew ?_ | refine blk_alloc ?_ _)); refine blk_far ?_ NB527_537.out _; (with_reducible repeat (first | refine blk_drewN ?_ _ | refine blk_drew ?_ | refine blk_alloc ?_ _)); exact BK527.out⟩, ⟨by (with_reducible repeat (first | refine blk_drewN ?_ _ | refine blk_drew ?_ | refine blk_alloc ?_ _)); refine blk_far ?_ NB532_537.out _; (with_reducible repeat (first | refine blk_drewN ?_ _ | refine blk_drew ?_ | refine blk_alloc ?_ _)); exact BK532.out⟩, ⟨by (with_reducible repeat (first | refine blk_drewN ?_ _ | refine blk_drew ?_ | refine blk_alloc ?_ _)); refine blk_put (cs := #[.slice none 0 0]) ?_ 0 _ rfl; (with_reducible repeat (first | refine blk_drewN ?_ _ | refine blk_drew ?_ | refine blk_alloc ?_ _)); exact BK537.out⟩, ⟨zm HB⟩⟩
 case rest =>
  clear HC6
  try clear c1
  try clear c2
  try clear p2
  try clear c3
  try clear c8
  try clear c10
  try clear c15
  try clear c16
  try clear c17
  try clear c18
  try clear c22
  try clear c23
  try clear c24
  try clear c25
  try clear c27
  try clear c27b0
  try clear c27b1
  try clear c29
  try clear c30
  try clear c31
  try clear c33
  try clear c34
  try clear hcz11_0
  try clear hcz11_1
  try clear hcz11_2
  try clear hcz18_0
  try clear hcz19_0
  try clear hcz19_1
  try clear hcz19_2
  try clear hcz26_0
  try clear hcz32_0
  try clear hcz32_1
  try clear hcz32_2
  try clear hcz35_0
  try clear hfz11_0
  try clear hfz11_1
  try clear hfz11_2
  try clear hfz18_0
  try clear hfz19_0
  try clear hfz19_1
  try clear hfz19_2
  try clear hfz26_0
  try clear hfz32_0
  try clear hfz32_1
  try clear hfz32_2
  try clear hfz35_0
  obtain ⟨kq, x27_5, rfl, HA, HJ5, HO_528002, HO_533000, HO_538000, BK527, BK532, BK537, HB⟩ := hcut
  cases kq with
  | zero => exact absurd HA.out (by simp [awardingbodylaw12_BookletFewest.j0])
  | succ kj5 =>
   have H := HA.out
   clear HA
   simp only [awardingbodylaw12_BookletFewest.j0] at H
   by_cases c37 : x27_5 = true
   ·subst c37
    have H1 : (none) = some r := by rw [if_pos rfl] at H; exact H
    clear H
    have H := H1
    clear H1
    exact absurd H (by simp)
   ·replace c37 := Bool.eq_false_iff.mpr c37
    subst c37
    have H1 : ((booklet_Valid.f kj5 t521 t522 t523 t528).bind fun t539 => (if t539 = true then (if t536 = 0 then (if (t533.length : Int) ≤ (t528.length : Int) then ((awardingbodylaw12_awake.f kj5).bind fun t540 => (some t540)) else (none)) else (none)) else ((awardingbodylaw12_awake.f kj5).bind fun t541 => (some t541)))) = some r := by rw [if_neg (show ¬ (false = true) by decide)] at H; exact H
    clear H
    have H := H1
    clear H1
    replace H := Option.bind_eq_some_iff.mp H
    obtain ⟨t539, A380, H⟩ := H
    replace H : (if t539 = true then (if t536 = 0 then (if (t533.length : Int) ≤ (t528.length : Int) then ((awardingbodylaw12_awake.f kj5).bind fun t540 => (some t540)) else (none)) else (none)) else ((awardingbodylaw12_awake.f kj5).bind fun t541 => (some t541))) = some r := H
    have A38 := za A380
    clear A380
    by_cases c39 : t539 = true
    ·subst c39
     have H1 : (if t536 = 0 then (if (t533.length : Int) ≤ (t528.length : Int) then ((awardingbodylaw12_awake.f kj5).bind fun t540 => (some t540)) else (none)) else (none)) = some r := by rw [if_pos rfl] at H; exact H
     clear H
     have H := H1
     clear H1
     by_cases c40 : t536 = 0
     ·rw [if_pos c40] at H
      have c40b0 : (t536 == 0) = true := beq_iff_eq.mpr c40
      have c40b1 : (t536 != 0) = false := bne_eq_false_iff_eq.mpr c40
      clear c40
      by_cases c41 : (t533.length : Int) ≤ (t528.length : Int)
      ·rw [if_pos c41] at H
       have c41b0 : decide ((t533.length : Int) ≤ (t528.length : Int)) = true := decide_eq_true c41
       have c41b1 : decide (t533.length ≤ t528.length) = true := decide_eq_true (Int.ofNat_le.mp c41)
       clear c41
       replace H := Option.bind_eq_some_iff.mp H
       obtain ⟨t540, A420, H⟩ := H
       replace H : (some t540) = some r := H
       have A42 := za A420
       clear A420
       obtain rfl := Option.some.inj H
       have hnb43 := NB527_532.out
       have hnc43 := NB532_527.out
       have hnb44 := NB527_537.out
       have hnc44 := NB537_527.out
       obtain ⟨hcz45_0, hcz45_1, hcz45_2, hfz45_0, hfz45_1, hfz45_2⟩ := z3 BK527
       have hnb46 := NB532_537.out
       have hnc46 := NB537_532.out
       obtain ⟨hcz47_0, hfz47_0⟩ := z1 BK532
       go_wp2_with (first | ((with_reducible refine gate_callee (f := 23) rfl ?_); refine zL (some 30) Try.func23 #[.agg #[.int .i64 t521, .int .i64 t522, .slice Ao12 t523.length co12], .agg #[.slice Ao15 t528.length co15]] ?_; (with_reducible refine (booklet_Valid.calls kj5 t521 t522 _ _ t523 _ _ t528 true _ ?side1 ?side2 ?side3 ?side4 A38.out).mono ?_); (case side1 => exact zD HO_528002); (case side2 => exact (Kd.R_reads' HO_528002.out).2.1); (case side3 => repeat (first | exact (Kd.S_reads' HO_533000.out).2.2 | (with_reducible refine Kd.C_alloc ?_ _) | (with_reducible refine Kd.C_drewN ?_ _) | (with_reducible refine Kd.C_drew ?_))); (case side4 => exact (Kd.S_reads' HO_533000.out).2.1); rintro e w48 ⟨rfl, hb⟩; refine ⟨_, rfl, ?_⟩; replace HO_528002 := zR HO_528002 hb; replace HO_533000 := zS HO_533000 hb; replace HO_538000 := zS HO_538000 hb; replace BK527 := zb BK527 hb; replace BK532 := zb BK532 hb; replace BK537 := zb BK537 hb; replace HB := zs HB hb; (try clear hb); (try clear hb2); (try clear hk); (try clear hi); obtain ⟨hcz49_0, hfz49_0⟩ := z1 BK537; obtain ⟨hcz50_0, hfz50_0⟩ := z1 BK532) | (go_at_call 14; (with_reducible refine (awardingbodylaw12_awake.calls kj5  t540 _ A42.out).mono ?_); rintro e w51 ⟨rfl, hb⟩; replace HO_528002 := zR HO_528002 hb; replace HO_533000 := zS HO_533000 hb; replace HO_538000 := zS HO_538000 hb; replace BK527 := zb BK527 hb; replace BK532 := zb BK532 hb; replace BK537 := zb BK537 hb; replace HB := zs HB hb; (try clear hb); (try clear hb2); (try clear hk); (try clear hi)))
       go_ret
       exact ⟨zf, zm HB⟩
      ·rw [if_neg c41] at H
       exact absurd H (by simp)
     ·rw [if_neg c40] at H
      exact absurd H (by simp)
    ·replace c39 := Bool.eq_false_iff.mpr c39
     subst c39
     have H1 : ((awardingbodylaw12_awake.f kj5).bind fun t541 => (some t541)) = some r := by rw [if_neg (show ¬ (false = true) by decide)] at H; exact H
     clear H
     have H := H1
     clear H1
     replace H := Option.bind_eq_some_iff.mp H
     obtain ⟨t541, A520, H⟩ := H
     replace H : (some t541) = some r := H
     have A52 := za A520
     clear A520
     obtain rfl := Option.some.inj H
     have hnb53 := NB527_532.out
     have hnc53 := NB532_527.out
     have hnb54 := NB527_537.out
     have hnc54 := NB537_527.out
     obtain ⟨hcz55_0, hcz55_1, hcz55_2, hfz55_0, hfz55_1, hfz55_2⟩ := z3 BK527
     have hnb56 := NB532_537.out
     have hnc56 := NB537_532.out
     obtain ⟨hcz57_0, hfz57_0⟩ := z1 BK532
     go_wp2_with (first | ((with_reducible refine gate_callee (f := 23) rfl ?_); refine zL (some 30) Try.func23 #[.agg #[.int .i64 t521, .int .i64 t522, .slice Ao12 t523.length co12], .agg #[.slice Ao15 t528.length co15]] ?_; (with_reducible refine (booklet_Valid.calls kj5 t521 t522 _ _ t523 _ _ t528 false _ ?side1 ?side2 ?side3 ?side4 A38.out).mono ?_); (case side1 => exact zD HO_528002); (case side2 => exact (Kd.R_reads' HO_528002.out).2.1); (case side3 => repeat (first | exact (Kd.S_reads' HO_533000.out).2.2 | (with_reducible refine Kd.C_alloc ?_ _) | (with_reducible refine Kd.C_drewN ?_ _) | (with_reducible refine Kd.C_drew ?_))); (case side4 => exact (Kd.S_reads' HO_533000.out).2.1); rintro e w58 ⟨rfl, hb⟩; refine ⟨_, rfl, ?_⟩; replace HO_528002 := zR HO_528002 hb; replace HO_533000 := zS HO_533000 hb; replace HO_538000 := zS HO_538000 hb; replace BK527 := zb BK527 hb; replace BK532 := zb BK532 hb; replace BK537 := zb BK537 hb; replace HB := zs HB hb; (try clear hb); (try clear hb2); (try clear hk); (try clear hi)) | (go_at_call 14; (with_reducible refine (awardingbodylaw12_awake.calls kj5  t541 _ A52.out).mono ?_); rintro e w59 ⟨rfl, hb⟩; replace HO_528002 := zR HO_528002 hb; replace HO_533000 := zS HO_533000 hb; replace HO_538000 := zS HO_538000 hb; replace BK527 := zb BK527 hb; replace BK532 := zb BK532 hb; replace BK537 := zb BK537 hb; replace HB := zs HB hb; (try clear hb); (try clear hb2); (try clear hk); (try clear hi)))
     go_ret
     exact ⟨zf, zm HB⟩

/-- THE ONE PURE STATEMENT of awardingbodylaw12_BookletFewest: yours. -/
def awardingbodylaw12_BookletFewest.Pure : Prop := ∀ (l0 : List Int), l0.length ≤ maxLen → l0.length * 8 ≤ 140737488351232 → (∀ x ∈ l0, (Lit.int .i64 x).wf = true) → ∃ k, awardingbodylaw12_BookletFewest.f k l0 = some true
theorem awardingbodylaw12_BookletFewest.walk (P : awardingbodylaw12_BookletFewest.Pure) (a0 : Option Addr) (len0 cap0 : Nat) (z0 : List Int) (w : World) (w0 : (a0 = none ∧ len0 = 0 ∧ cap0 = 0 ∧ z0 = []) ∨ ∃ x, a0 = some x ∧ len0 ≤ cap0 ∧ cap0 ≤ maxLen ∧ z0.length = cap0 ∧ (∀ i, i < z0.length → w.cell? (x.add i) = some (.int .i64 (z0.getD i 0))) ∧ ∀ n ∈ z0, (Lit.int .i64 n).wf = true) (y0 : len0 * 8 ≤ 140737488351232) :
  Calls Try.prog 8 #[.slice a0 len0 cap0] w fun e w' => e = .returned (.bool true) ∧ Below w.heap.size w w' := by
 obtain ⟨l0, rfl, hr0, hm0, hw0, hc0⟩ := ReadsInt.ofRowC w0
 obtain ⟨k, h⟩ := P l0 hm0 y0 hw0
 refine (awardingbodylaw12_BookletFewest.calls k _ _ l0 true w (Kd.C_of_reads (d := (0 : Int)) (h1 := fun _ => rfl) hr0) hc0 h).mono ?_
 rintro e w' ⟨rfl, hd⟩
 exact ⟨rfl, hd⟩

end Go.Proofs.Ytdmlbgdefapcjaa.Print
