-- Printed by a program of this session (wip/own_print.py) out of the translation; Lean checks it.
import Derived.Test.YtdmlbgdefapcjaaPrint0
import Derived.Test.YtdmlbgdefapcjaaPrint6
import Derived.Test.YtdmlbgdefapcjaaPrint8
import Derived.Test.YtdmlbgdefapcjaaPrint10
import Derived.Test.YtdmlbgdefapcjaaPrint13
import Derived.Test.YtdmlbgdefapcjaaPrint15
import Derived.Test.YtdmlbgdefapcjaaPrint20
import Derived.Test.YtdmlbgdefapcjaaPrint21
namespace Go.Proofs.Ytdmlbgdefapcjaa.Print
open Go.RowKit Go.Proofs.YtdmlbgdefapcjaaW.PrintWords Go.Proofs.YtdmlbgdefapcjaaW.PrintLast Go.Proofs.YtdmlbgdefapcjaaW.PrintMore
attribute [local go_sem] max2_int min2_int max_two min_two max_three min_three max_four min_four   -- for this text's walks alone
set_option linter.unusedVariables false
set_option linter.unusedSimpArgs false

/-! ### awardingbodylaw12_BookletValid: function 6 -/
def awardingbodylaw12_BookletValid.j0 : Nat → List Int → Int → Int → Int → List (S23) → Option (Bool)
  | 0, _, _, _, _, _ => none
  | k + 1, x484000, x484001, x491000, x491001, x491002 => (awardingbodylaw12_shaped.f k x484000 x484001 x491000 x491001 x491002).bind fun bt499 => ((booklet_Valid.f k x491000 x491001 x491002 bt499.1).bind fun t504 => ((awardingbodyref12_Valid.f k x491000 x491001 x491002 bt499.1).bind fun t505 => (if (t504 == t505) = true then ((awardingbodylaw12_awake.f k).bind fun t506 => (some t506)) else (none))))
def awardingbodylaw12_BookletValid.f (k : Nat) (l0 : List Int) : Option (Bool) := (awardingbodymake_New.f l0).bind fun bt481 => ((awardingbodymake_Tape_LoosePaper.f k bt481.1 bt481.2 10).bind fun bt484 => ((awardingbodymake_Tape_Next.f bt481.1 bt484.2.2.2 2).bind fun bt491 => (if bt491.1 = 0 then ((awardingbodymake_Tape_Long.f k bt481.1 bt491.2).bind fun bt493 => (awardingbodylaw12_BookletValid.j0 k bt481.1 bt493.2.2.2 bt493.1 bt493.2.1 bt493.2.2.1)) else (awardingbodylaw12_BookletValid.j0 k bt481.1 bt491.2 bt484.1 bt484.2.1 bt484.2.2.1))))
theorem awardingbodylaw12_BookletValid.mono_l : ∀ k, (∀ y0 y1 y2 y3 y4, LeO (awardingbodylaw12_BookletValid.j0 k y0 y1 y2 y3 y4) (awardingbodylaw12_BookletValid.j0 (k + 1) y0 y1 y2 y3 y4))
  | 0 => fun _ _ _ _ _ r h => by simp [awardingbodylaw12_BookletValid.j0] at h
  | k + 1 => by
    have ih0 := awardingbodylaw12_BookletValid.mono_l k
    · intro y0 y1 y2 y3 y4
      unfold awardingbodylaw12_BookletValid.j0
      repeat' first
      | (with_reducible exact ih0 _ _ _ _ _)
      | (with_reducible exact awardingbodylaw12_awake.mono _)
      | (with_reducible exact awardingbodylaw12_shaped.mono _ _ _ _ _ _)
      | (with_reducible exact awardingbodymake_Tape_Long.mono _ _ _)
      | (with_reducible exact awardingbodymake_Tape_LoosePaper.mono _ _ _ _)
      | (with_reducible exact awardingbodyref12_Valid.mono _ _ _ _ _)
      | (with_reducible exact booklet_Valid.mono _ _ _ _ _)
      | (with_reducible exact LeO.refl _)
      | (with_reducible exact LeO.none _)
      | (with_reducible refine LeO.ite ?_ ?_)
      | (with_reducible refine LeO.bind ?_ (fun _ => ?_))
      | exact ih0 _ _ _ _ _
      | exact awardingbodylaw12_awake.mono _
      | exact awardingbodylaw12_shaped.mono _ _ _ _ _ _
      | exact awardingbodymake_Tape_Long.mono _ _ _
      | exact awardingbodymake_Tape_LoosePaper.mono _ _ _ _
      | exact awardingbodyref12_Valid.mono _ _ _ _ _
      | exact booklet_Valid.mono _ _ _ _ _
      | exact LeO.none _
      | refine LeO.ite ?_ ?_
      | refine LeO.bind ?_ (fun _ => ?_)
theorem awardingbodylaw12_BookletValid.mono : ∀ a0 k, LeO (awardingbodylaw12_BookletValid.f k a0) (awardingbodylaw12_BookletValid.f (k + 1) a0) := by
  intro a0 k
  have ih0 := awardingbodylaw12_BookletValid.mono_l k
  unfold awardingbodylaw12_BookletValid.f
  repeat' first
      | (with_reducible exact ih0 _ _ _ _ _)
      | (with_reducible exact awardingbodylaw12_awake.mono _)
      | (with_reducible exact awardingbodylaw12_shaped.mono _ _ _ _ _ _)
      | (with_reducible exact awardingbodymake_Tape_Long.mono _ _ _)
      | (with_reducible exact awardingbodymake_Tape_LoosePaper.mono _ _ _ _)
      | (with_reducible exact awardingbodyref12_Valid.mono _ _ _ _ _)
      | (with_reducible exact booklet_Valid.mono _ _ _ _ _)
      | (with_reducible exact LeO.refl _)
      | (with_reducible exact LeO.none _)
      | (with_reducible refine LeO.ite ?_ ?_)
      | (with_reducible refine LeO.bind ?_ (fun _ => ?_))
      | exact ih0 _ _ _ _ _
      | exact awardingbodylaw12_awake.mono _
      | exact awardingbodylaw12_shaped.mono _ _ _ _ _ _
      | exact awardingbodymake_Tape_Long.mono _ _ _
      | exact awardingbodymake_Tape_LoosePaper.mono _ _ _ _
      | exact awardingbodyref12_Valid.mono _ _ _ _ _
      | exact booklet_Valid.mono _ _ _ _ _
      | exact LeO.none _
      | refine LeO.ite ?_ ?_
      | refine LeO.bind ?_ (fun _ => ?_)
def awardingbodylaw12_BookletValid.T6 : Bool × List (List Nat × List Nat) := (true, [([], []), ([], []), ([0, 1], [0, 1]), ([], []), ([], []), ([3, 4, 2], [3, 4]), ([2, 5], [2, 5]), ([6, 5], [6]), ([7, 7], [7]), ([7, 8], [7, 8]), ([9, 8, 0, 1, 2, 3, 4, 5, 6, 7, 8, 9], [9])])
def awardingbodylaw12_BookletValid.B6 : List Nat := [0, 0, 3, 0, 0, 31, 63, 127, 255, 511, 1023]
theorem awardingbodylaw12_BookletValid.tab6 : rtab .any (opsOf Try.f6 6) = awardingbodylaw12_BookletValid.T6 := by kernel_rfl
theorem awardingbodylaw12_BookletValid.bits6 : waitsOk awardingbodylaw12_BookletValid.T6.2 awardingbodylaw12_BookletValid.B6 = true := by kernel_rfl
theorem q22_ {p : Prop} (h : p) : Aside0 p := ⟨h⟩
theorem q22a {p : Prop} (h : p := by (repeat (first | (with_reducible first | exact HB.out | apply below_alloc | apply pw_below_drewN | apply below_drew1 | refine below_set ?_ (IsS61.ge HI483.out) | refine below_set ?_ GE490.out | refine below_set ?_ GE503.out) | exact HB.out))) : p := h
theorem q22b {p : Prop} (h : p := by (repeat (first | (with_reducible first | exact HI483.out | apply IsS61.alloc | apply IsS61.drewN | apply IsS61.drew | apply IsS61.set_1 | refine IsS61.far ?_ NB483_490.out _ | refine IsS61.far ?_ NB483_503.out _) | exact HI483.out))) : p := h
theorem q22c {p : Prop} (h : p := by ((repeat (first | (with_reducible first | refine blk_drewN ?_ _ | refine blk_drew ?_ | refine blk_alloc ?_ _) | refine blk_far ?_ (Aside0.out (by assumption)) _)); first | (with_reducible exact (Aside0.out (by assumption))) | exact (Aside0.out (by assumption)))) : p := h
theorem q22d {p : Prop} (h : p := by ((try simp only [List.map_toArray, List.map_cons, List.map_nil]); first | done | rfl | (simp only [List.length_drop, List.length_take]; rfl))) : p := h
theorem q22e {p : Prop} (h : p := by ((with_reducible repeat (first | apply Kd.R_alloc | apply Kd.R_drewN | apply Kd.R_drew)); exact HO_491002.out)) : p := h
theorem q22f {p : Prop} (h : p := by ((with_reducible repeat (first | apply Kd.S_alloc | apply Kd.S_drewN | apply Kd.S_drew)); exact HO501.out)) : p := h
theorem q22g {p : Prop} (h : p := by ((with_reducible repeat (first | apply Kd.R_alloc | apply Kd.R_drewN | apply Kd.R_drew)); exact HO488.out)) : p := h
set_option maxHeartbeats 8000000 in
set_option maxRecDepth 100000 in
theorem awardingbodylaw12_BookletValid.calls (k : Nat) (A0 : Option Addr) (c0 : Nat) (l0 : List Int) (r : Bool) (w : World) (hr0 : Kd.C (Kd.int .i64) w A0 l0.length l0) (hc0 : l0.length ≤ c0) (h : awardingbodylaw12_BookletValid.f k l0 = some r) :
    Calls Try.prog 6 #[.slice A0 l0.length c0] w fun e w' => e = .returned (.bool r) ∧ Below w.heap.size w w' := by
 have hu33 := Try.underlying33
 have hu38 := Try.underlying38
 have HR0 := q22_ hr0; have HC0 := q22_ hc0; clear hr0 hc0
 have HB := q22_ (Below.refl w.heap.size w)
 have H : ((awardingbodymake_New.f l0).bind fun bt481 => ((awardingbodymake_Tape_LoosePaper.f k bt481.1 bt481.2 10).bind fun bt484 => ((awardingbodymake_Tape_Next.f bt481.1 bt484.2.2.2 2).bind fun bt491 => (if bt491.1 = 0 then ((awardingbodymake_Tape_Long.f k bt481.1 bt491.2).bind fun bt493 => (awardingbodylaw12_BookletValid.j0 k bt481.1 bt493.2.2.2 bt493.1 bt493.2.1 bt493.2.2.1)) else (awardingbodylaw12_BookletValid.j0 k bt481.1 bt491.2 bt484.1 bt484.2.1 bt484.2.2.1))))) = some r := h
 clear h
 replace H := Option.bind_eq_some_iff.mp H
 obtain ⟨⟨t481, t482⟩, A20, H⟩ := H
 replace H : ((awardingbodymake_Tape_LoosePaper.f k t481 t482 10).bind fun bt484 => ((awardingbodymake_Tape_Next.f t481 bt484.2.2.2 2).bind fun bt491 => (if bt491.1 = 0 then ((awardingbodymake_Tape_Long.f k t481 bt491.2).bind fun bt493 => (awardingbodylaw12_BookletValid.j0 k t481 bt493.2.2.2 bt493.1 bt493.2.1 bt493.2.2.1)) else (awardingbodylaw12_BookletValid.j0 k t481 bt491.2 bt484.1 bt484.2.1 bt484.2.2.1)))) = some r := H
 have A2 := q22_ A20; clear A20
 replace H := Option.bind_eq_some_iff.mp H
 obtain ⟨⟨t484, t485, t486, t489⟩, A30, H⟩ := H
 replace H : ((awardingbodymake_Tape_Next.f t481 t489 2).bind fun bt491 => (if bt491.1 = 0 then ((awardingbodymake_Tape_Long.f k t481 bt491.2).bind fun bt493 => (awardingbodylaw12_BookletValid.j0 k t481 bt493.2.2.2 bt493.1 bt493.2.1 bt493.2.2.1)) else (awardingbodylaw12_BookletValid.j0 k t481 bt491.2 t484 t485 t486))) = some r := H
 have A3 := q22_ A30; clear A30
 replace H := Option.bind_eq_some_iff.mp H
 obtain ⟨⟨t491, t492⟩, A40, H⟩ := H
 replace H : (if t491 = 0 then ((awardingbodymake_Tape_Long.f k t481 t492).bind fun bt493 => (awardingbodylaw12_BookletValid.j0 k t481 bt493.2.2.2 bt493.1 bt493.2.1 bt493.2.2.1)) else (awardingbodylaw12_BookletValid.j0 k t481 t492 t484 t485 t486)) = some r := H
 have A4 := q22_ A40; clear A40; have HC5 := q22_ H; clear H
 go_enter Try.func6, Try.ntmps6
 go_upto_if 12 with (first | ((with_reducible refine gate_callee (f := 15) rfl ?_); refine goesL_ (some 7) rfl rfl Try.func15 (by kernel_rfl) rfl #[.slice A0 l0.length c0] rfl q22d ?_; (with_reducible refine (awardingbodymake_New.calls _ _ l0 t481 t482 w _ ?side1 ?side2 ?side3 A2.out).mono ?_); (case side1 => repeat (first | (with_reducible first | exact HB.out | apply below_alloc | apply pw_below_drewN | apply below_drew1) | exact HB.out)); (case side2 => exact HR0.out); (case side3 => exact HC0.out); rintro e w6 ⟨g483, rfl, hi, hb, hb2⟩; refine ⟨_, rfl, ?_⟩; have n0_ := q22_ (hb); have n1_ := q22_ (hi); clear HB; have HB := n0_; have HI483 := n1_; clear n0_ n1_; (try clear hb); (try clear hb2); (try clear hk); (try clear hi)) | ((with_reducible refine gate_callee (f := 16) rfl ?_); refine goesL_ (some 9) rfl rfl Try.func16 (by kernel_rfl) rfl #[.pointer (some ⟨g483, 0, none⟩), .int .i64 10] rfl q22d ?_; (with_reducible refine (awardingbodymake_Tape_LoosePaper.calls k g483 t481 t482 10 t484 t485 t486 t489 w _ ?side1 ?side2 A3.out).mono ?_); (case side1 => repeat (first | (with_reducible first | exact HI483.out | apply IsS61.alloc | apply IsS61.drewN | apply IsS61.drew | apply IsS61.set_1) | exact HI483.out)); (case side2 => repeat (first | (with_reducible first | exact HB.out | apply below_alloc | apply pw_below_drewN | apply below_drew1 | refine below_set ?_ (IsS61.ge HI483.out)) | exact HB.out)); rintro e w7 ⟨v487, rfl, ho0, hi, hb, hk⟩; refine ⟨_, rfl, ?_⟩; have n0_ := q22_ (Kd.R_lower ho0 (below_size (q22a))); have n1_ := q22_ (hb); have n2_ := q22_ (hi); clear HB HI483; have HO488 := n0_; have HB := n1_; have HI483 := n2_; clear n0_ n1_ n2_; (try clear hb); (try clear hb2); (try clear hk); (try clear hi); (try clear ho0)) | ((with_reducible refine gate_dst (N := 4) rfl ?_); refine box_event ?hg (N := 4) ?hd (cs := #[.int .i64 0, .int .i64 0, .slice none 0 0]) (t := 33) ?hr ?_; (case hd => rfl); (case hg => rfl); (case hr => first | (go_simp; done) | (go_simp; rfl)); intro gb490 hg w8 hbox hb; have n0_ := q22_ (Kd.R_below q22g hb); have n1_ := q22_ (IsS61.below (q22b) hb); have n2_ := q22_ (below_step (q22a) hb); have n3_ := q22_ (hbox); have n4_ := q22_ ((by rw [hg]; exact (below_size (q22a)) : w.heap.size ≤ gb490)); have n5_ := q22_ ((by rw [hg]; exact (below_size (q22a)) : w.heap.size ≤ gb490)); have n6_ := q22_ ((by rw [hg]; exact Nat.ne_of_lt (IsS61.lt (show IsS61 w _ g483 t481 t489 from q22b)) : g483 ≠ gb490)); have n7_ := q22_ ((by rw [hg]; exact Nat.ne_of_gt (IsS61.lt (show IsS61 w _ g483 t481 t489 from q22b)) : gb490 ≠ g483)); clear HO488 HI483 HB; have HO488 := n0_; have HI483 := n1_; have HB := n2_; have BK490 := n3_; have GW490 := n4_; have GE490 := n5_; have NB483_490 := n6_; have NB490_483 := n7_; clear n0_ n1_ n2_ n3_ n4_ n5_ n6_ n7_ hb hbox hg; have hnb9 := NB490_483.out; have hnc9 := NB483_490.out; have hcz10_0 : w8.cell? ⟨gb490, 0, none⟩ = some (.int .i64 0) := (blk_cell BK490.out 0).trans rfl; have hcz10_1 : w8.cell? ⟨gb490, 1, none⟩ = some (.int .i64 0) := (blk_cell BK490.out 1).trans rfl; have hcz10_2 : w8.cell? ⟨gb490, 2, none⟩ = some (.slice none 0 0) := (blk_cell BK490.out 2).trans rfl; have hfz10_0 := blk_frozen BK490.out 0; have hfz10_1 := blk_frozen BK490.out 1; have hfz10_2 := blk_frozen BK490.out 2; obtain ⟨Ao11, co11, eo11⟩ := Kd.R_slice HO488.out; subst eo11) | ((with_reducible refine gate_callee (f := 21) rfl ?_); refine goesL_ (some 11) rfl rfl Try.func21 (by kernel_rfl) rfl #[.pointer (some ⟨g483, 0, none⟩), .int .i64 2] rfl q22d ?_; (with_reducible refine (awardingbodymake_Tape_Next.calls g483 t481 t489 2 t491 t492 w _ ?side1 ?side2 A4.out).mono ?_); (case side1 => repeat (first | (with_reducible first | exact HI483.out | apply IsS61.alloc | apply IsS61.drewN | apply IsS61.drew | apply IsS61.set_1 | refine IsS61.far ?_ NB483_490.out _) | exact HI483.out)); (case side2 => repeat (first | (with_reducible first | exact HB.out | apply below_alloc | apply pw_below_drewN | apply below_drew1 | refine below_set ?_ (IsS61.ge HI483.out) | refine below_set ?_ GE490.out) | exact HB.out)); rintro e w12 ⟨rfl, hi, hb, hk⟩; refine ⟨_, rfl, ?_⟩; have n0_ := q22_ (Kd.R_mono (Kd.R_keep (IsS61.apart (show IsS61 w _ g483 t481 t489 from q22b) (by (with_reducible repeat (first | apply Kd.R_alloc | apply Kd.R_drewN | apply Kd.R_drew)); exact (Kd.R_mono (Kd.R_far (p := ⟨gb490, 2, none⟩) (Kd.R_far (p := ⟨gb490, 1, none⟩) (Kd.R_far (p := ⟨gb490, 0, none⟩) (Kd.R_types HO488.out BK490.out (by decide)) (fun _ hk => hk.2) (.int .i64 t484)) (fun _ hk => hk.2) (.int .i64 t485)) (fun _ hk => hk.2) (.slice Ao11 t486.length co11)) (fun _ h_ => h_.1))) (by decide)) hk (fun _ h => h.2)) (fun _ h => h.1)); have n1_ := q22_ (KeepBut.blk hk (g' := gb490) (o := .cells #[.int .i64 t484, .int .i64 t485, .slice Ao11 t486.length co11] 33 (0, 0)) (by (with_reducible repeat (first | refine blk_drewN ?_ _ | refine blk_drew ?_ | refine blk_alloc ?_ _)); refine blk_put (cs := #[.int .i64 t484, .int .i64 t485, .slice none 0 0]) ?_ 2 _ rfl; (with_reducible repeat (first | refine blk_drewN ?_ _ | refine blk_drew ?_ | refine blk_alloc ?_ _)); refine blk_put (cs := #[.int .i64 t484, .int .i64 0, .slice none 0 0]) ?_ 1 _ rfl; (with_reducible repeat (first | refine blk_drewN ?_ _ | refine blk_drew ?_ | refine blk_alloc ?_ _)); refine blk_put (cs := #[.int .i64 0, .int .i64 0, .slice none 0 0]) ?_ 0 _ rfl; (with_reducible repeat (first | refine blk_drewN ?_ _ | refine blk_drew ?_ | refine blk_alloc ?_ _)); exact BK490.out) NB490_483.out (by simp)); have n2_ := q22_ (hb); have n3_ := q22_ (hi); clear HO488 BK490 HB HI483; have HO488 := n0_; have BK490 := n1_; have HB := n2_; have HI483 := n3_; clear n0_ n1_ n2_ n3_; (try clear hb); (try clear hb2); (try clear hk); (try clear hi)))
 (try simp only [Act.put, List.setIfInBounds_toArray, List.set_cons_zero, List.set_cons_succ])
 go_cut [] (fun wc => ∃ (kq : Nat) (x484001_4 : Int) (x491000_4 : Int) (x491001_4 : Int) (x491002_4 : List (S23)) (u491002 : Value), Aside0 (awardingbodylaw12_BookletValid.j0 kq t481 x484001_4 x491000_4 x491001_4 x491002_4 = some r) ∧ Aside0 (kq ≤ k) ∧ Aside0 (Kd.R k23 23 wc w.heap.size (fun _ => True) u491002 x491002_4) ∧ Aside0 (wc.heap[gb490]? = some (.cells #[.int .i64 x491000_4, .int .i64 x491001_4, u491002] 33 (0, 0))) ∧ Aside0 (IsS61 w wc g483 t481 x484001_4) ∧ Aside0 (Below w.heap.size w wc))
 case first =>
  have H := HC5.out
  clear HC5
  by_cases c13 : t491 = 0
  ·rw [if_pos c13] at H
   have c13b0 : (t491 == 0) = true := beq_iff_eq.mpr c13
   have c13b1 : (t491 != 0) = false := bne_eq_false_iff_eq.mpr c13
   clear c13
   (first | rw [c13b0] | (simp only [i64_w, i32_w]; rw [c13b0]) | skip)
   replace H := Option.bind_eq_some_iff.mp H
   obtain ⟨⟨t493, t494, t495, t498⟩, A140, H⟩ := H
   replace H : (awardingbodylaw12_BookletValid.j0 k t481 t498 t493 t494 t495) = some r := H
   have A14 := q22_ A140; clear A140; have H' := q22_ H; clear H
   go_wp2_with (first | ((with_reducible refine gate_callee (f := 17) rfl ?_); refine goesL_ (some 14) rfl rfl Try.func17 (by kernel_rfl) rfl #[.pointer (some ⟨g483, 0, none⟩)] rfl q22d ?_; (with_reducible refine (awardingbodymake_Tape_Long.calls k g483 t481 t492 t493 t494 t495 t498 w _ ?side1 ?side2 A14.out).mono ?_); (case side1 => repeat (first | (with_reducible first | exact HI483.out | apply IsS61.alloc | apply IsS61.drewN | apply IsS61.drew | apply IsS61.set_1 | refine IsS61.far ?_ NB483_490.out _) | exact HI483.out)); (case side2 => repeat (first | (with_reducible first | exact HB.out | apply below_alloc | apply pw_below_drewN | apply below_drew1 | refine below_set ?_ (IsS61.ge HI483.out) | refine below_set ?_ GE490.out) | exact HB.out)); rintro e w15 ⟨v496, rfl, ho0, hi, hb, hk⟩; refine ⟨_, rfl, ?_⟩; have n0_ := q22_ (Kd.R_mono (Kd.R_told (Kd.R_oldK (IsS61.apart (show IsS61 w _ g483 t481 t492 from q22b) q22g (by decide)) hk) (Kd.R_base ho0)) (fun _ h_ => h_.1)); have n1_ := q22_ (KeepBut.blk hk (g' := gb490) (o := .cells #[.int .i64 t484, .int .i64 t485, .slice Ao11 t486.length co11] 33 (0, 0)) (q22c) NB490_483.out (by simp)); have n2_ := q22_ (Kd.R_lower (Kd.R_new' ho0 (Kd.R_lt q22g)) (below_size (q22a))); have n3_ := q22_ (hb); have n4_ := q22_ (hi); clear HO488 BK490 HB HI483; have HO488 := n0_; have BK490 := n1_; have HO497 := n2_; have HB := n3_; have HI483 := n4_; clear n0_ n1_ n2_ n3_ n4_; (try clear hb); (try clear hb2); (try clear hk); (try clear hi); (try clear ho0); have hnb16 := NB490_483.out; have hnc16 := NB483_490.out; have hcz17_0 : w15.cell? ⟨gb490, 0, none⟩ = some (.int .i64 t484) := (blk_cell BK490.out 0).trans rfl; have hcz17_1 : w15.cell? ⟨gb490, 1, none⟩ = some (.int .i64 t485) := (blk_cell BK490.out 1).trans rfl; have hcz17_2 : w15.cell? ⟨gb490, 2, none⟩ = some (.slice Ao11 t486.length co11) := (blk_cell BK490.out 2).trans rfl; have hfz17_0 := blk_frozen BK490.out 0; have hfz17_1 := blk_frozen BK490.out 1; have hfz17_2 := blk_frozen BK490.out 2; obtain ⟨Ao18, co18, eo18⟩ := Kd.R_slice HO497.out; subst eo18))
   go_meet
   case rel => exact ⟨_, (t498), (t493), (t494), (t495), (.slice Ao18 t495.length co18), H', ⟨by first | omega | exact Nat.le_refl _⟩, ⟨by (with_reducible repeat (first | apply Kd.R_alloc | apply Kd.R_drewN | apply Kd.R_drew)); exact Kd.R_mono (Kd.R_far (p := ⟨gb490, 2, none⟩) (Kd.R_far (p := ⟨gb490, 1, none⟩) (Kd.R_far (p := ⟨gb490, 0, none⟩) (Kd.R_types HO497.out BK490.out (by decide)) (fun _ hk => hk.2) (.int .i64 t493)) (fun _ hk => hk.2) (.int .i64 t494)) (fun _ hk => hk.2) (.slice Ao18 t495.length co18)) (fun _ hk => trivial)⟩, ⟨by (with_reducible repeat (first | refine blk_drewN ?_ _ | refine blk_drew ?_ | refine blk_alloc ?_ _)); refine blk_put (cs := #[.int .i64 t493, .int .i64 t494, .slice Ao11 t486.length co11]) ?_ 2 _ rfl; (with_reducible repeat (first | refine blk_drewN ?_ _ | refine blk_drew ?_ | refine blk_alloc ?_ _)); refine blk_put (cs := #[.int .i64 t493, .int .i64 t485, .slice Ao11 t486.length co11]) ?_ 1 _ rfl; (with_reducible repeat (first | refine blk_drewN ?_ _ | refine blk_drew ?_ | refine blk_alloc ?_ _)); refine blk_put (cs := #[.int .i64 t484, .int .i64 t485, .slice Ao11 t486.length co11]) ?_ 0 _ rfl; (with_reducible repeat (first | refine blk_drewN ?_ _ | refine blk_drew ?_ | refine blk_alloc ?_ _)); exact BK490.out⟩, ⟨q22b⟩, ⟨q22a⟩⟩
  ·rw [if_neg c13] at H
   have c13b0 : (t491 == 0) = false := beq_eq_false_iff_ne.mpr c13
   have c13b1 : (t491 != 0) = true := bne_iff_ne.mpr c13
   (first | rw [c13b0] | (simp only [i64_w, i32_w]; rw [c13b0]) | skip)
   have H' := q22_ H; clear H
   go_wp2
   go_meet
   case rel => exact ⟨_, (t492), (t484), (t485), (t486), (.slice Ao11 t486.length co11), H', ⟨by first | omega | exact Nat.le_refl _⟩, ⟨by (with_reducible repeat (first | apply Kd.R_alloc | apply Kd.R_drewN | apply Kd.R_drew)); exact HO488.out⟩, ⟨q22c⟩, ⟨q22b⟩, ⟨q22a⟩⟩
 case rest =>
  clear HC5; (try clear c1); (try clear c2); (try clear p2); (try clear c6); (try clear c9); (try clear c13); (try clear c13b0); (try clear c13b1); (try clear c15); (try clear c16); (try clear c17); (try clear hcz10_0); (try clear hcz10_1); (try clear hcz10_2); (try clear hcz17_0); (try clear hcz17_1); (try clear hcz17_2); (try clear hfz10_0); (try clear hfz10_1); (try clear hfz10_2); (try clear hfz17_0); (try clear hfz17_1); (try clear hfz17_2)
  obtain ⟨kq, x484001_4, x491000_4, x491001_4, x491002_4, u491002, HA, HJ4, HO_491002, BK490, HI483, HB⟩ := hcut
  cases kq with
  | zero => exact absurd HA.out (by simp [awardingbodylaw12_BookletValid.j0])
  | succ kj4 =>
   have H := HA.out
   clear HA
   simp only [awardingbodylaw12_BookletValid.j0] at H
   replace H := Option.bind_eq_some_iff.mp H
   obtain ⟨⟨t499, t502⟩, A190, H⟩ := H
   replace H : ((booklet_Valid.f kj4 x491000_4 x491001_4 x491002_4 t499).bind fun t504 => ((awardingbodyref12_Valid.f kj4 x491000_4 x491001_4 x491002_4 t499).bind fun t505 => (if (t504 == t505) = true then ((awardingbodylaw12_awake.f kj4).bind fun t506 => (some t506)) else (none)))) = some r := H
   have A19 := q22_ A190; clear A190
   replace H := Option.bind_eq_some_iff.mp H
   obtain ⟨t504, A200, H⟩ := H
   replace H : ((awardingbodyref12_Valid.f kj4 x491000_4 x491001_4 x491002_4 t499).bind fun t505 => (if (t504 == t505) = true then ((awardingbodylaw12_awake.f kj4).bind fun t506 => (some t506)) else (none))) = some r := H
   have A20 := q22_ A200; clear A200
   replace H := Option.bind_eq_some_iff.mp H
   obtain ⟨t505, A210, H⟩ := H
   replace H : (if (t504 == t505) = true then ((awardingbodylaw12_awake.f kj4).bind fun t506 => (some t506)) else (none)) = some r := H
   have A21 := q22_ A210; clear A210
   by_cases c22 : (t504 == t505) = true
   ·rw [if_pos c22] at H
    have c22b0 : (t504 == t505) = true := c22
    (try (have c22b1 : decide (t504 = t505) = true := by simpa using c22))
    (try (have c22b2 : (t504 == t505) = true := by simpa using c22))
    clear c22
    replace H := Option.bind_eq_some_iff.mp H
    obtain ⟨t506, A230, H⟩ := H
    replace H : (some t506) = some r := H
    have A23 := q22_ A230; clear A230
    obtain rfl := Option.some.inj H
    have hnb24 := NB490_483.out
    have hnc24 := NB483_490.out
    have hcz25_0 : wc.cell? ⟨gb490, 0, none⟩ = some (.int .i64 x491000_4) := (blk_cell BK490.out 0).trans rfl
    have hcz25_1 : wc.cell? ⟨gb490, 1, none⟩ = some (.int .i64 x491001_4) := (blk_cell BK490.out 1).trans rfl
    have hcz25_2 : wc.cell? ⟨gb490, 2, none⟩ = some (u491002) := (blk_cell BK490.out 2).trans rfl
    have hfz25_0 := blk_frozen BK490.out 0
    have hfz25_1 := blk_frozen BK490.out 1
    have hfz25_2 := blk_frozen BK490.out 2
    obtain ⟨Ao26, co26, eo26⟩ := Kd.R_slice HO_491002.out
    subst eo26
    try go_wp2_with (first | ((with_reducible refine gate_callee (f := 22) rfl ?_); refine goesL_ (some 17) rfl rfl Try.func22 (by kernel_rfl) rfl #[.pointer (some ⟨g483, 0, none⟩), .agg #[.int .i64 x491000_4, .int .i64 x491001_4, .slice Ao26 x491002_4.length co26]] rfl q22d ?_; (with_reducible refine (awardingbodylaw12_shaped.calls kj4 g483 t481 x484001_4 x491000_4 x491001_4 _ _ x491002_4 t499 t502 w _ ?side1 ?side2 ?side3 ?side4 A19.out).mono ?_); (case side1 => repeat (first | (with_reducible first | exact HI483.out | apply IsS61.alloc | apply IsS61.drewN | apply IsS61.drew | apply IsS61.set_1 | refine IsS61.far ?_ NB483_490.out _) | exact HI483.out)); (case side2 => repeat (first | (with_reducible first | exact HB.out | apply below_alloc | apply pw_below_drewN | apply below_drew1 | refine below_set ?_ (IsS61.ge HI483.out) | refine below_set ?_ GE490.out) | exact HB.out)); (case side3 => exact Kd.C_foot_own (IsS61.apart (show IsS61 w _ g483 t481 x484001_4 from q22b) q22e (by decide)) (fun _ h_ => h_.2)); (case side4 => exact (Kd.R_reads' HO_491002.out).2.1); rintro e w27 ⟨v500, rfl, ho0, hi, hb, hk⟩; refine ⟨_, rfl, ?_⟩; have n0_ := q22_ (Kd.R_mono (Kd.R_keep (IsS61.apart (show IsS61 w _ g483 t481 x484001_4 from q22b) q22e (by decide)) hk (fun _ h => h.2)) (fun _ h => h.1)); have n1_ := q22_ (KeepBut.blk hk (g' := gb490) (o := .cells #[.int .i64 x491000_4, .int .i64 x491001_4, .slice Ao26 x491002_4.length co26] 33 (0, 0)) (q22c) NB490_483.out (by simp)); have n2_ := q22_ (Kd.S_lower ho0 (below_size (q22a))); have n3_ := q22_ (hb); have n4_ := q22_ (hi); clear HO_491002 BK490 HB HI483; have HO_491002 := n0_; have BK490 := n1_; have HO501 := n2_; have HB := n3_; have HI483 := n4_; clear n0_ n1_ n2_ n3_ n4_; (try clear hb); (try clear hb2); (try clear hk); (try clear hi); (try clear ho0)) | ((with_reducible refine gate_dst (N := 5) rfl ?_); refine box_event ?hg (N := 5) ?hd (cs := #[.slice none 0 0]) (t := 38) ?hr ?_; (case hd => rfl); (case hg => rfl); (case hr => first | (go_simp; done) | (go_simp; rfl)); intro gb503 hg w28 hbox hb; have n0_ := q22_ (Kd.R_below q22e hb); have n1_ := q22_ (Kd.S_below q22f hb); have n2_ := q22_ (blk_below (g := gb490) (o := .cells #[.int .i64 x491000_4, .int .i64 x491001_4, .slice Ao26 x491002_4.length co26] 33 (0, 0)) (q22c) hb); have n3_ := q22_ (IsS61.below (q22b) hb); have n4_ := q22_ (below_step (q22a) hb); have n5_ := q22_ (hbox); have n6_ := q22_ ((by rw [hg]; exact (below_size (q22a)) : w.heap.size ≤ gb503)); have n7_ := q22_ ((by rw [hg]; exact (below_size (q22a)) : w.heap.size ≤ gb503)); have n8_ := q22_ ((by rw [hg]; exact Nat.ne_of_lt (blk_lt (g := gb490) (o := .cells #[.int .i64 x491000_4, .int .i64 x491001_4, .slice Ao26 x491002_4.length co26] 33 (0, 0)) (q22c)) : gb490 ≠ gb503)); have n9_ := q22_ ((by rw [hg]; exact Nat.ne_of_gt (blk_lt (g := gb490) (o := .cells #[.int .i64 x491000_4, .int .i64 x491001_4, .slice Ao26 x491002_4.length co26] 33 (0, 0)) (q22c)) : gb503 ≠ gb490)); have n10_ := q22_ ((by rw [hg]; exact Nat.ne_of_lt (IsS61.lt (show IsS61 w _ g483 t481 t502 from q22b)) : g483 ≠ gb503)); have n11_ := q22_ ((by rw [hg]; exact Nat.ne_of_gt (IsS61.lt (show IsS61 w _ g483 t481 t502 from q22b)) : gb503 ≠ g483)); clear HO_491002 HO501 BK490 HI483 HB; have HO_491002 := n0_; have HO501 := n1_; have BK490 := n2_; have HI483 := n3_; have HB := n4_; have BK503 := n5_; have GW503 := n6_; have GE503 := n7_; have NB490_503 := n8_; have NB503_490 := n9_; have NB483_503 := n10_; have NB503_483 := n11_; clear n0_ n1_ n2_ n3_ n4_ n5_ n6_ n7_ n8_ n9_ n10_ n11_ hb hbox hg; obtain ⟨Ao29, co29, eo29⟩ := Kd.S_slice HO501.out; subst eo29; have hnb30 := NB503_490.out; have hnc30 := NB490_503.out; have hnb31 := NB503_483.out; have hnc31 := NB483_503.out; have hcz32_0 : w28.cell? ⟨gb503, 0, none⟩ = some (.slice none 0 0) := (blk_cell BK503.out 0).trans rfl; have hfz32_0 := blk_frozen BK503.out 0))
    have n0_ : Aside0 (Kd.R k23 23 (w28.setCell ⟨gb503, 0, none⟩ (.slice Ao29 t499.length co29)) w.heap.size (fun _ => True) (.slice Ao26 x491002_4.length co26) x491002_4) := ⟨by (with_reducible repeat (first | apply Kd.R_alloc | apply Kd.R_drewN | apply Kd.R_drew)); exact Kd.R_mono (Kd.R_far (p := ⟨gb503, 0, none⟩) (Kd.R_types HO_491002.out BK503.out (by decide)) (fun _ hk => hk.2) (.slice Ao29 t499.length co29)) (fun _ hk => trivial)⟩
    have n1_ : Aside0 (Kd.S (Kd.slice 3 (Kd.int .i64)) 28 (w28.setCell ⟨gb503, 0, none⟩ (.slice Ao29 t499.length co29)) w.heap.size (fun _ => True) (.slice Ao29 t499.length co29) t499) := ⟨by (with_reducible repeat (first | apply Kd.S_alloc | apply Kd.S_drewN | apply Kd.S_drew)); exact Kd.S_mono (Kd.S_far (p := ⟨gb503, 0, none⟩) (Kd.S_types HO501.out BK503.out (by decide)) (fun _ hk => hk.2) (.slice Ao29 t499.length co29)) (fun _ hk => trivial)⟩
    have n2_ : Aside0 ((w28.setCell ⟨gb503, 0, none⟩ (.slice Ao29 t499.length co29)).heap[gb490]? = some (.cells #[.int .i64 x491000_4, .int .i64 x491001_4, .slice Ao26 x491002_4.length co26] 33 (0, 0))) := ⟨q22c⟩
    have n3_ : Aside0 ((w28.setCell ⟨gb503, 0, none⟩ (.slice Ao29 t499.length co29)).heap[gb503]? = some (.cells #[.slice Ao29 t499.length co29] 38 (0, 0))) := ⟨by (with_reducible repeat (first | refine blk_drewN ?_ _ | refine blk_drew ?_ | refine blk_alloc ?_ _)); refine blk_put (cs := #[.slice none 0 0]) ?_ 0 _ rfl; (with_reducible repeat (first | refine blk_drewN ?_ _ | refine blk_drew ?_ | refine blk_alloc ?_ _)); exact BK503.out⟩
    have n4_ : Aside0 (IsS61 w (w28.setCell ⟨gb503, 0, none⟩ (.slice Ao29 t499.length co29)) g483 t481 t502) := ⟨q22b⟩
    have n5_ : Aside0 (Below w.heap.size w (w28.setCell ⟨gb503, 0, none⟩ (.slice Ao29 t499.length co29))) := ⟨q22a⟩
    (try clear HO_491002)
    (try clear HO501)
    (try clear BK490)
    (try clear BK503)
    (try clear HI483)
    (try clear HB)
    generalize (w28.setCell ⟨gb503, 0, none⟩ (.slice Ao29 t499.length co29)) = w33 at n0_ n1_ n2_ n3_ n4_ n5_ ⊢
    have HO_491002 := n0_; have HO501 := n1_; have BK490 := n2_; have BK503 := n3_; have HI483 := n4_; have HB := n5_; clear n0_ n1_ n2_ n3_ n4_ n5_
    have n0_ := q22_ (Kd.R_drew HO_491002.out)
    have n1_ := q22_ (Kd.S_drew HO501.out)
    have n2_ := q22_ (blk_drew BK490.out)
    have n3_ := q22_ (blk_drew BK503.out)
    have n4_ := q22_ (IsS61.drew HI483.out)
    have n5_ := q22_ (below_drew1 HB.out)
    clear HO_491002 HO501 BK490 BK503 HI483 HB; have HO_491002 := n0_; have HO501 := n1_; have BK490 := n2_; have BK503 := n3_; have HI483 := n4_; have HB := n5_; clear n0_ n1_ n2_ n3_ n4_ n5_
    refine start_ (n := 11) (S := fun w' => w'.cell? ⟨gb490, 0, none⟩ = some (.int .i64 x491000_4) ∧ w'.cell? ⟨gb490, 1, none⟩ = some (.int .i64 x491001_4) ∧ w'.cell? ⟨gb490, 2, none⟩ = some (.slice Ao26 x491002_4.length co26) ∧ w'.cell? ⟨gb503, 0, none⟩ = some (.slice Ao29 t499.length co29)) (ds := []) #[false, false, false, false, false, false, false, false, false, false, false] (by kernel_rfl) rfl rfl ⟨(blk_cell BK490.out 0).trans rfl, (blk_cell BK490.out 1).trans rfl, (blk_cell BK490.out 2).trans rfl, (blk_cell BK503.out 0).trans rfl⟩ (fun hHeld => ?_); refine with_tabW awardingbodylaw12_BookletValid.tab6 awardingbodylaw12_BookletValid.bits6 (fun HT_ HW_ => ?_)
    generalize w33.drew = w34 at HO_491002 HO501 BK490 BK503 HI483 HB hHeld ⊢
    refine take_ (i := 0) (N := some 18) (v := ?_) (a' := ?_) #[true, false, false, false, false, false, false, false, false, false, false] rfl rfl (take_ofW HT_.out HW_.out (by kernel_rfl)) (fun _ _ _ h => h) (Or.inl ⟨by rfl, ?_⟩) hHeld ?_ ?_
    rotate_left
    ·rintro w' ⟨s0, s1, s2, s3⟩
     go_simp
     with_reducible rfl
    rotate_left
    ·simp only [Act.put, List.setIfInBounds_toArray, List.set_cons_zero, List.set_cons_succ, i64_w, i32_w]
     rfl
    refine take_ (i := 1) (N := some 19) (v := ?_) (a' := ?_) #[true, true, false, false, false, false, false, false, false, false, false] rfl rfl (take_ofW HT_.out HW_.out (by kernel_rfl)) (fun _ _ _ h => h) (Or.inl ⟨by rfl, ?_⟩) hHeld ?_ ?_
    rotate_left
    ·rintro w' ⟨s0, s1, s2, s3⟩
     go_simp
     with_reducible rfl
    rotate_left
    ·simp only [Act.put, List.setIfInBounds_toArray, List.set_cons_zero, List.set_cons_succ, i64_w, i32_w]
     rfl
    refine take_ (i := 3) (N := some 21) (v := ?_) (a' := ?_) #[true, true, false, true, false, false, false, false, false, false, false] rfl rfl (take_ofW HT_.out HW_.out (by kernel_rfl)) (fun _ _ _ h => h) (Or.inl ⟨by rfl, ?_⟩) hHeld ?_ ?_
    rotate_left
    ·rintro w' ⟨s0, s1, s2, s3⟩
     go_simp
     with_reducible rfl
    rotate_left
    ·simp only [Act.put, List.setIfInBounds_toArray, List.set_cons_zero, List.set_cons_succ, i64_w, i32_w]
     rfl
    refine take_ (i := 4) (N := some 22) (v := ?_) (a' := ?_) #[true, true, false, true, true, false, false, false, false, false, false] rfl rfl (take_ofW HT_.out HW_.out (by kernel_rfl)) (fun _ _ _ h => h) (Or.inl ⟨by rfl, ?_⟩) hHeld ?_ ?_
    rotate_left
    ·rintro w' ⟨s0, s1, s2, s3⟩
     go_simp
     with_reducible rfl
    rotate_left
    ·simp only [Act.put, List.setIfInBounds_toArray, List.set_cons_zero, List.set_cons_succ, i64_w, i32_w]
     rfl
    refine one_ (i := 2) (N := some 20) #[true, true, true, true, true, false, false, false, false, false, false] rfl rfl (one_of HT_.out (by kernel_rfl)) (by decide) (fun K hK => ?_)
    refine goes_ Try.func23 (by kernel_rfl) rfl #[.agg #[.int .i64 x491000_4, .int .i64 x491001_4, .slice Ao26 x491002_4.length co26], .agg #[.slice Ao29 t499.length co29]] (by rfl) rfl rfl q22d ?_
    with_reducible refine (booklet_Valid.calls kj4 x491000_4 x491001_4 _ _ x491002_4 _ _ t499 t504 _ ?side1 ?side2 ?side3 ?side4 A20.out).mono ?_
    (case side1 => repeat (first | exact (Kd.R_reads' HO_491002.out).2.2 | (with_reducible refine Kd.C_alloc ?_ _) | (with_reducible refine Kd.C_drewN ?_ _) | (with_reducible refine Kd.C_drew ?_)))
    (case side2 => exact (Kd.R_reads' HO_491002.out).2.1)
    (case side3 => repeat (first | exact (Kd.S_reads' HO501.out).2.2 | (with_reducible refine Kd.C_alloc ?_ _) | (with_reducible refine Kd.C_drewN ?_ _) | (with_reducible refine Kd.C_drew ?_)))
    (case side4 => exact (Kd.S_reads' HO501.out).2.1)
    rintro e w35 ⟨rfl, hb⟩
    refine ⟨_, rfl, ?_⟩
    have n0_ := q22_ (Kd.R_below q22e hb)
    have n1_ := q22_ (Kd.S_below q22f hb)
    have n2_ := q22_ (blk_below (g := gb490) (o := .cells #[.int .i64 x491000_4, .int .i64 x491001_4, .slice Ao26 x491002_4.length co26] 33 (0, 0)) (q22c) hb)
    have n3_ := q22_ (IsS61.below (q22b) hb)
    have n4_ := q22_ (blk_below (g := gb503) (o := .cells #[.slice Ao29 t499.length co29] 38 (0, 0)) (q22c) hb)
    have n5_ := q22_ (below_step (q22a) hb)
    clear HO_491002 HO501 BK490 HI483 BK503 HB; have HO_491002 := n0_; have HO501 := n1_; have BK490 := n2_; have HI483 := n3_; have BK503 := n4_; have HB := n5_; clear n0_ n1_ n2_ n3_ n4_ n5_
    (try clear hb)
    (try clear hb2)
    (try clear hk)
    (try clear hi)
    refine hK.out _ _ ⟨(blk_cell BK490.out 0).trans rfl, (blk_cell BK490.out 1).trans rfl, (blk_cell BK490.out 2).trans rfl, (blk_cell BK503.out 0).trans rfl⟩ (fun hHeld => ?_)
    clear hK K
    refine norm_ (a' := ?_) ?_ ?_
    rotate_left
    ·show Act.put _ (some 20) _ = _
     simp only [Act.put, List.setIfInBounds_toArray, List.set_cons_zero, List.set_cons_succ, i64_w, i32_w]
     rfl
    refine one_ (i := 5) (N := some 23) #[true, true, true, true, true, true, false, false, false, false, false] rfl rfl (one_of HT_.out (by kernel_rfl)) (by decide) (fun K hK => ?_)
    refine goes_ Try.func24 (by kernel_rfl) rfl #[.agg #[.int .i64 x491000_4, .int .i64 x491001_4, .slice Ao26 x491002_4.length co26], .agg #[.slice Ao29 t499.length co29]] (by rfl) rfl rfl q22d ?_
    with_reducible refine (awardingbodyref12_Valid.calls kj4 x491000_4 x491001_4 _ _ x491002_4 _ _ t499 t505 _ ?side1 ?side2 ?side3 ?side4 A21.out).mono ?_
    (case side1 => repeat (first | exact (Kd.R_reads' HO_491002.out).2.2 | (with_reducible refine Kd.C_alloc ?_ _) | (with_reducible refine Kd.C_drewN ?_ _) | (with_reducible refine Kd.C_drew ?_)))
    (case side2 => exact (Kd.R_reads' HO_491002.out).2.1)
    (case side3 => repeat (first | exact (Kd.S_reads' HO501.out).2.2 | (with_reducible refine Kd.C_alloc ?_ _) | (with_reducible refine Kd.C_drewN ?_ _) | (with_reducible refine Kd.C_drew ?_)))
    (case side4 => exact (Kd.S_reads' HO501.out).2.1)
    rintro e w36 ⟨rfl, hb⟩
    refine ⟨_, rfl, ?_⟩
    have n0_ := q22_ (Kd.R_below q22e hb)
    have n1_ := q22_ (Kd.S_below q22f hb)
    have n2_ := q22_ (blk_below (g := gb490) (o := .cells #[.int .i64 x491000_4, .int .i64 x491001_4, .slice Ao26 x491002_4.length co26] 33 (0, 0)) (q22c) hb)
    have n3_ := q22_ (IsS61.below (q22b) hb)
    have n4_ := q22_ (blk_below (g := gb503) (o := .cells #[.slice Ao29 t499.length co29] 38 (0, 0)) (q22c) hb)
    have n5_ := q22_ (below_step (q22a) hb)
    clear HO_491002 HO501 BK490 HI483 BK503 HB; have HO_491002 := n0_; have HO501 := n1_; have BK490 := n2_; have HI483 := n3_; have BK503 := n4_; have HB := n5_; clear n0_ n1_ n2_ n3_ n4_ n5_
    (try clear hb)
    (try clear hb2)
    (try clear hk)
    (try clear hi)
    refine hK.out _ _ ⟨(blk_cell BK490.out 0).trans rfl, (blk_cell BK490.out 1).trans rfl, (blk_cell BK490.out 2).trans rfl, (blk_cell BK503.out 0).trans rfl⟩ (fun hHeld => ?_)
    clear hK K
    refine norm_ (a' := ?_) ?_ ?_
    rotate_left
    ·show Act.put _ (some 23) _ = _
     simp only [Act.put, List.setIfInBounds_toArray, List.set_cons_zero, List.set_cons_succ, i64_w, i32_w]
     rfl
    refine pure_ (i := 6) (N := some 24) (v := ?_) (a' := ?_) #[true, true, true, true, true, true, true, false, false, false, false] rfl rfl (any_of HT_.out (by kernel_rfl)) (fun _ _ _ h => h) (Or.inl ⟨by rfl, ?_⟩) ?_ ?_
    rotate_left
    ·intro w'
     go_simp
     with_reducible rfl
    rotate_left
    ·simp only [Act.put, List.setIfInBounds_toArray, List.set_cons_zero, List.set_cons_succ, i64_w, i32_w]
     rfl
    refine pure_ (i := 7) (N := some 25) (v := ?_) (a' := ?_) #[true, true, true, true, true, true, true, true, false, false, false] rfl rfl (any_of HT_.out (by kernel_rfl)) (fun _ _ _ h => h) (Or.inl ⟨by rfl, ?_⟩) ?_ ?_
    rotate_left
    ·intro w'
     go_simp
     with_reducible rfl
    rotate_left
    ·simp only [Act.put, List.setIfInBounds_toArray, List.set_cons_zero, List.set_cons_succ, i64_w, i32_w]
     rfl
    refine one_ (i := 8) (N := some 26) #[true, true, true, true, true, true, true, true, true, false, false] rfl rfl (one_of HT_.out (by kernel_rfl)) (by decide) (fun K hK => ?_)
    refine goes_ Try.func14 (by kernel_rfl) rfl #[] (by rfl) rfl rfl q22d ?_
    with_reducible refine (awardingbodylaw12_awake.calls kj4  t506 _ A23.out).mono ?_
    rintro e w37 ⟨rfl, hb⟩
    refine ⟨_, rfl, ?_⟩
    have n0_ := q22_ (Kd.R_below q22e hb)
    have n1_ := q22_ (Kd.S_below q22f hb)
    have n2_ := q22_ (blk_below (g := gb490) (o := .cells #[.int .i64 x491000_4, .int .i64 x491001_4, .slice Ao26 x491002_4.length co26] 33 (0, 0)) (q22c) hb)
    have n3_ := q22_ (IsS61.below (q22b) hb)
    have n4_ := q22_ (blk_below (g := gb503) (o := .cells #[.slice Ao29 t499.length co29] 38 (0, 0)) (q22c) hb)
    have n5_ := q22_ (below_step (q22a) hb)
    clear HO_491002 HO501 BK490 HI483 BK503 HB; have HO_491002 := n0_; have HO501 := n1_; have BK490 := n2_; have HI483 := n3_; have BK503 := n4_; have HB := n5_; clear n0_ n1_ n2_ n3_ n4_ n5_
    (try clear hb)
    (try clear hb2)
    (try clear hk)
    (try clear hi)
    refine hK.out _ _ ⟨(blk_cell BK490.out 0).trans rfl, (blk_cell BK490.out 1).trans rfl, (blk_cell BK490.out 2).trans rfl, (blk_cell BK503.out 0).trans rfl⟩ (fun hHeld => ?_)
    clear hK K
    refine norm_ (a' := ?_) ?_ ?_
    rotate_left
    ·show Act.put _ (some 26) _ = _
     simp only [Act.put, List.setIfInBounds_toArray, List.set_cons_zero, List.set_cons_succ, i64_w, i32_w]
     rfl
    refine pure_ (i := 9) (N := some 27) (v := ?_) (a' := ?_) #[true, true, true, true, true, true, true, true, true, true, false] rfl rfl (any_of HT_.out (by kernel_rfl)) (fun _ _ _ h => h) (Or.inl ⟨by rfl, ?_⟩) ?_ ?_
    rotate_left
    ·intro w'
     go_simp
     with_reducible rfl
    rotate_left
    ·simp only [Act.put, List.setIfInBounds_toArray, List.set_cons_zero, List.set_cons_succ, i64_w, i32_w]
     rfl
    refine pure_ (i := 10) (N := some 2) (v := ?_) (a' := ?_) #[true, true, true, true, true, true, true, true, true, true, true] rfl rfl (any_of HT_.out (by kernel_rfl)) (fun _ _ _ h => h) (Or.inl ⟨by rfl, ?_⟩) ?_ ?_
    rotate_left
    ·intro w'
     go_simp
     with_reducible rfl
    rotate_left
    ·simp only [Act.put, List.setIfInBounds_toArray, List.set_cons_zero, List.set_cons_succ, i64_w, i32_w]
     rfl
    refine done_ (done_of HT_.out (by kernel_rfl)) ?_
    try go_wp2
    go_ret
    exact ⟨by first | rfl | (simp [errW_none, errW_some] <;> rfl) | (simp [*, errW_none, errW_some] <;> rfl), q22a⟩
   ·rw [if_neg c22] at H
    have c22b0 : (t504 == t505) = false := by simpa using c22
    (try (have c22b1 : decide (t504 = t505) = false := by simpa using c22))
    (try (have c22b2 : (t504 == t505) = false := by simpa using c22))
    (try (have c22b3 : ¬ (t504 = t505) := by simpa using c22))
    clear c22
    exact absurd H (by simp)

/-- THE ONE PURE STATEMENT of awardingbodylaw12_BookletValid: yours. -/
def awardingbodylaw12_BookletValid.Pure : Prop := ∀ (l0 : List Int), l0.length ≤ maxLen → l0.length * 8 ≤ 140737488351232 → (∀ x ∈ l0, (Lit.int .i64 x).wf = true) → ∃ k, awardingbodylaw12_BookletValid.f k l0 = some true
theorem awardingbodylaw12_BookletValid.walk (P : awardingbodylaw12_BookletValid.Pure) (a0 : Option Addr) (len0 cap0 : Nat) (z0 : List Int) (w : World) (w0 : (a0 = none ∧ len0 = 0 ∧ cap0 = 0 ∧ z0 = []) ∨ ∃ x, a0 = some x ∧ len0 ≤ cap0 ∧ cap0 ≤ maxLen ∧ z0.length = cap0 ∧ (∀ i, i < z0.length → w.cell? (x.add i) = some (.int .i64 (z0.getD i 0))) ∧ ∀ n ∈ z0, (Lit.int .i64 n).wf = true) (y0 : len0 * 8 ≤ 140737488351232) :
  Calls Try.prog 6 #[.slice a0 len0 cap0] w fun e w' => e = .returned (.bool true) ∧ Below w.heap.size w w' := by
 obtain ⟨l0, rfl, hr0, hm0, hw0, hc0⟩ := ReadsInt.ofRowC w0
 obtain ⟨k, h⟩ := P l0 hm0 y0 hw0
 refine (awardingbodylaw12_BookletValid.calls k _ _ l0 true w (Kd.C_of_reads (d := (0 : Int)) (h1 := fun _ => rfl) hr0) hc0 h).mono ?_
 rintro e w' ⟨rfl, hd⟩
 exact ⟨rfl, hd⟩

end Go.Proofs.Ytdmlbgdefapcjaa.Print
