-- Printed by a program of this session (wip/own_print.py) out of the translation; Lean checks it.
import Derived.Test.YtinmdoemkejanaaShort
import Derived.Test.YtinmdoemkejanaaPrint0
import Derived.Test.YtinmdoemkejanaaPrint4
import Derived.Test.YtinmdoemkejanaaPrint5
import Derived.Test.YtinmdoemkejanaaPrint7
import Derived.Test.YtinmdoemkejanaaPrint9
import Derived.Test.YtinmdoemkejanaaPrint12
import Derived.Test.YtinmdoemkejanaaPrint13
import Derived.Test.YtinmdoemkejanaaPrint14
namespace Go.Proofs.Ytinmdoemkejanaa.Print
open Go.RowKit Go.Proofs.YtinmdoemkejanaaW.PrintWords Go.Proofs.YtinmdoemkejanaaW.PrintLast Go.Proofs.YtinmdoemkejanaaW.PrintMore
attribute [local go_sem] max2_int min2_int max_two min_two max_three min_three max_four min_four   -- for this text's walks alone
set_option linter.unusedVariables false
set_option linter.unusedSimpArgs false

/-! ### awardingbodylaw06_ItemLoose: function 5 -/
def awardingbodylaw06_ItemLoose.j0 : Nat → Int → Int → ByteArray → List Int → Bool → Int → Int → ByteArray → List (S23) → List Int → Option (Bool)
  | 0, _, _, _, _, _, _, _, _, _, _ => none
  | k + 1, x1, x2, x3, x4, x28, x361000, x361001, x361002, x361003, x361004 => if x28 = true then (some true) else ((item_Check.f k x1 x361001 x361002 x361003 x361004).bind fun t365 => ((awardingbodyref06_Check.f k x1 x361001 x361002 x361003 x361004).bind fun t366 => (if t365 = t366 then ((item_Check.f k x361000 x2 x361002 x361003 x361004).bind fun t367 => ((awardingbodyref06_Check.f k x361000 x2 x361002 x361003 x361004).bind fun t368 => (if t367 = t368 then ((item_Check.f k x361000 x361001 x3 x361003 x361004).bind fun t369 => ((awardingbodyref06_Check.f k x361000 x361001 x3 x361003 x361004).bind fun t370 => (if t369 = t370 then ((item_Check.f k x361000 x361001 x361002 x361003 x4).bind fun t371 => ((awardingbodyref06_Check.f k x361000 x361001 x361002 x361003 x4).bind fun t372 => (if t371 = t372 then ((item_Total.f k x361000 x361001 x361002 x361003 x4).bind fun t373 => ((awardingbodyref06_Total.f k x361000 x361001 x361002 x361003 x4).bind fun t374 => (if t373 = t374 then ((awardingbodylaw06_awake.f k).bind fun t375 => (some t375)) else (none)))) else (none)))) else (none)))) else (none)))) else (none))))
def awardingbodylaw06_ItemLoose.f (k : Nat) (l0 : List Int) (a1 : Int) (a2 : Int) (a3 : ByteArray) (l4 : List Int) : Option (Bool) := (awardingbodymake_New.f l0).bind fun bt347 => ((awardingbodymake_Tape_Item.f k bt347.1 bt347.2 3 1 0).bind fun bt350 => (if (a3.size : Int) > 60 then (awardingbodylaw06_ItemLoose.j0 k a1 a2 a3 l4 true bt350.1 bt350.2.1 bt350.2.2.1 bt350.2.2.2.1 bt350.2.2.2.2.1) else (awardingbodylaw06_ItemLoose.j0 k a1 a2 a3 l4 (decide ((l4.length : Int) > 12)) bt350.1 bt350.2.1 bt350.2.2.1 bt350.2.2.2.1 bt350.2.2.2.2.1)))
theorem awardingbodylaw06_ItemLoose.mono_l : ∀ k, (∀ y0 y1 y2 y3 y4 y5 y6 y7 y8 y9, LeO (awardingbodylaw06_ItemLoose.j0 k y0 y1 y2 y3 y4 y5 y6 y7 y8 y9) (awardingbodylaw06_ItemLoose.j0 (k + 1) y0 y1 y2 y3 y4 y5 y6 y7 y8 y9))
  | 0 => fun _ _ _ _ _ _ _ _ _ _ r h => by simp [awardingbodylaw06_ItemLoose.j0] at h
  | k + 1 => by
    have ih0 := awardingbodylaw06_ItemLoose.mono_l k
    · intro y0 y1 y2 y3 y4 y5 y6 y7 y8 y9
      unfold awardingbodylaw06_ItemLoose.j0
      repeat' first
      | (with_reducible exact ih0 _ _ _ _ _ _ _ _ _ _)
      | (with_reducible exact awardingbodylaw06_awake.mono _)
      | (with_reducible exact awardingbodymake_Tape_Item.mono _ _ _ _ _ _)
      | (with_reducible exact awardingbodyref06_Check.mono _ _ _ _ _ _)
      | (with_reducible exact awardingbodyref06_Total.mono _ _ _ _ _ _)
      | (with_reducible exact item_Check.mono _ _ _ _ _ _)
      | (with_reducible exact item_Total.mono _ _ _ _ _ _)
      | (with_reducible exact LeO.refl _)
      | (with_reducible exact LeO.none _)
      | (with_reducible refine LeO.ite ?_ ?_)
      | (with_reducible refine LeO.bind ?_ (fun _ => ?_))
      | exact ih0 _ _ _ _ _ _ _ _ _ _
      | exact awardingbodylaw06_awake.mono _
      | exact awardingbodymake_Tape_Item.mono _ _ _ _ _ _
      | exact awardingbodyref06_Check.mono _ _ _ _ _ _
      | exact awardingbodyref06_Total.mono _ _ _ _ _ _
      | exact item_Check.mono _ _ _ _ _ _
      | exact item_Total.mono _ _ _ _ _ _
      | exact LeO.none _
      | refine LeO.ite ?_ ?_
      | refine LeO.bind ?_ (fun _ => ?_)
theorem awardingbodylaw06_ItemLoose.mono : ∀ a0 a1 a2 a3 a4 k, LeO (awardingbodylaw06_ItemLoose.f k a0 a1 a2 a3 a4) (awardingbodylaw06_ItemLoose.f (k + 1) a0 a1 a2 a3 a4) := by
  intro a0 a1 a2 a3 a4 k
  have ih0 := awardingbodylaw06_ItemLoose.mono_l k
  unfold awardingbodylaw06_ItemLoose.f
  repeat' first
      | (with_reducible exact ih0 _ _ _ _ _ _ _ _ _ _)
      | (with_reducible exact awardingbodylaw06_awake.mono _)
      | (with_reducible exact awardingbodymake_Tape_Item.mono _ _ _ _ _ _)
      | (with_reducible exact awardingbodyref06_Check.mono _ _ _ _ _ _)
      | (with_reducible exact awardingbodyref06_Total.mono _ _ _ _ _ _)
      | (with_reducible exact item_Check.mono _ _ _ _ _ _)
      | (with_reducible exact item_Total.mono _ _ _ _ _ _)
      | (with_reducible exact LeO.refl _)
      | (with_reducible exact LeO.none _)
      | (with_reducible refine LeO.ite ?_ ?_)
      | (with_reducible refine LeO.bind ?_ (fun _ => ?_))
      | exact ih0 _ _ _ _ _ _ _ _ _ _
      | exact awardingbodylaw06_awake.mono _
      | exact awardingbodymake_Tape_Item.mono _ _ _ _ _ _
      | exact awardingbodyref06_Check.mono _ _ _ _ _ _
      | exact awardingbodyref06_Total.mono _ _ _ _ _ _
      | exact item_Check.mono _ _ _ _ _ _
      | exact item_Total.mono _ _ _ _ _ _
      | exact LeO.none _
      | refine LeO.ite ?_ ?_
      | refine LeO.bind ?_ (fun _ => ?_)
def awardingbodylaw06_ItemLoose.T5 : Bool × List (List Nat × List Nat) := (true, [([], []), ([], []), ([], []), ([], []), ([], []), ([], []), ([], []), ([], []), ([4, 0, 0, 4, 5, 6, 7], [0, 4]), ([5, 1, 8, 0, 1, 4, 5, 6, 7, 8], [1, 5]), ([6, 2, 9, 0, 1, 2, 4, 5, 6, 7, 8, 9], [2, 6]), ([7, 3, 10, 0, 1, 2, 3, 4, 5, 6, 7, 8, 9, 10], [3, 7])])
def awardingbodylaw06_ItemLoose.B5 : List Nat := [0, 0, 0, 0, 0, 0, 0, 0, 241, 499, 1015, 2047]
theorem awardingbodylaw06_ItemLoose.tab5 : rtab .any (opsOf Try.f5 5) = awardingbodylaw06_ItemLoose.T5 := by kernel_rfl
theorem awardingbodylaw06_ItemLoose.bits5 : waitsOk awardingbodylaw06_ItemLoose.T5.2 awardingbodylaw06_ItemLoose.B5 = true := by kernel_rfl
def awardingbodylaw06_ItemLoose.T7 : Bool × List (List Nat × List Nat) := (true, [([], []), ([0], [0]), ([], []), ([2, 1], [2]), ([1, 3], [1, 3]), ([4, 3], [4]), ([5], [5]), ([6, 5, 5], [5, 6]), ([5], [5]), ([8, 7, 5], [5, 8]), ([7, 9, 5], [5, 7, 9]), ([5, 10], [5, 10]), ([11, 9], [11]), ([12], [12]), ([13, 12, 12], [12, 13]), ([12], [12]), ([15, 14, 12], [12, 15]), ([14, 16, 12], [12, 14, 16]), ([12, 17], [12, 17]), ([18, 16], [18]), ([19], [19]), ([20, 19, 19], [19, 20]), ([19], [19]), ([22, 21, 19], [19, 22]), ([21, 23, 19], [19, 21, 23]), ([19, 24], [19, 24]), ([25, 23], [25]), ([26], [26]), ([27, 26, 26], [26, 27]), ([26], [26]), ([29, 28, 26], [26, 29]), ([28, 30, 26], [26, 28, 30]), ([26, 31], [26, 31]), ([32, 30], [32]), ([33, 33], [33]), ([33, 34], [33, 34]), ([35, 34, 0, 1, 2, 3, 4, 5, 6, 7, 8, 9, 10, 11, 12, 13, 14, 15, 16, 17, 18, 19, 20, 21, 22, 23, 24, 25, 26, 27, 28, 29, 30, 31, 32, 33, 34, 35], [35])])
def awardingbodylaw06_ItemLoose.B7 : List Nat := [0, 1, 0, 7, 15, 31, 63, 127, 63, 511, 1023, 2047, 4095, 8191, 16383, 8191, 65535, 131071, 262143, 524287, 1048575, 2097151, 1048575, 8388607, 16777215, 33554431, 67108863, 134217727, 268435455, 134217727, 1073741823, 2147483647, 4294967295, 8589934591, 17179869183, 34359738367, 68719476735]
theorem awardingbodylaw06_ItemLoose.tab7 : rtab .any (opsOf Try.f5 7) = awardingbodylaw06_ItemLoose.T7 := by kernel_rfl
theorem awardingbodylaw06_ItemLoose.bits7 : waitsOk awardingbodylaw06_ItemLoose.T7.2 awardingbodylaw06_ItemLoose.B7 = true := by kernel_rfl
theorem q16a {p : Prop} (h : p := by (repeat (first | (with_reducible first | exact HI349.out | apply IsS54.alloc | apply IsS54.drewN | apply IsS54.drew | apply IsS54.set_1) | exact HI349.out))) : p := h
theorem q16b {p : Prop} (h : p := by ((repeat (first | (with_reducible first | refine blk_drewN ?_ _ | refine blk_drew ?_ | refine blk_alloc ?_ _) | refine blk_far ?_ (Aside0.out (by assumption)) _)); first | (with_reducible exact (Aside0.out (by assumption))) | exact (Aside0.out (by assumption)))) : p := h
theorem q16c {p : Prop} (h : p := by (first | (simp only [putAll, Act.put, List.setIfInBounds_toArray, List.set_cons_zero, List.set_cons_succ]; done) | (simp only [putAll, Act.put, List.setIfInBounds_toArray, List.set_cons_zero, List.set_cons_succ]; rfl))) : p := h
theorem q16d {p : Prop} (h : p := by ((with_reducible repeat (first | apply Kd.R_alloc | apply Kd.R_drewN | apply Kd.R_drew)); exact HO_361003.out)) : p := h
theorem q16e {p : Prop} (h : p := by ((with_reducible repeat (first | apply Kd.R_alloc | apply Kd.R_drewN | apply Kd.R_drew)); exact HO_361004.out)) : p := h
theorem q16f {p : Prop} (h : p := by ((try simp only [List.map_toArray, List.map_cons, List.map_nil]); first | done | rfl | (simp only [List.length_drop, List.length_take]; rfl))) : p := h
set_option maxHeartbeats 60000000 in
set_option maxRecDepth 100000 in
theorem awardingbodylaw06_ItemLoose.calls (k : Nat) (A0 : Option Addr) (c0 : Nat) (l0 : List Int) (a1 : Int) (a2 : Int) (a3 : ByteArray) (A4 : Option Addr) (c4 : Nat) (l4 : List Int) (r : Bool) (w : World) (hr0 : Kd.C (Kd.int .i64) w A0 l0.length l0) (hc0 : l0.length ≤ c0) (hr4 : Kd.C (Kd.int .i64) w A4 l4.length l4) (hc4 : l4.length ≤ c4) (h : awardingbodylaw06_ItemLoose.f k l0 a1 a2 a3 l4 = some r) :
    Calls Try.prog 5 #[.slice A0 l0.length c0, .int .i64 a1, .int .i64 a2, .string a3, .slice A4 l4.length c4] w fun e w' => e = .returned (.bool r) ∧ Below w.heap.size w w' := by
 have hu33 := Try.underlying33
 have HR0 := za hr0; have HC0 := za hc0; clear hr0 hc0; have HR4 := za hr4; have HC4 := za hc4; clear hr4 hc4
 have HB := za (Below.refl w.heap.size w)
 have H : ((awardingbodymake_New.f l0).bind fun bt347 => ((awardingbodymake_Tape_Item.f k bt347.1 bt347.2 3 1 0).bind fun bt350 => (if (a3.size : Int) > 60 then (awardingbodylaw06_ItemLoose.j0 k a1 a2 a3 l4 true bt350.1 bt350.2.1 bt350.2.2.1 bt350.2.2.2.1 bt350.2.2.2.2.1) else (awardingbodylaw06_ItemLoose.j0 k a1 a2 a3 l4 (decide ((l4.length : Int) > 12)) bt350.1 bt350.2.1 bt350.2.2.1 bt350.2.2.2.1 bt350.2.2.2.2.1)))) = some r := h
 clear h
 replace H := Option.bind_eq_some_iff.mp H
 obtain ⟨⟨t347, t348⟩, A60, H⟩ := H
 replace H : ((awardingbodymake_Tape_Item.f k t347 t348 3 1 0).bind fun bt350 => (if (a3.size : Int) > 60 then (awardingbodylaw06_ItemLoose.j0 k a1 a2 a3 l4 true bt350.1 bt350.2.1 bt350.2.2.1 bt350.2.2.2.1 bt350.2.2.2.2.1) else (awardingbodylaw06_ItemLoose.j0 k a1 a2 a3 l4 (decide ((l4.length : Int) > 12)) bt350.1 bt350.2.1 bt350.2.2.1 bt350.2.2.2.1 bt350.2.2.2.2.1))) = some r := H
 have A6 := za A60; clear A60
 replace H := Option.bind_eq_some_iff.mp H
 obtain ⟨⟨t350, t351, t352, t353, t356, t359⟩, A70, H⟩ := H
 replace H : (if (a3.size : Int) > 60 then (awardingbodylaw06_ItemLoose.j0 k a1 a2 a3 l4 true t350 t351 t352 t353 t356) else (awardingbodylaw06_ItemLoose.j0 k a1 a2 a3 l4 (decide ((l4.length : Int) > 12)) t350 t351 t352 t353 t356)) = some r := H
 have A7 := za A70; clear A70; have HC8 := za H; clear H
 go_enter Try.func5, Try.ntmps5
 go_upto_region 3 with (first | ((with_reducible refine gate_callee (f := 15) rfl ?_); refine zL (some 18) Try.func15 #[.slice A0 l0.length c0] ?_; (with_reducible refine (awardingbodymake_New.calls _ _ l0 t347 t348 w _ ?side1 ?side2 ?side3 A6.out).mono ?_); (case side1 => exact (by repeat (first | (with_reducible first | exact HB.out | apply below_alloc | apply pw_below_drewN | apply below_drew1) | exact HB.out))); (case side2 => exact HR0.out); (case side3 => exact HC0.out); rintro e w9 ⟨g349, rfl, hi, hb, hb2⟩; refine ⟨_, rfl, ?_⟩; have HI349 := za (hi); replace HB := za (hb); (try clear hb); (try clear hb2); (try clear hk); (try clear hi)) | ((with_reducible refine gate_callee (f := 16) rfl ?_); refine zL (some 20) Try.func16 #[.pointer (some ⟨g349, 0, none⟩), .int .i64 3, .int .i64 1, .int .i64 0] ?_; (with_reducible refine (awardingbodymake_Tape_Item.calls k g349 t347 t348 3 1 0 t350 t351 t352 t353 t356 t359 w _ ?side1 ?side2 A7.out).mono ?_); (case side1 => exact (q16a)); (case side2 => exact (by repeat (first | (with_reducible first | exact HB.out | apply below_alloc | apply pw_below_drewN | apply below_drew1 | refine below_set ?_ (IsS54.ge HI349.out)) | exact HB.out))); rintro e w10 ⟨v354, v357, rfl, ho0, ho1, hi, hb, hk⟩; refine ⟨_, rfl, ?_⟩; have HO355 := za (Kd.R_lower ho0 (below_size (zm HB))); have HO358 := za (Kd.R_lower ho1 (below_size (zm HB))); replace HB := za (hb); replace HI349 := za (hi); (try clear hb); (try clear hb2); (try clear hk); (try clear hi); (try clear ho0); (try clear ho1)) | ((with_reducible refine gate_dst (N := 12) rfl ?_); (try (refine gate_guard (by rfl) ?_; dsimp only)); refine zE 12 #[.int .i64 0, .int .i64 0, .string (⟨#[]⟩ : ByteArray), .slice none 0 0, .slice none 0 0] 33 ?_; intro gb360 hg w11 hbox hb; have BK360 := za (hbox); have GW360 := zg HB hg; have GE360 := zg HB hg; have NB349_360 := za ((by rw [hg]; exact Nat.ne_of_lt (IsS54.lt (show IsS54 w _ g349 t347 t359 from q16a)) : g349 ≠ gb360)); have NB360_349 := za ((by rw [hg]; exact Nat.ne_of_gt (IsS54.lt (show IsS54 w _ g349 t347 t359 from q16a)) : gb360 ≠ g349)); replace HO355 := zR HO355 hb; replace HO358 := zR HO358 hb; replace HI349 := za (IsS54.below (q16a) hb); replace HB := zs HB hb; clear hb hbox hg; have hnb12 := NB360_349.out; have hnc12 := NB349_360.out; obtain ⟨hcz13_0, hcz13_1, hcz13_2, hcz13_3, hcz13_4, hfz13_0, hfz13_1, hfz13_2, hfz13_3, hfz13_4⟩ := z5 BK360; obtain ⟨Ao14, co14, eo14⟩ := Kd.R_slice HO355.out; subst eo14; obtain ⟨Ao15, co15, eo15⟩ := Kd.R_slice HO358.out; subst eo15))
 (try simp only [Act.put, List.setIfInBounds_toArray, List.set_cons_zero, List.set_cons_succ])
 go_cut [28] (fun v28 wc => ∃ (kq : Nat) (x28_7 : Bool), v28 = .bool x28_7 ∧ Aside0 (awardingbodylaw06_ItemLoose.j0 kq a1 a2 a3 l4 x28_7 t350 t351 t352 t353 t356 = some r) ∧ Aside0 (kq ≤ k) ∧ Aside0 (Kd.R k23 23 wc w.heap.size (fun _ => True) (.slice Ao14 t353.length co14) t353) ∧ Aside0 (Kd.R (Kd.int .i64) 3 wc w.heap.size (fun _ => True) (.slice Ao15 t356.length co15) t356) ∧ Aside0 (wc.heap[gb360]? = some (.cells #[.int .i64 t350, .int .i64 t351, .string t352, (.slice Ao14 t353.length co14), (.slice Ao15 t356.length co15)] 33 (0, 0))) ∧ Aside0 (Below w.heap.size w wc))
 case first =>
  have H := HC8.out
  clear HC8
  by_cases c16 : (a3.size : Int) > 60
  ·rw [if_pos c16] at H
   have c16b0 : decide (60 < (a3.size : Int)) = true := decide_eq_true c16
   have c16b1 : decide (60 < a3.size) = true := decide_eq_true (by omega)
   clear c16
   (first | rw [c16b0] | (simp only [i64_w, i32_w]; rw [c16b0]) | skip)
   have H' := za H; clear H
   go_wp2
   go_meet
   case rel => exact ⟨_, (true), (by first | rfl | (simp; done) | (simp [*]; done)), H', ⟨by first | omega | exact Nat.le_refl _⟩, ⟨by (with_reducible repeat (first | apply Kd.R_alloc | apply Kd.R_drewN | apply Kd.R_drew)); exact Kd.R_mono (Kd.R_far (p := ⟨gb360, 4, none⟩) (Kd.R_far (p := ⟨gb360, 3, none⟩) (Kd.R_far (p := ⟨gb360, 2, none⟩) (Kd.R_far (p := ⟨gb360, 1, none⟩) (Kd.R_far (p := ⟨gb360, 0, none⟩) (Kd.R_types HO355.out BK360.out (by decide)) (fun _ hk => hk.2) (.int .i64 t350)) (fun _ hk => hk.2) (.int .i64 t351)) (fun _ hk => hk.2) (.string t352)) (fun _ hk => hk.2) (.slice Ao14 t353.length co14)) (fun _ hk => hk.2) (.slice Ao15 t356.length co15)) (fun _ hk => trivial)⟩, ⟨by (with_reducible repeat (first | apply Kd.R_alloc | apply Kd.R_drewN | apply Kd.R_drew)); exact Kd.R_mono (Kd.R_far (p := ⟨gb360, 4, none⟩) (Kd.R_far (p := ⟨gb360, 3, none⟩) (Kd.R_far (p := ⟨gb360, 2, none⟩) (Kd.R_far (p := ⟨gb360, 1, none⟩) (Kd.R_far (p := ⟨gb360, 0, none⟩) (Kd.R_types HO358.out BK360.out (by decide)) (fun _ hk => hk.2) (.int .i64 t350)) (fun _ hk => hk.2) (.int .i64 t351)) (fun _ hk => hk.2) (.string t352)) (fun _ hk => hk.2) (.slice Ao14 t353.length co14)) (fun _ hk => hk.2) (.slice Ao15 t356.length co15)) (fun _ hk => trivial)⟩, ⟨by (with_reducible repeat (first | refine blk_drewN ?_ _ | refine blk_drew ?_ | refine blk_alloc ?_ _)); refine blk_put (cs := #[.int .i64 t350, .int .i64 t351, .string t352, .slice Ao14 t353.length co14, .slice none 0 0]) ?_ 4 _ rfl; (with_reducible repeat (first | refine blk_drewN ?_ _ | refine blk_drew ?_ | refine blk_alloc ?_ _)); refine blk_put (cs := #[.int .i64 t350, .int .i64 t351, .string t352, .slice none 0 0, .slice none 0 0]) ?_ 3 _ rfl; (with_reducible repeat (first | refine blk_drewN ?_ _ | refine blk_drew ?_ | refine blk_alloc ?_ _)); refine blk_put (cs := #[.int .i64 t350, .int .i64 t351, .string (⟨#[]⟩ : ByteArray), .slice none 0 0, .slice none 0 0]) ?_ 2 _ rfl; (with_reducible repeat (first | refine blk_drewN ?_ _ | refine blk_drew ?_ | refine blk_alloc ?_ _)); refine blk_put (cs := #[.int .i64 t350, .int .i64 0, .string (⟨#[]⟩ : ByteArray), .slice none 0 0, .slice none 0 0]) ?_ 1 _ rfl; (with_reducible repeat (first | refine blk_drewN ?_ _ | refine blk_drew ?_ | refine blk_alloc ?_ _)); refine blk_put (cs := #[.int .i64 0, .int .i64 0, .string (⟨#[]⟩ : ByteArray), .slice none 0 0, .slice none 0 0]) ?_ 0 _ rfl; (with_reducible repeat (first | refine blk_drewN ?_ _ | refine blk_drew ?_ | refine blk_alloc ?_ _)); exact BK360.out⟩, ⟨zm HB⟩⟩
  ·rw [if_neg c16] at H
   have c16b0 : decide (60 < (a3.size : Int)) = false := decide_eq_false c16
   have c16b1 : decide (60 < a3.size) = false := decide_eq_false (by omega)
   clear c16
   (first | rw [c16b0] | (simp only [i64_w, i32_w]; rw [c16b0]) | skip)
   have H' := za H; clear H
   go_wp2
   go_meet
   case rel => exact ⟨_, (decide ((l4.length : Int) > 12)), (by first | rfl | (simp; done) | (simp [*]; done)), H', ⟨by first | omega | exact Nat.le_refl _⟩, ⟨by (with_reducible repeat (first | apply Kd.R_alloc | apply Kd.R_drewN | apply Kd.R_drew)); exact Kd.R_mono (Kd.R_far (p := ⟨gb360, 4, none⟩) (Kd.R_far (p := ⟨gb360, 3, none⟩) (Kd.R_far (p := ⟨gb360, 2, none⟩) (Kd.R_far (p := ⟨gb360, 1, none⟩) (Kd.R_far (p := ⟨gb360, 0, none⟩) (Kd.R_types HO355.out BK360.out (by decide)) (fun _ hk => hk.2) (.int .i64 t350)) (fun _ hk => hk.2) (.int .i64 t351)) (fun _ hk => hk.2) (.string t352)) (fun _ hk => hk.2) (.slice Ao14 t353.length co14)) (fun _ hk => hk.2) (.slice Ao15 t356.length co15)) (fun _ hk => trivial)⟩, ⟨by (with_reducible repeat (first | apply Kd.R_alloc | apply Kd.R_drewN | apply Kd.R_drew)); exact Kd.R_mono (Kd.R_far (p := ⟨gb360, 4, none⟩) (Kd.R_far (p := ⟨gb360, 3, none⟩) (Kd.R_far (p := ⟨gb360, 2, none⟩) (Kd.R_far (p := ⟨gb360, 1, none⟩) (Kd.R_far (p := ⟨gb360, 0, none⟩) (Kd.R_types HO358.out BK360.out (by decide)) (fun _ hk => hk.2) (.int .i64 t350)) (fun _ hk => hk.2) (.int .i64 t351)) (fun _ hk => hk.2) (.string t352)) (fun _ hk => hk.2) (.slice Ao14 t353.length co14)) (fun _ hk => hk.2) (.slice Ao15 t356.length co15)) (fun _ hk => trivial)⟩, ⟨by (with_reducible repeat (first | refine blk_drewN ?_ _ | refine blk_drew ?_ | refine blk_alloc ?_ _)); refine blk_put (cs := #[.int .i64 t350, .int .i64 t351, .string t352, .slice Ao14 t353.length co14, .slice none 0 0]) ?_ 4 _ rfl; (with_reducible repeat (first | refine blk_drewN ?_ _ | refine blk_drew ?_ | refine blk_alloc ?_ _)); refine blk_put (cs := #[.int .i64 t350, .int .i64 t351, .string t352, .slice none 0 0, .slice none 0 0]) ?_ 3 _ rfl; (with_reducible repeat (first | refine blk_drewN ?_ _ | refine blk_drew ?_ | refine blk_alloc ?_ _)); refine blk_put (cs := #[.int .i64 t350, .int .i64 t351, .string (⟨#[]⟩ : ByteArray), .slice none 0 0, .slice none 0 0]) ?_ 2 _ rfl; (with_reducible repeat (first | refine blk_drewN ?_ _ | refine blk_drew ?_ | refine blk_alloc ?_ _)); refine blk_put (cs := #[.int .i64 t350, .int .i64 0, .string (⟨#[]⟩ : ByteArray), .slice none 0 0, .slice none 0 0]) ?_ 1 _ rfl; (with_reducible repeat (first | refine blk_drewN ?_ _ | refine blk_drew ?_ | refine blk_alloc ?_ _)); refine blk_put (cs := #[.int .i64 0, .int .i64 0, .string (⟨#[]⟩ : ByteArray), .slice none 0 0, .slice none 0 0]) ?_ 0 _ rfl; (with_reducible repeat (first | refine blk_drewN ?_ _ | refine blk_drew ?_ | refine blk_alloc ?_ _)); exact BK360.out⟩, ⟨zm HB⟩⟩
 case rest =>
  clear HC8; (try clear c1); (try clear p2); (try clear c4); (try clear c5); (try clear c12); (try clear c15); (try clear c16); (try clear c16b0); (try clear c16b1); (try clear hcz13_0); (try clear hcz13_1); (try clear hcz13_2); (try clear hcz13_3); (try clear hcz13_4); (try clear hfz13_0); (try clear hfz13_1); (try clear hfz13_2); (try clear hfz13_3); (try clear hfz13_4)
  obtain ⟨kq, x28_7, rfl, HA, HJ7, HO_361003, HO_361004, BK360, HB⟩ := hcut
  cases kq with
  | zero => exact absurd HA.out (by simp [awardingbodylaw06_ItemLoose.j0])
  | succ kj7 =>
   have H := HA.out
   clear HA
   simp only [awardingbodylaw06_ItemLoose.j0] at H
   by_cases c17 : x28_7 = true
   ·subst c17
    have H1 : (some true) = some r := by rw [if_pos rfl] at H; exact H
    clear H; have H := H1; clear H1
    obtain rfl := Option.some.inj H
    go_wp2
    go_ret
    exact ⟨zf, zm HB⟩
   ·replace c17 := Bool.eq_false_iff.mpr c17
    subst c17
    have H1 : ((item_Check.f kj7 a1 t351 t352 t353 t356).bind fun t365 => ((awardingbodyref06_Check.f kj7 a1 t351 t352 t353 t356).bind fun t366 => (if t365 = t366 then ((item_Check.f kj7 t350 a2 t352 t353 t356).bind fun t367 => ((awardingbodyref06_Check.f kj7 t350 a2 t352 t353 t356).bind fun t368 => (if t367 = t368 then ((item_Check.f kj7 t350 t351 a3 t353 t356).bind fun t369 => ((awardingbodyref06_Check.f kj7 t350 t351 a3 t353 t356).bind fun t370 => (if t369 = t370 then ((item_Check.f kj7 t350 t351 t352 t353 l4).bind fun t371 => ((awardingbodyref06_Check.f kj7 t350 t351 t352 t353 l4).bind fun t372 => (if t371 = t372 then ((item_Total.f kj7 t350 t351 t352 t353 l4).bind fun t373 => ((awardingbodyref06_Total.f kj7 t350 t351 t352 t353 l4).bind fun t374 => (if t373 = t374 then ((awardingbodylaw06_awake.f kj7).bind fun t375 => (some t375)) else (none)))) else (none)))) else (none)))) else (none)))) else (none)))) = some r := by rw [if_neg (show ¬ (false = true) by decide)] at H; exact H
    clear H; have H := H1; clear H1
    replace H := Option.bind_eq_some_iff.mp H
    obtain ⟨t365, A180, H⟩ := H
    replace H : ((awardingbodyref06_Check.f kj7 a1 t351 t352 t353 t356).bind fun t366 => (if t365 = t366 then ((item_Check.f kj7 t350 a2 t352 t353 t356).bind fun t367 => ((awardingbodyref06_Check.f kj7 t350 a2 t352 t353 t356).bind fun t368 => (if t367 = t368 then ((item_Check.f kj7 t350 t351 a3 t353 t356).bind fun t369 => ((awardingbodyref06_Check.f kj7 t350 t351 a3 t353 t356).bind fun t370 => (if t369 = t370 then ((item_Check.f kj7 t350 t351 t352 t353 l4).bind fun t371 => ((awardingbodyref06_Check.f kj7 t350 t351 t352 t353 l4).bind fun t372 => (if t371 = t372 then ((item_Total.f kj7 t350 t351 t352 t353 l4).bind fun t373 => ((awardingbodyref06_Total.f kj7 t350 t351 t352 t353 l4).bind fun t374 => (if t373 = t374 then ((awardingbodylaw06_awake.f kj7).bind fun t375 => (some t375)) else (none)))) else (none)))) else (none)))) else (none)))) else (none))) = some r := H
    have A18 := za A180; clear A180
    replace H := Option.bind_eq_some_iff.mp H
    obtain ⟨t366, A190, H⟩ := H
    replace H : (if t365 = t366 then ((item_Check.f kj7 t350 a2 t352 t353 t356).bind fun t367 => ((awardingbodyref06_Check.f kj7 t350 a2 t352 t353 t356).bind fun t368 => (if t367 = t368 then ((item_Check.f kj7 t350 t351 a3 t353 t356).bind fun t369 => ((awardingbodyref06_Check.f kj7 t350 t351 a3 t353 t356).bind fun t370 => (if t369 = t370 then ((item_Check.f kj7 t350 t351 t352 t353 l4).bind fun t371 => ((awardingbodyref06_Check.f kj7 t350 t351 t352 t353 l4).bind fun t372 => (if t371 = t372 then ((item_Total.f kj7 t350 t351 t352 t353 l4).bind fun t373 => ((awardingbodyref06_Total.f kj7 t350 t351 t352 t353 l4).bind fun t374 => (if t373 = t374 then ((awardingbodylaw06_awake.f kj7).bind fun t375 => (some t375)) else (none)))) else (none)))) else (none)))) else (none)))) else (none)) = some r := H
    have A19 := za A190; clear A190
    by_cases c20 : t365 = t366
    ·rw [if_pos c20] at H
     have c20b0 : (t365 == t366) = true := beq_iff_eq.mpr c20
     have c20b1 : (t365 != t366) = false := bne_eq_false_iff_eq.mpr c20
     clear c20
     replace H := Option.bind_eq_some_iff.mp H
     obtain ⟨t367, A210, H⟩ := H
     replace H : ((awardingbodyref06_Check.f kj7 t350 a2 t352 t353 t356).bind fun t368 => (if t367 = t368 then ((item_Check.f kj7 t350 t351 a3 t353 t356).bind fun t369 => ((awardingbodyref06_Check.f kj7 t350 t351 a3 t353 t356).bind fun t370 => (if t369 = t370 then ((item_Check.f kj7 t350 t351 t352 t353 l4).bind fun t371 => ((awardingbodyref06_Check.f kj7 t350 t351 t352 t353 l4).bind fun t372 => (if t371 = t372 then ((item_Total.f kj7 t350 t351 t352 t353 l4).bind fun t373 => ((awardingbodyref06_Total.f kj7 t350 t351 t352 t353 l4).bind fun t374 => (if t373 = t374 then ((awardingbodylaw06_awake.f kj7).bind fun t375 => (some t375)) else (none)))) else (none)))) else (none)))) else (none))) = some r := H
     have A21 := za A210; clear A210
     replace H := Option.bind_eq_some_iff.mp H
     obtain ⟨t368, A220, H⟩ := H
     replace H : (if t367 = t368 then ((item_Check.f kj7 t350 t351 a3 t353 t356).bind fun t369 => ((awardingbodyref06_Check.f kj7 t350 t351 a3 t353 t356).bind fun t370 => (if t369 = t370 then ((item_Check.f kj7 t350 t351 t352 t353 l4).bind fun t371 => ((awardingbodyref06_Check.f kj7 t350 t351 t352 t353 l4).bind fun t372 => (if t371 = t372 then ((item_Total.f kj7 t350 t351 t352 t353 l4).bind fun t373 => ((awardingbodyref06_Total.f kj7 t350 t351 t352 t353 l4).bind fun t374 => (if t373 = t374 then ((awardingbodylaw06_awake.f kj7).bind fun t375 => (some t375)) else (none)))) else (none)))) else (none)))) else (none)) = some r := H
     have A22 := za A220; clear A220
     by_cases c23 : t367 = t368
     ·rw [if_pos c23] at H
      have c23b0 : (t367 == t368) = true := beq_iff_eq.mpr c23
      have c23b1 : (t367 != t368) = false := bne_eq_false_iff_eq.mpr c23
      clear c23
      replace H := Option.bind_eq_some_iff.mp H
      obtain ⟨t369, A240, H⟩ := H
      replace H : ((awardingbodyref06_Check.f kj7 t350 t351 a3 t353 t356).bind fun t370 => (if t369 = t370 then ((item_Check.f kj7 t350 t351 t352 t353 l4).bind fun t371 => ((awardingbodyref06_Check.f kj7 t350 t351 t352 t353 l4).bind fun t372 => (if t371 = t372 then ((item_Total.f kj7 t350 t351 t352 t353 l4).bind fun t373 => ((awardingbodyref06_Total.f kj7 t350 t351 t352 t353 l4).bind fun t374 => (if t373 = t374 then ((awardingbodylaw06_awake.f kj7).bind fun t375 => (some t375)) else (none)))) else (none)))) else (none))) = some r := H
      have A24 := za A240; clear A240
      replace H := Option.bind_eq_some_iff.mp H
      obtain ⟨t370, A250, H⟩ := H
      replace H : (if t369 = t370 then ((item_Check.f kj7 t350 t351 t352 t353 l4).bind fun t371 => ((awardingbodyref06_Check.f kj7 t350 t351 t352 t353 l4).bind fun t372 => (if t371 = t372 then ((item_Total.f kj7 t350 t351 t352 t353 l4).bind fun t373 => ((awardingbodyref06_Total.f kj7 t350 t351 t352 t353 l4).bind fun t374 => (if t373 = t374 then ((awardingbodylaw06_awake.f kj7).bind fun t375 => (some t375)) else (none)))) else (none)))) else (none)) = some r := H
      have A25 := za A250; clear A250
      by_cases c26 : t369 = t370
      ·rw [if_pos c26] at H
       have c26b0 : (t369 == t370) = true := beq_iff_eq.mpr c26
       have c26b1 : (t369 != t370) = false := bne_eq_false_iff_eq.mpr c26
       clear c26
       replace H := Option.bind_eq_some_iff.mp H
       obtain ⟨t371, A270, H⟩ := H
       replace H : ((awardingbodyref06_Check.f kj7 t350 t351 t352 t353 l4).bind fun t372 => (if t371 = t372 then ((item_Total.f kj7 t350 t351 t352 t353 l4).bind fun t373 => ((awardingbodyref06_Total.f kj7 t350 t351 t352 t353 l4).bind fun t374 => (if t373 = t374 then ((awardingbodylaw06_awake.f kj7).bind fun t375 => (some t375)) else (none)))) else (none))) = some r := H
       have A27 := za A270; clear A270
       replace H := Option.bind_eq_some_iff.mp H
       obtain ⟨t372, A280, H⟩ := H
       replace H : (if t371 = t372 then ((item_Total.f kj7 t350 t351 t352 t353 l4).bind fun t373 => ((awardingbodyref06_Total.f kj7 t350 t351 t352 t353 l4).bind fun t374 => (if t373 = t374 then ((awardingbodylaw06_awake.f kj7).bind fun t375 => (some t375)) else (none)))) else (none)) = some r := H
       have A28 := za A280; clear A280
       by_cases c29 : t371 = t372
       ·rw [if_pos c29] at H
        have c29b0 : (t371 == t372) = true := beq_iff_eq.mpr c29
        have c29b1 : (t371 != t372) = false := bne_eq_false_iff_eq.mpr c29
        clear c29
        replace H := Option.bind_eq_some_iff.mp H
        obtain ⟨t373, A300, H⟩ := H
        replace H : ((awardingbodyref06_Total.f kj7 t350 t351 t352 t353 l4).bind fun t374 => (if t373 = t374 then ((awardingbodylaw06_awake.f kj7).bind fun t375 => (some t375)) else (none))) = some r := H
        have A30 := za A300; clear A300
        replace H := Option.bind_eq_some_iff.mp H
        obtain ⟨t374, A310, H⟩ := H
        replace H : (if t373 = t374 then ((awardingbodylaw06_awake.f kj7).bind fun t375 => (some t375)) else (none)) = some r := H
        have A31 := za A310; clear A310
        by_cases c32 : t373 = t374
        ·rw [if_pos c32] at H
         have c32b0 : (t373 == t374) = true := beq_iff_eq.mpr c32
         have c32b1 : (t373 != t374) = false := bne_eq_false_iff_eq.mpr c32
         clear c32
         replace H := Option.bind_eq_some_iff.mp H
         obtain ⟨t375, A330, H⟩ := H
         replace H : (some t375) = some r := H
         have A33 := za A330; clear A330
         obtain rfl := Option.some.inj H
         try go_wp2
         replace HO_361003 := za (Kd.R_drew HO_361003.out)
         replace HO_361004 := za (Kd.R_drew HO_361004.out)
         replace BK360 := za (blk_drew BK360.out)
         replace HB := za (below_drew1 HB.out)
         refine start_ (n := 12) (S := fun w' => w'.cell? ⟨gb360, 0, none⟩ = some (.int .i64 t350) ∧ w'.cell? ⟨gb360, 1, none⟩ = some (.int .i64 t351) ∧ w'.cell? ⟨gb360, 2, none⟩ = some (.string t352) ∧ w'.cell? ⟨gb360, 3, none⟩ = some (.slice Ao14 t353.length co14) ∧ w'.cell? ⟨gb360, 4, none⟩ = some (.slice Ao15 t356.length co15)) (ds := []) #[false, false, false, false, false, false, false, false, false, false, false, false] (by kernel_rfl) rfl rfl ⟨(blk_cell BK360.out 0).trans rfl, (blk_cell BK360.out 1).trans rfl, (blk_cell BK360.out 2).trans rfl, (blk_cell BK360.out 3).trans rfl, (blk_cell BK360.out 4).trans rfl⟩ (fun hHeld => ?_); refine with_tabW awardingbodylaw06_ItemLoose.tab5 awardingbodylaw06_ItemLoose.bits5 (fun HT_ HW_ => ?_)
         generalize wc.drew = w34 at HO_361003 HO_361004 BK360 HB hHeld ⊢
         refine take_ (i := 0) (N := some 29) (v := ?_) (a' := ?_) #[true, false, false, false, false, false, false, false, false, false, false, false] rfl rfl (take_ofW HT_.out HW_.out (by kernel_rfl)) (fun _ _ _ h => h) (Or.inl ⟨by rfl, ?_⟩) hHeld ?_ ?_
         rotate_left
         ·rintro w' ⟨s0, s1, s2, s3, s4⟩
          go_simp
          with_reducible rfl
         rotate_left
         ·simp only [Act.put, List.setIfInBounds_toArray, List.set_cons_zero, List.set_cons_succ, i64_w, i32_w]
          rfl
         refine take_ (i := 1) (N := some 30) (v := ?_) (a' := ?_) #[true, true, false, false, false, false, false, false, false, false, false, false] rfl rfl (take_ofW HT_.out HW_.out (by kernel_rfl)) (fun _ _ _ h => h) (Or.inl ⟨by rfl, ?_⟩) hHeld ?_ ?_
         rotate_left
         ·rintro w' ⟨s0, s1, s2, s3, s4⟩
          go_simp
          with_reducible rfl
         rotate_left
         ·simp only [Act.put, List.setIfInBounds_toArray, List.set_cons_zero, List.set_cons_succ, i64_w, i32_w]
          rfl
         refine take_ (i := 2) (N := some 31) (v := ?_) (a' := ?_) #[true, true, true, false, false, false, false, false, false, false, false, false] rfl rfl (take_ofW HT_.out HW_.out (by kernel_rfl)) (fun _ _ _ h => h) (Or.inl ⟨by rfl, ?_⟩) hHeld ?_ ?_
         rotate_left
         ·rintro w' ⟨s0, s1, s2, s3, s4⟩
          go_simp
          with_reducible rfl
         rotate_left
         ·simp only [Act.put, List.setIfInBounds_toArray, List.set_cons_zero, List.set_cons_succ, i64_w, i32_w]
          rfl
         refine take_ (i := 3) (N := some 32) (v := ?_) (a' := ?_) #[true, true, true, true, false, false, false, false, false, false, false, false] rfl rfl (take_ofW HT_.out HW_.out (by kernel_rfl)) (fun _ _ _ h => h) (Or.inl ⟨by rfl, ?_⟩) hHeld ?_ ?_
         rotate_left
         ·rintro w' ⟨s0, s1, s2, s3, s4⟩
          go_simp
          with_reducible rfl
         rotate_left
         ·simp only [Act.put, List.setIfInBounds_toArray, List.set_cons_zero, List.set_cons_succ, i64_w, i32_w]
          rfl
         refine join_ (σ := Nat × Nat × Nat × Nat) 4 #[true, true, true, true, true, true, true, true, false, false, false, false] (fun s_ => [(13, .pointer (some ⟨s_.1, 0, none⟩)), (14, .pointer (some ⟨s_.2.1, 0, none⟩)), (15, .pointer (some ⟨s_.2.2.1, 0, none⟩)), (16, .pointer (some ⟨s_.2.2.2, 0, none⟩))]) (fun s_ w' => (w'.cell? ⟨gb360, 0, none⟩ = some (.int .i64 t350) ∧ w'.cell? ⟨gb360, 1, none⟩ = some (.int .i64 t351) ∧ w'.cell? ⟨gb360, 2, none⟩ = some (.string t352) ∧ w'.cell? ⟨gb360, 3, none⟩ = some (.slice Ao14 t353.length co14) ∧ w'.cell? ⟨gb360, 4, none⟩ = some (.slice Ao15 t356.length co15)) ∧ (Kd.R k23 23 w' w.heap.size (fun _ => True) (.slice Ao14 t353.length co14) t353) ∧ (Kd.R (Kd.int .i64) 3 w' w.heap.size (fun _ => True) (.slice Ao15 t356.length co15) t356) ∧ (w'.heap[gb360]? = some (.cells #[.int .i64 t350, .int .i64 t351, .string t352, .slice Ao14 t353.length co14, .slice Ao15 t356.length co15] 33 (0, 0))) ∧ (w'.heap[s_.1]? = some (.cells #[.int .i64 0, .int .i64 0, .string (⟨#[]⟩ : ByteArray), .slice none 0 0, .slice none 0 0] 33 (0, 0))) ∧ (w'.heap[s_.2.1]? = some (.cells #[.int .i64 0, .int .i64 0, .string (⟨#[]⟩ : ByteArray), .slice none 0 0, .slice none 0 0] 33 (0, 0))) ∧ (w'.heap[s_.2.2.1]? = some (.cells #[.int .i64 0, .int .i64 0, .string (⟨#[]⟩ : ByteArray), .slice none 0 0, .slice none 0 0] 33 (0, 0))) ∧ (w'.heap[s_.2.2.2]? = some (.cells #[.int .i64 0, .int .i64 0, .string (⟨#[]⟩ : ByteArray), .slice none 0 0, .slice none 0 0] 33 (0, 0))) ∧ (w.heap.size ≤ s_.1) ∧ (w.heap.size ≤ s_.1) ∧ (gb360 ≠ s_.1) ∧ (s_.1 ≠ gb360) ∧ (s_.2.1 ≠ s_.1) ∧ (s_.1 ≠ s_.2.1) ∧ (s_.2.2.1 ≠ s_.1) ∧ (s_.1 ≠ s_.2.2.1) ∧ (s_.2.2.2 ≠ s_.1) ∧ (s_.1 ≠ s_.2.2.2) ∧ (w.heap.size ≤ s_.2.1) ∧ (w.heap.size ≤ s_.2.1) ∧ (gb360 ≠ s_.2.1) ∧ (s_.2.1 ≠ gb360) ∧ (s_.2.2.1 ≠ s_.2.1) ∧ (s_.2.1 ≠ s_.2.2.1) ∧ (s_.2.2.2 ≠ s_.2.1) ∧ (s_.2.1 ≠ s_.2.2.2) ∧ (w.heap.size ≤ s_.2.2.1) ∧ (w.heap.size ≤ s_.2.2.1) ∧ (gb360 ≠ s_.2.2.1) ∧ (s_.2.2.1 ≠ gb360) ∧ (s_.2.2.2 ≠ s_.2.2.1) ∧ (s_.2.2.1 ≠ s_.2.2.2) ∧ (w.heap.size ≤ s_.2.2.2) ∧ (w.heap.size ≤ s_.2.2.2) ∧ (gb360 ≠ s_.2.2.2) ∧ (s_.2.2.2 ≠ gb360) ∧ (Below w.heap.size w w')) ?_ ?_
         rotate_left
         ·intro hJ4_5_6_7
          refine join_ (σ := Nat × Nat × Nat) 5 #[true, true, true, true, true, true, true, false, false, false, false, false] (fun s_ => [(13, .pointer (some ⟨s_.1, 0, none⟩)), (14, .pointer (some ⟨s_.2.1, 0, none⟩)), (15, .pointer (some ⟨s_.2.2, 0, none⟩))]) (fun s_ w' => (w'.cell? ⟨gb360, 0, none⟩ = some (.int .i64 t350) ∧ w'.cell? ⟨gb360, 1, none⟩ = some (.int .i64 t351) ∧ w'.cell? ⟨gb360, 2, none⟩ = some (.string t352) ∧ w'.cell? ⟨gb360, 3, none⟩ = some (.slice Ao14 t353.length co14) ∧ w'.cell? ⟨gb360, 4, none⟩ = some (.slice Ao15 t356.length co15)) ∧ (Kd.R k23 23 w' w.heap.size (fun _ => True) (.slice Ao14 t353.length co14) t353) ∧ (Kd.R (Kd.int .i64) 3 w' w.heap.size (fun _ => True) (.slice Ao15 t356.length co15) t356) ∧ (w'.heap[gb360]? = some (.cells #[.int .i64 t350, .int .i64 t351, .string t352, .slice Ao14 t353.length co14, .slice Ao15 t356.length co15] 33 (0, 0))) ∧ (w'.heap[s_.1]? = some (.cells #[.int .i64 0, .int .i64 0, .string (⟨#[]⟩ : ByteArray), .slice none 0 0, .slice none 0 0] 33 (0, 0))) ∧ (w'.heap[s_.2.1]? = some (.cells #[.int .i64 0, .int .i64 0, .string (⟨#[]⟩ : ByteArray), .slice none 0 0, .slice none 0 0] 33 (0, 0))) ∧ (w'.heap[s_.2.2]? = some (.cells #[.int .i64 0, .int .i64 0, .string (⟨#[]⟩ : ByteArray), .slice none 0 0, .slice none 0 0] 33 (0, 0))) ∧ (w.heap.size ≤ s_.1) ∧ (w.heap.size ≤ s_.1) ∧ (gb360 ≠ s_.1) ∧ (s_.1 ≠ gb360) ∧ (s_.2.1 ≠ s_.1) ∧ (s_.1 ≠ s_.2.1) ∧ (s_.2.2 ≠ s_.1) ∧ (s_.1 ≠ s_.2.2) ∧ (w.heap.size ≤ s_.2.1) ∧ (w.heap.size ≤ s_.2.1) ∧ (gb360 ≠ s_.2.1) ∧ (s_.2.1 ≠ gb360) ∧ (s_.2.2 ≠ s_.2.1) ∧ (s_.2.1 ≠ s_.2.2) ∧ (w.heap.size ≤ s_.2.2) ∧ (w.heap.size ≤ s_.2.2) ∧ (gb360 ≠ s_.2.2) ∧ (s_.2.2 ≠ gb360) ∧ (Below w.heap.size w w')) ?_ ?_
          rotate_left
          ·intro hJ4_5_6
           refine join_ (σ := Nat × Nat × Nat) 5 #[true, true, true, true, true, true, false, true, false, false, false, false] (fun s_ => [(13, .pointer (some ⟨s_.1, 0, none⟩)), (14, .pointer (some ⟨s_.2.1, 0, none⟩)), (16, .pointer (some ⟨s_.2.2, 0, none⟩))]) (fun s_ w' => (w'.cell? ⟨gb360, 0, none⟩ = some (.int .i64 t350) ∧ w'.cell? ⟨gb360, 1, none⟩ = some (.int .i64 t351) ∧ w'.cell? ⟨gb360, 2, none⟩ = some (.string t352) ∧ w'.cell? ⟨gb360, 3, none⟩ = some (.slice Ao14 t353.length co14) ∧ w'.cell? ⟨gb360, 4, none⟩ = some (.slice Ao15 t356.length co15)) ∧ (Kd.R k23 23 w' w.heap.size (fun _ => True) (.slice Ao14 t353.length co14) t353) ∧ (Kd.R (Kd.int .i64) 3 w' w.heap.size (fun _ => True) (.slice Ao15 t356.length co15) t356) ∧ (w'.heap[gb360]? = some (.cells #[.int .i64 t350, .int .i64 t351, .string t352, .slice Ao14 t353.length co14, .slice Ao15 t356.length co15] 33 (0, 0))) ∧ (w'.heap[s_.1]? = some (.cells #[.int .i64 0, .int .i64 0, .string (⟨#[]⟩ : ByteArray), .slice none 0 0, .slice none 0 0] 33 (0, 0))) ∧ (w'.heap[s_.2.1]? = some (.cells #[.int .i64 0, .int .i64 0, .string (⟨#[]⟩ : ByteArray), .slice none 0 0, .slice none 0 0] 33 (0, 0))) ∧ (w'.heap[s_.2.2]? = some (.cells #[.int .i64 0, .int .i64 0, .string (⟨#[]⟩ : ByteArray), .slice none 0 0, .slice none 0 0] 33 (0, 0))) ∧ (w.heap.size ≤ s_.1) ∧ (w.heap.size ≤ s_.1) ∧ (gb360 ≠ s_.1) ∧ (s_.1 ≠ gb360) ∧ (s_.2.1 ≠ s_.1) ∧ (s_.1 ≠ s_.2.1) ∧ (s_.2.2 ≠ s_.1) ∧ (s_.1 ≠ s_.2.2) ∧ (w.heap.size ≤ s_.2.1) ∧ (w.heap.size ≤ s_.2.1) ∧ (gb360 ≠ s_.2.1) ∧ (s_.2.1 ≠ gb360) ∧ (s_.2.2 ≠ s_.2.1) ∧ (s_.2.1 ≠ s_.2.2) ∧ (w.heap.size ≤ s_.2.2) ∧ (w.heap.size ≤ s_.2.2) ∧ (gb360 ≠ s_.2.2) ∧ (s_.2.2 ≠ gb360) ∧ (Below w.heap.size w w')) ?_ ?_
           rotate_left
           ·intro hJ4_5_7
            refine join_ (σ := Nat × Nat × Nat) 5 #[true, true, true, true, true, false, true, true, false, false, false, false] (fun s_ => [(13, .pointer (some ⟨s_.1, 0, none⟩)), (15, .pointer (some ⟨s_.2.1, 0, none⟩)), (16, .pointer (some ⟨s_.2.2, 0, none⟩))]) (fun s_ w' => (w'.cell? ⟨gb360, 0, none⟩ = some (.int .i64 t350) ∧ w'.cell? ⟨gb360, 1, none⟩ = some (.int .i64 t351) ∧ w'.cell? ⟨gb360, 2, none⟩ = some (.string t352) ∧ w'.cell? ⟨gb360, 3, none⟩ = some (.slice Ao14 t353.length co14) ∧ w'.cell? ⟨gb360, 4, none⟩ = some (.slice Ao15 t356.length co15)) ∧ (Kd.R k23 23 w' w.heap.size (fun _ => True) (.slice Ao14 t353.length co14) t353) ∧ (Kd.R (Kd.int .i64) 3 w' w.heap.size (fun _ => True) (.slice Ao15 t356.length co15) t356) ∧ (w'.heap[gb360]? = some (.cells #[.int .i64 t350, .int .i64 t351, .string t352, .slice Ao14 t353.length co14, .slice Ao15 t356.length co15] 33 (0, 0))) ∧ (w'.heap[s_.1]? = some (.cells #[.int .i64 0, .int .i64 0, .string (⟨#[]⟩ : ByteArray), .slice none 0 0, .slice none 0 0] 33 (0, 0))) ∧ (w'.heap[s_.2.1]? = some (.cells #[.int .i64 0, .int .i64 0, .string (⟨#[]⟩ : ByteArray), .slice none 0 0, .slice none 0 0] 33 (0, 0))) ∧ (w'.heap[s_.2.2]? = some (.cells #[.int .i64 0, .int .i64 0, .string (⟨#[]⟩ : ByteArray), .slice none 0 0, .slice none 0 0] 33 (0, 0))) ∧ (w.heap.size ≤ s_.1) ∧ (w.heap.size ≤ s_.1) ∧ (gb360 ≠ s_.1) ∧ (s_.1 ≠ gb360) ∧ (s_.2.1 ≠ s_.1) ∧ (s_.1 ≠ s_.2.1) ∧ (s_.2.2 ≠ s_.1) ∧ (s_.1 ≠ s_.2.2) ∧ (w.heap.size ≤ s_.2.1) ∧ (w.heap.size ≤ s_.2.1) ∧ (gb360 ≠ s_.2.1) ∧ (s_.2.1 ≠ gb360) ∧ (s_.2.2 ≠ s_.2.1) ∧ (s_.2.1 ≠ s_.2.2) ∧ (w.heap.size ≤ s_.2.2) ∧ (w.heap.size ≤ s_.2.2) ∧ (gb360 ≠ s_.2.2) ∧ (s_.2.2 ≠ gb360) ∧ (Below w.heap.size w w')) ?_ ?_
            rotate_left
            ·intro hJ4_6_7
             refine join_ (σ := Nat × Nat × Nat) 5 #[true, true, true, true, false, true, true, true, false, false, false, false] (fun s_ => [(14, .pointer (some ⟨s_.1, 0, none⟩)), (15, .pointer (some ⟨s_.2.1, 0, none⟩)), (16, .pointer (some ⟨s_.2.2, 0, none⟩))]) (fun s_ w' => (w'.cell? ⟨gb360, 0, none⟩ = some (.int .i64 t350) ∧ w'.cell? ⟨gb360, 1, none⟩ = some (.int .i64 t351) ∧ w'.cell? ⟨gb360, 2, none⟩ = some (.string t352) ∧ w'.cell? ⟨gb360, 3, none⟩ = some (.slice Ao14 t353.length co14) ∧ w'.cell? ⟨gb360, 4, none⟩ = some (.slice Ao15 t356.length co15)) ∧ (Kd.R k23 23 w' w.heap.size (fun _ => True) (.slice Ao14 t353.length co14) t353) ∧ (Kd.R (Kd.int .i64) 3 w' w.heap.size (fun _ => True) (.slice Ao15 t356.length co15) t356) ∧ (w'.heap[gb360]? = some (.cells #[.int .i64 t350, .int .i64 t351, .string t352, .slice Ao14 t353.length co14, .slice Ao15 t356.length co15] 33 (0, 0))) ∧ (w'.heap[s_.1]? = some (.cells #[.int .i64 0, .int .i64 0, .string (⟨#[]⟩ : ByteArray), .slice none 0 0, .slice none 0 0] 33 (0, 0))) ∧ (w'.heap[s_.2.1]? = some (.cells #[.int .i64 0, .int .i64 0, .string (⟨#[]⟩ : ByteArray), .slice none 0 0, .slice none 0 0] 33 (0, 0))) ∧ (w'.heap[s_.2.2]? = some (.cells #[.int .i64 0, .int .i64 0, .string (⟨#[]⟩ : ByteArray), .slice none 0 0, .slice none 0 0] 33 (0, 0))) ∧ (w.heap.size ≤ s_.1) ∧ (w.heap.size ≤ s_.1) ∧ (gb360 ≠ s_.1) ∧ (s_.1 ≠ gb360) ∧ (s_.2.1 ≠ s_.1) ∧ (s_.1 ≠ s_.2.1) ∧ (s_.2.2 ≠ s_.1) ∧ (s_.1 ≠ s_.2.2) ∧ (w.heap.size ≤ s_.2.1) ∧ (w.heap.size ≤ s_.2.1) ∧ (gb360 ≠ s_.2.1) ∧ (s_.2.1 ≠ gb360) ∧ (s_.2.2 ≠ s_.2.1) ∧ (s_.2.1 ≠ s_.2.2) ∧ (w.heap.size ≤ s_.2.2) ∧ (w.heap.size ≤ s_.2.2) ∧ (gb360 ≠ s_.2.2) ∧ (s_.2.2 ≠ gb360) ∧ (Below w.heap.size w w')) ?_ ?_
             rotate_left
             ·intro hJ5_6_7
              refine join_ (σ := Nat × Nat) 6 #[true, true, true, true, true, true, false, false, false, false, false, false] (fun s_ => [(13, .pointer (some ⟨s_.1, 0, none⟩)), (14, .pointer (some ⟨s_.2, 0, none⟩))]) (fun s_ w' => (w'.cell? ⟨gb360, 0, none⟩ = some (.int .i64 t350) ∧ w'.cell? ⟨gb360, 1, none⟩ = some (.int .i64 t351) ∧ w'.cell? ⟨gb360, 2, none⟩ = some (.string t352) ∧ w'.cell? ⟨gb360, 3, none⟩ = some (.slice Ao14 t353.length co14) ∧ w'.cell? ⟨gb360, 4, none⟩ = some (.slice Ao15 t356.length co15)) ∧ (Kd.R k23 23 w' w.heap.size (fun _ => True) (.slice Ao14 t353.length co14) t353) ∧ (Kd.R (Kd.int .i64) 3 w' w.heap.size (fun _ => True) (.slice Ao15 t356.length co15) t356) ∧ (w'.heap[gb360]? = some (.cells #[.int .i64 t350, .int .i64 t351, .string t352, .slice Ao14 t353.length co14, .slice Ao15 t356.length co15] 33 (0, 0))) ∧ (w'.heap[s_.1]? = some (.cells #[.int .i64 0, .int .i64 0, .string (⟨#[]⟩ : ByteArray), .slice none 0 0, .slice none 0 0] 33 (0, 0))) ∧ (w'.heap[s_.2]? = some (.cells #[.int .i64 0, .int .i64 0, .string (⟨#[]⟩ : ByteArray), .slice none 0 0, .slice none 0 0] 33 (0, 0))) ∧ (w.heap.size ≤ s_.1) ∧ (w.heap.size ≤ s_.1) ∧ (gb360 ≠ s_.1) ∧ (s_.1 ≠ gb360) ∧ (s_.2 ≠ s_.1) ∧ (s_.1 ≠ s_.2) ∧ (w.heap.size ≤ s_.2) ∧ (w.heap.size ≤ s_.2) ∧ (gb360 ≠ s_.2) ∧ (s_.2 ≠ gb360) ∧ (Below w.heap.size w w')) ?_ ?_
              rotate_left
              ·intro hJ4_5
               refine join_ (σ := Nat × Nat) 6 #[true, true, true, true, true, false, true, false, false, false, false, false] (fun s_ => [(13, .pointer (some ⟨s_.1, 0, none⟩)), (15, .pointer (some ⟨s_.2, 0, none⟩))]) (fun s_ w' => (w'.cell? ⟨gb360, 0, none⟩ = some (.int .i64 t350) ∧ w'.cell? ⟨gb360, 1, none⟩ = some (.int .i64 t351) ∧ w'.cell? ⟨gb360, 2, none⟩ = some (.string t352) ∧ w'.cell? ⟨gb360, 3, none⟩ = some (.slice Ao14 t353.length co14) ∧ w'.cell? ⟨gb360, 4, none⟩ = some (.slice Ao15 t356.length co15)) ∧ (Kd.R k23 23 w' w.heap.size (fun _ => True) (.slice Ao14 t353.length co14) t353) ∧ (Kd.R (Kd.int .i64) 3 w' w.heap.size (fun _ => True) (.slice Ao15 t356.length co15) t356) ∧ (w'.heap[gb360]? = some (.cells #[.int .i64 t350, .int .i64 t351, .string t352, .slice Ao14 t353.length co14, .slice Ao15 t356.length co15] 33 (0, 0))) ∧ (w'.heap[s_.1]? = some (.cells #[.int .i64 0, .int .i64 0, .string (⟨#[]⟩ : ByteArray), .slice none 0 0, .slice none 0 0] 33 (0, 0))) ∧ (w'.heap[s_.2]? = some (.cells #[.int .i64 0, .int .i64 0, .string (⟨#[]⟩ : ByteArray), .slice none 0 0, .slice none 0 0] 33 (0, 0))) ∧ (w.heap.size ≤ s_.1) ∧ (w.heap.size ≤ s_.1) ∧ (gb360 ≠ s_.1) ∧ (s_.1 ≠ gb360) ∧ (s_.2 ≠ s_.1) ∧ (s_.1 ≠ s_.2) ∧ (w.heap.size ≤ s_.2) ∧ (w.heap.size ≤ s_.2) ∧ (gb360 ≠ s_.2) ∧ (s_.2 ≠ gb360) ∧ (Below w.heap.size w w')) ?_ ?_
               rotate_left
               ·intro hJ4_6
                refine join_ (σ := Nat × Nat) 6 #[true, true, true, true, true, false, false, true, false, false, false, false] (fun s_ => [(13, .pointer (some ⟨s_.1, 0, none⟩)), (16, .pointer (some ⟨s_.2, 0, none⟩))]) (fun s_ w' => (w'.cell? ⟨gb360, 0, none⟩ = some (.int .i64 t350) ∧ w'.cell? ⟨gb360, 1, none⟩ = some (.int .i64 t351) ∧ w'.cell? ⟨gb360, 2, none⟩ = some (.string t352) ∧ w'.cell? ⟨gb360, 3, none⟩ = some (.slice Ao14 t353.length co14) ∧ w'.cell? ⟨gb360, 4, none⟩ = some (.slice Ao15 t356.length co15)) ∧ (Kd.R k23 23 w' w.heap.size (fun _ => True) (.slice Ao14 t353.length co14) t353) ∧ (Kd.R (Kd.int .i64) 3 w' w.heap.size (fun _ => True) (.slice Ao15 t356.length co15) t356) ∧ (w'.heap[gb360]? = some (.cells #[.int .i64 t350, .int .i64 t351, .string t352, .slice Ao14 t353.length co14, .slice Ao15 t356.length co15] 33 (0, 0))) ∧ (w'.heap[s_.1]? = some (.cells #[.int .i64 0, .int .i64 0, .string (⟨#[]⟩ : ByteArray), .slice none 0 0, .slice none 0 0] 33 (0, 0))) ∧ (w'.heap[s_.2]? = some (.cells #[.int .i64 0, .int .i64 0, .string (⟨#[]⟩ : ByteArray), .slice none 0 0, .slice none 0 0] 33 (0, 0))) ∧ (w.heap.size ≤ s_.1) ∧ (w.heap.size ≤ s_.1) ∧ (gb360 ≠ s_.1) ∧ (s_.1 ≠ gb360) ∧ (s_.2 ≠ s_.1) ∧ (s_.1 ≠ s_.2) ∧ (w.heap.size ≤ s_.2) ∧ (w.heap.size ≤ s_.2) ∧ (gb360 ≠ s_.2) ∧ (s_.2 ≠ gb360) ∧ (Below w.heap.size w w')) ?_ ?_
                rotate_left
                ·intro hJ4_7
                 refine join_ (σ := Nat × Nat) 6 #[true, true, true, true, false, true, true, false, false, false, false, false] (fun s_ => [(14, .pointer (some ⟨s_.1, 0, none⟩)), (15, .pointer (some ⟨s_.2, 0, none⟩))]) (fun s_ w' => (w'.cell? ⟨gb360, 0, none⟩ = some (.int .i64 t350) ∧ w'.cell? ⟨gb360, 1, none⟩ = some (.int .i64 t351) ∧ w'.cell? ⟨gb360, 2, none⟩ = some (.string t352) ∧ w'.cell? ⟨gb360, 3, none⟩ = some (.slice Ao14 t353.length co14) ∧ w'.cell? ⟨gb360, 4, none⟩ = some (.slice Ao15 t356.length co15)) ∧ (Kd.R k23 23 w' w.heap.size (fun _ => True) (.slice Ao14 t353.length co14) t353) ∧ (Kd.R (Kd.int .i64) 3 w' w.heap.size (fun _ => True) (.slice Ao15 t356.length co15) t356) ∧ (w'.heap[gb360]? = some (.cells #[.int .i64 t350, .int .i64 t351, .string t352, .slice Ao14 t353.length co14, .slice Ao15 t356.length co15] 33 (0, 0))) ∧ (w'.heap[s_.1]? = some (.cells #[.int .i64 0, .int .i64 0, .string (⟨#[]⟩ : ByteArray), .slice none 0 0, .slice none 0 0] 33 (0, 0))) ∧ (w'.heap[s_.2]? = some (.cells #[.int .i64 0, .int .i64 0, .string (⟨#[]⟩ : ByteArray), .slice none 0 0, .slice none 0 0] 33 (0, 0))) ∧ (w.heap.size ≤ s_.1) ∧ (w.heap.size ≤ s_.1) ∧ (gb360 ≠ s_.1) ∧ (s_.1 ≠ gb360) ∧ (s_.2 ≠ s_.1) ∧ (s_.1 ≠ s_.2) ∧ (w.heap.size ≤ s_.2) ∧ (w.heap.size ≤ s_.2) ∧ (gb360 ≠ s_.2) ∧ (s_.2 ≠ gb360) ∧ (Below w.heap.size w w')) ?_ ?_
                 rotate_left
                 ·intro hJ5_6
                  refine join_ (σ := Nat × Nat) 6 #[true, true, true, true, false, true, false, true, false, false, false, false] (fun s_ => [(14, .pointer (some ⟨s_.1, 0, none⟩)), (16, .pointer (some ⟨s_.2, 0, none⟩))]) (fun s_ w' => (w'.cell? ⟨gb360, 0, none⟩ = some (.int .i64 t350) ∧ w'.cell? ⟨gb360, 1, none⟩ = some (.int .i64 t351) ∧ w'.cell? ⟨gb360, 2, none⟩ = some (.string t352) ∧ w'.cell? ⟨gb360, 3, none⟩ = some (.slice Ao14 t353.length co14) ∧ w'.cell? ⟨gb360, 4, none⟩ = some (.slice Ao15 t356.length co15)) ∧ (Kd.R k23 23 w' w.heap.size (fun _ => True) (.slice Ao14 t353.length co14) t353) ∧ (Kd.R (Kd.int .i64) 3 w' w.heap.size (fun _ => True) (.slice Ao15 t356.length co15) t356) ∧ (w'.heap[gb360]? = some (.cells #[.int .i64 t350, .int .i64 t351, .string t352, .slice Ao14 t353.length co14, .slice Ao15 t356.length co15] 33 (0, 0))) ∧ (w'.heap[s_.1]? = some (.cells #[.int .i64 0, .int .i64 0, .string (⟨#[]⟩ : ByteArray), .slice none 0 0, .slice none 0 0] 33 (0, 0))) ∧ (w'.heap[s_.2]? = some (.cells #[.int .i64 0, .int .i64 0, .string (⟨#[]⟩ : ByteArray), .slice none 0 0, .slice none 0 0] 33 (0, 0))) ∧ (w.heap.size ≤ s_.1) ∧ (w.heap.size ≤ s_.1) ∧ (gb360 ≠ s_.1) ∧ (s_.1 ≠ gb360) ∧ (s_.2 ≠ s_.1) ∧ (s_.1 ≠ s_.2) ∧ (w.heap.size ≤ s_.2) ∧ (w.heap.size ≤ s_.2) ∧ (gb360 ≠ s_.2) ∧ (s_.2 ≠ gb360) ∧ (Below w.heap.size w w')) ?_ ?_
                  rotate_left
                  ·intro hJ5_7
                   refine join_ (σ := Nat × Nat) 6 #[true, true, true, true, false, false, true, true, false, false, false, false] (fun s_ => [(15, .pointer (some ⟨s_.1, 0, none⟩)), (16, .pointer (some ⟨s_.2, 0, none⟩))]) (fun s_ w' => (w'.cell? ⟨gb360, 0, none⟩ = some (.int .i64 t350) ∧ w'.cell? ⟨gb360, 1, none⟩ = some (.int .i64 t351) ∧ w'.cell? ⟨gb360, 2, none⟩ = some (.string t352) ∧ w'.cell? ⟨gb360, 3, none⟩ = some (.slice Ao14 t353.length co14) ∧ w'.cell? ⟨gb360, 4, none⟩ = some (.slice Ao15 t356.length co15)) ∧ (Kd.R k23 23 w' w.heap.size (fun _ => True) (.slice Ao14 t353.length co14) t353) ∧ (Kd.R (Kd.int .i64) 3 w' w.heap.size (fun _ => True) (.slice Ao15 t356.length co15) t356) ∧ (w'.heap[gb360]? = some (.cells #[.int .i64 t350, .int .i64 t351, .string t352, .slice Ao14 t353.length co14, .slice Ao15 t356.length co15] 33 (0, 0))) ∧ (w'.heap[s_.1]? = some (.cells #[.int .i64 0, .int .i64 0, .string (⟨#[]⟩ : ByteArray), .slice none 0 0, .slice none 0 0] 33 (0, 0))) ∧ (w'.heap[s_.2]? = some (.cells #[.int .i64 0, .int .i64 0, .string (⟨#[]⟩ : ByteArray), .slice none 0 0, .slice none 0 0] 33 (0, 0))) ∧ (w.heap.size ≤ s_.1) ∧ (w.heap.size ≤ s_.1) ∧ (gb360 ≠ s_.1) ∧ (s_.1 ≠ gb360) ∧ (s_.2 ≠ s_.1) ∧ (s_.1 ≠ s_.2) ∧ (w.heap.size ≤ s_.2) ∧ (w.heap.size ≤ s_.2) ∧ (gb360 ≠ s_.2) ∧ (s_.2 ≠ gb360) ∧ (Below w.heap.size w w')) ?_ ?_
                   rotate_left
                   ·intro hJ6_7
                    refine join_ (σ := Nat) 7 #[true, true, true, true, true, false, false, false, false, false, false, false] (fun s_ => [(13, .pointer (some ⟨s_, 0, none⟩))]) (fun s_ w' => (w'.cell? ⟨gb360, 0, none⟩ = some (.int .i64 t350) ∧ w'.cell? ⟨gb360, 1, none⟩ = some (.int .i64 t351) ∧ w'.cell? ⟨gb360, 2, none⟩ = some (.string t352) ∧ w'.cell? ⟨gb360, 3, none⟩ = some (.slice Ao14 t353.length co14) ∧ w'.cell? ⟨gb360, 4, none⟩ = some (.slice Ao15 t356.length co15)) ∧ (Kd.R k23 23 w' w.heap.size (fun _ => True) (.slice Ao14 t353.length co14) t353) ∧ (Kd.R (Kd.int .i64) 3 w' w.heap.size (fun _ => True) (.slice Ao15 t356.length co15) t356) ∧ (w'.heap[gb360]? = some (.cells #[.int .i64 t350, .int .i64 t351, .string t352, .slice Ao14 t353.length co14, .slice Ao15 t356.length co15] 33 (0, 0))) ∧ (w'.heap[s_]? = some (.cells #[.int .i64 0, .int .i64 0, .string (⟨#[]⟩ : ByteArray), .slice none 0 0, .slice none 0 0] 33 (0, 0))) ∧ (w.heap.size ≤ s_) ∧ (w.heap.size ≤ s_) ∧ (gb360 ≠ s_) ∧ (s_ ≠ gb360) ∧ (Below w.heap.size w w')) ?_ ?_
                    rotate_left
                    ·intro hJ4
                     refine join_ (σ := Nat) 7 #[true, true, true, true, false, true, false, false, false, false, false, false] (fun s_ => [(14, .pointer (some ⟨s_, 0, none⟩))]) (fun s_ w' => (w'.cell? ⟨gb360, 0, none⟩ = some (.int .i64 t350) ∧ w'.cell? ⟨gb360, 1, none⟩ = some (.int .i64 t351) ∧ w'.cell? ⟨gb360, 2, none⟩ = some (.string t352) ∧ w'.cell? ⟨gb360, 3, none⟩ = some (.slice Ao14 t353.length co14) ∧ w'.cell? ⟨gb360, 4, none⟩ = some (.slice Ao15 t356.length co15)) ∧ (Kd.R k23 23 w' w.heap.size (fun _ => True) (.slice Ao14 t353.length co14) t353) ∧ (Kd.R (Kd.int .i64) 3 w' w.heap.size (fun _ => True) (.slice Ao15 t356.length co15) t356) ∧ (w'.heap[gb360]? = some (.cells #[.int .i64 t350, .int .i64 t351, .string t352, .slice Ao14 t353.length co14, .slice Ao15 t356.length co15] 33 (0, 0))) ∧ (w'.heap[s_]? = some (.cells #[.int .i64 0, .int .i64 0, .string (⟨#[]⟩ : ByteArray), .slice none 0 0, .slice none 0 0] 33 (0, 0))) ∧ (w.heap.size ≤ s_) ∧ (w.heap.size ≤ s_) ∧ (gb360 ≠ s_) ∧ (s_ ≠ gb360) ∧ (Below w.heap.size w w')) ?_ ?_
                     rotate_left
                     ·intro hJ5
                      refine join_ (σ := Nat) 7 #[true, true, true, true, false, false, true, false, false, false, false, false] (fun s_ => [(15, .pointer (some ⟨s_, 0, none⟩))]) (fun s_ w' => (w'.cell? ⟨gb360, 0, none⟩ = some (.int .i64 t350) ∧ w'.cell? ⟨gb360, 1, none⟩ = some (.int .i64 t351) ∧ w'.cell? ⟨gb360, 2, none⟩ = some (.string t352) ∧ w'.cell? ⟨gb360, 3, none⟩ = some (.slice Ao14 t353.length co14) ∧ w'.cell? ⟨gb360, 4, none⟩ = some (.slice Ao15 t356.length co15)) ∧ (Kd.R k23 23 w' w.heap.size (fun _ => True) (.slice Ao14 t353.length co14) t353) ∧ (Kd.R (Kd.int .i64) 3 w' w.heap.size (fun _ => True) (.slice Ao15 t356.length co15) t356) ∧ (w'.heap[gb360]? = some (.cells #[.int .i64 t350, .int .i64 t351, .string t352, .slice Ao14 t353.length co14, .slice Ao15 t356.length co15] 33 (0, 0))) ∧ (w'.heap[s_]? = some (.cells #[.int .i64 0, .int .i64 0, .string (⟨#[]⟩ : ByteArray), .slice none 0 0, .slice none 0 0] 33 (0, 0))) ∧ (w.heap.size ≤ s_) ∧ (w.heap.size ≤ s_) ∧ (gb360 ≠ s_) ∧ (s_ ≠ gb360) ∧ (Below w.heap.size w w')) ?_ ?_
                      rotate_left
                      ·intro hJ6
                       refine join_ (σ := Nat) 7 #[true, true, true, true, false, false, false, true, false, false, false, false] (fun s_ => [(16, .pointer (some ⟨s_, 0, none⟩))]) (fun s_ w' => (w'.cell? ⟨gb360, 0, none⟩ = some (.int .i64 t350) ∧ w'.cell? ⟨gb360, 1, none⟩ = some (.int .i64 t351) ∧ w'.cell? ⟨gb360, 2, none⟩ = some (.string t352) ∧ w'.cell? ⟨gb360, 3, none⟩ = some (.slice Ao14 t353.length co14) ∧ w'.cell? ⟨gb360, 4, none⟩ = some (.slice Ao15 t356.length co15)) ∧ (Kd.R k23 23 w' w.heap.size (fun _ => True) (.slice Ao14 t353.length co14) t353) ∧ (Kd.R (Kd.int .i64) 3 w' w.heap.size (fun _ => True) (.slice Ao15 t356.length co15) t356) ∧ (w'.heap[gb360]? = some (.cells #[.int .i64 t350, .int .i64 t351, .string t352, .slice Ao14 t353.length co14, .slice Ao15 t356.length co15] 33 (0, 0))) ∧ (w'.heap[s_]? = some (.cells #[.int .i64 0, .int .i64 0, .string (⟨#[]⟩ : ByteArray), .slice none 0 0, .slice none 0 0] 33 (0, 0))) ∧ (w.heap.size ≤ s_) ∧ (w.heap.size ≤ s_) ∧ (gb360 ≠ s_) ∧ (s_ ≠ gb360) ∧ (Below w.heap.size w w')) ?_ ?_
                       rotate_left
                       ·intro hJ7
                        refine four_ (i := 4) (j := 5) (k := 6) (m := 7) (Ni := some 13) (Nj := some 14) (Nk := some 15) (Nm := some 16) #[true, true, true, true, true, false, false, false, false, false, false, false] #[true, true, true, true, false, true, false, false, false, false, false, false] #[true, true, true, true, false, false, true, false, false, false, false, false] #[true, true, true, true, false, false, false, true, false, false, false, false] rfl rfl rfl rfl rfl rfl rfl rfl (four_of HT_.out (by kernel_rfl)) (by decide) (by decide) (by decide) (by decide) (fun K hK => ?_) (fun K hK => ?_) (fun K hK => ?_) (fun K hK => ?_)
                        ·skip
                         refine box_step ?hg (N := 13) ?hd (cs := #[.int .i64 0, .int .i64 0, .string (⟨#[]⟩ : ByteArray), .slice none 0 0, .slice none 0 0]) (t := 33) ?hr ?_; (case hd => rfl); (case hg => rfl); (case hr => first | (go_simp; done) | (go_simp; rfl))
                         intro gb361 hg w35 hbox hb
                         have BK361 := za (hbox)
                         have GW361 := zg HB hg
                         have GE361 := zg HB hg
                         have NB360_361 := zl BK360 hg
                         have NB361_360 := zr BK360 hg
                         replace HO_361003 := zR HO_361003 hb
                         replace HO_361004 := zR HO_361004 hb
                         replace BK360 := zb BK360 hb
                         replace HB := zs HB hb
                         clear hb hbox hg
                         refine hK.out _ _ ⟨(blk_cell BK360.out 0).trans rfl, (blk_cell BK360.out 1).trans rfl, (blk_cell BK360.out 2).trans rfl, (blk_cell BK360.out 3).trans rfl, (blk_cell BK360.out 4).trans rfl⟩ (fun hHeld => ?_)
                         clear hK K
                         refine norm_ (a' := ?_) ?_ ?_
                         rotate_left
                         ·show Act.put _ (some 13) _ = _
                          simp only [Act.put, List.setIfInBounds_toArray, List.set_cons_zero, List.set_cons_succ, i64_w, i32_w]
                          rfl
                         exact norm_ q16c (hJ4 (gb361) _ ⟨hHeld, q16d, q16e, (q16b), (q16b), GW361.out, GE361.out, NB360_361.out, NB361_360.out, (zm HB)⟩)
                        ·skip
                         refine box_step ?hg (N := 14) ?hd (cs := #[.int .i64 0, .int .i64 0, .string (⟨#[]⟩ : ByteArray), .slice none 0 0, .slice none 0 0]) (t := 33) ?hr ?_; (case hd => rfl); (case hg => rfl); (case hr => first | (go_simp; done) | (go_simp; rfl))
                         intro gb362 hg w35 hbox hb
                         have BK362 := za (hbox)
                         have GW362 := zg HB hg
                         have GE362 := zg HB hg
                         have NB360_362 := zl BK360 hg
                         have NB362_360 := zr BK360 hg
                         replace HO_361003 := zR HO_361003 hb
                         replace HO_361004 := zR HO_361004 hb
                         replace BK360 := zb BK360 hb
                         replace HB := zs HB hb
                         clear hb hbox hg
                         refine hK.out _ _ ⟨(blk_cell BK360.out 0).trans rfl, (blk_cell BK360.out 1).trans rfl, (blk_cell BK360.out 2).trans rfl, (blk_cell BK360.out 3).trans rfl, (blk_cell BK360.out 4).trans rfl⟩ (fun hHeld => ?_)
                         clear hK K
                         refine norm_ (a' := ?_) ?_ ?_
                         rotate_left
                         ·show Act.put _ (some 14) _ = _
                          simp only [Act.put, List.setIfInBounds_toArray, List.set_cons_zero, List.set_cons_succ, i64_w, i32_w]
                          rfl
                         exact norm_ q16c (hJ5 (gb362) _ ⟨hHeld, q16d, q16e, (q16b), (q16b), GW362.out, GE362.out, NB360_362.out, NB362_360.out, (zm HB)⟩)
                        ·skip
                         refine box_step ?hg (N := 15) ?hd (cs := #[.int .i64 0, .int .i64 0, .string (⟨#[]⟩ : ByteArray), .slice none 0 0, .slice none 0 0]) (t := 33) ?hr ?_; (case hd => rfl); (case hg => rfl); (case hr => first | (go_simp; done) | (go_simp; rfl))
                         intro gb363 hg w35 hbox hb
                         have BK363 := za (hbox)
                         have GW363 := zg HB hg
                         have GE363 := zg HB hg
                         have NB360_363 := zl BK360 hg
                         have NB363_360 := zr BK360 hg
                         replace HO_361003 := zR HO_361003 hb
                         replace HO_361004 := zR HO_361004 hb
                         replace BK360 := zb BK360 hb
                         replace HB := zs HB hb
                         clear hb hbox hg
                         refine hK.out _ _ ⟨(blk_cell BK360.out 0).trans rfl, (blk_cell BK360.out 1).trans rfl, (blk_cell BK360.out 2).trans rfl, (blk_cell BK360.out 3).trans rfl, (blk_cell BK360.out 4).trans rfl⟩ (fun hHeld => ?_)
                         clear hK K
                         refine norm_ (a' := ?_) ?_ ?_
                         rotate_left
                         ·show Act.put _ (some 15) _ = _
                          simp only [Act.put, List.setIfInBounds_toArray, List.set_cons_zero, List.set_cons_succ, i64_w, i32_w]
                          rfl
                         exact norm_ q16c (hJ6 (gb363) _ ⟨hHeld, q16d, q16e, (q16b), (q16b), GW363.out, GE363.out, NB360_363.out, NB363_360.out, (zm HB)⟩)
                        ·skip
                         refine box_step ?hg (N := 16) ?hd (cs := #[.int .i64 0, .int .i64 0, .string (⟨#[]⟩ : ByteArray), .slice none 0 0, .slice none 0 0]) (t := 33) ?hr ?_; (case hd => rfl); (case hg => rfl); (case hr => first | (go_simp; done) | (go_simp; rfl))
                         intro gb364 hg w35 hbox hb
                         have BK364 := za (hbox)
                         have GW364 := zg HB hg
                         have GE364 := zg HB hg
                         have NB360_364 := zl BK360 hg
                         have NB364_360 := zr BK360 hg
                         replace HO_361003 := zR HO_361003 hb
                         replace HO_361004 := zR HO_361004 hb
                         replace BK360 := zb BK360 hb
                         replace HB := zs HB hb
                         clear hb hbox hg
                         refine hK.out _ _ ⟨(blk_cell BK360.out 0).trans rfl, (blk_cell BK360.out 1).trans rfl, (blk_cell BK360.out 2).trans rfl, (blk_cell BK360.out 3).trans rfl, (blk_cell BK360.out 4).trans rfl⟩ (fun hHeld => ?_)
                         clear hK K
                         refine norm_ (a' := ?_) ?_ ?_
                         rotate_left
                         ·show Act.put _ (some 16) _ = _
                          simp only [Act.put, List.setIfInBounds_toArray, List.set_cons_zero, List.set_cons_succ, i64_w, i32_w]
                          rfl
                         exact norm_ q16c (hJ7 (gb364) _ ⟨hHeld, q16d, q16e, (q16b), (q16b), GW364.out, GE364.out, NB360_364.out, NB364_360.out, (zm HB)⟩)
                       ·skip
                        rintro gb364 w36 ⟨hS_, h0_, h1_, h2_, h3_, h4_, h5_, h6_, h7_, h8_⟩
                        have n0_ : Aside0 (Kd.R k23 23 w36 w.heap.size (fun _ => True) (.slice Ao14 t353.length co14) t353) := ⟨h0_⟩
                        have n1_ : Aside0 (Kd.R (Kd.int .i64) 3 w36 w.heap.size (fun _ => True) (.slice Ao15 t356.length co15) t356) := ⟨h1_⟩
                        have n2_ : Aside0 (w36.heap[gb360]? = some (.cells #[.int .i64 t350, .int .i64 t351, .string t352, .slice Ao14 t353.length co14, .slice Ao15 t356.length co15] 33 (0, 0))) := ⟨h2_⟩
                        have n3_ : Aside0 (w36.heap[gb364]? = some (.cells #[.int .i64 0, .int .i64 0, .string (⟨#[]⟩ : ByteArray), .slice none 0 0, .slice none 0 0] 33 (0, 0))) := ⟨h3_⟩
                        have n4_ : Aside0 (w.heap.size ≤ gb364) := ⟨h4_⟩
                        have n5_ : Aside0 (w.heap.size ≤ gb364) := ⟨h5_⟩
                        have n6_ : Aside0 (gb360 ≠ gb364) := ⟨h6_⟩
                        have n7_ : Aside0 (gb364 ≠ gb360) := ⟨h7_⟩
                        have n8_ : Aside0 (Below w.heap.size w w36) := ⟨h8_⟩
                        clear HO_361003 HO_361004 BK360 HB h0_ h1_ h2_ h3_ h4_ h5_ h6_ h7_ h8_; have HO_361003 := n0_; have HO_361004 := n1_; have BK360 := n2_; have BK364 := n3_; have GW364 := n4_; have GE364 := n5_; have NB360_364 := n6_; have NB364_360 := n7_; have HB := n8_; clear n0_ n1_ n2_ n3_ n4_ n5_ n6_ n7_ n8_
                        have hHeld : w36.cell? ⟨gb360, 0, none⟩ = some (.int .i64 t350) ∧ w36.cell? ⟨gb360, 1, none⟩ = some (.int .i64 t351) ∧ w36.cell? ⟨gb360, 2, none⟩ = some (.string t352) ∧ w36.cell? ⟨gb360, 3, none⟩ = some (.slice Ao14 t353.length co14) ∧ w36.cell? ⟨gb360, 4, none⟩ = some (.slice Ao15 t356.length co15) := hS_
                        refine norm_ (a' := ?_) ?_ ?_
                        rotate_left
                        ·simp only [putAll, Act.put, List.setIfInBounds_toArray, List.set_cons_zero, List.set_cons_succ]
                         rfl
                        refine three_ (i := 4) (j := 5) (k := 6) (Ni := some 13) (Nj := some 14) (Nk := some 15) #[true, true, true, true, true, false, false, true, false, false, false, false] #[true, true, true, true, false, true, false, true, false, false, false, false] #[true, true, true, true, false, false, true, true, false, false, false, false] rfl rfl rfl rfl rfl rfl (three_of HT_.out (by kernel_rfl)) (by decide) (by decide) (by decide) (fun K hK => ?_) (fun K hK => ?_) (fun K hK => ?_)
                        ·skip
                         refine box_step ?hg (N := 13) ?hd (cs := #[.int .i64 0, .int .i64 0, .string (⟨#[]⟩ : ByteArray), .slice none 0 0, .slice none 0 0]) (t := 33) ?hr ?_; (case hd => rfl); (case hg => rfl); (case hr => first | (go_simp; done) | (go_simp; rfl))
                         intro gb361 hg w37 hbox hb
                         have BK361 := za (hbox)
                         have GW361 := zg HB hg
                         have GE361 := zg HB hg
                         have NB360_361 := zl BK360 hg
                         have NB361_360 := zr BK360 hg
                         have NB364_361 := zl BK364 hg
                         have NB361_364 := zr BK364 hg
                         replace HO_361003 := zR HO_361003 hb
                         replace HO_361004 := zR HO_361004 hb
                         replace BK360 := zb BK360 hb
                         replace BK364 := zb BK364 hb
                         replace HB := zs HB hb
                         clear hb hbox hg
                         refine hK.out _ _ ⟨(blk_cell BK360.out 0).trans rfl, (blk_cell BK360.out 1).trans rfl, (blk_cell BK360.out 2).trans rfl, (blk_cell BK360.out 3).trans rfl, (blk_cell BK360.out 4).trans rfl⟩ (fun hHeld => ?_)
                         clear hK K
                         refine norm_ (a' := ?_) ?_ ?_
                         rotate_left
                         ·show Act.put _ (some 13) _ = _
                          simp only [Act.put, List.setIfInBounds_toArray, List.set_cons_zero, List.set_cons_succ, i64_w, i32_w]
                          rfl
                         exact norm_ q16c (hJ4_7 (gb361, gb364) _ ⟨hHeld, q16d, q16e, (q16b), (q16b), (q16b), GW361.out, GE361.out, NB360_361.out, NB361_360.out, NB364_361.out, NB361_364.out, GW364.out, GE364.out, NB360_364.out, NB364_360.out, (zm HB)⟩)
                        ·skip
                         refine box_step ?hg (N := 14) ?hd (cs := #[.int .i64 0, .int .i64 0, .string (⟨#[]⟩ : ByteArray), .slice none 0 0, .slice none 0 0]) (t := 33) ?hr ?_; (case hd => rfl); (case hg => rfl); (case hr => first | (go_simp; done) | (go_simp; rfl))
                         intro gb362 hg w37 hbox hb
                         have BK362 := za (hbox)
                         have GW362 := zg HB hg
                         have GE362 := zg HB hg
                         have NB360_362 := zl BK360 hg
                         have NB362_360 := zr BK360 hg
                         have NB364_362 := zl BK364 hg
                         have NB362_364 := zr BK364 hg
                         replace HO_361003 := zR HO_361003 hb
                         replace HO_361004 := zR HO_361004 hb
                         replace BK360 := zb BK360 hb
                         replace BK364 := zb BK364 hb
                         replace HB := zs HB hb
                         clear hb hbox hg
                         refine hK.out _ _ ⟨(blk_cell BK360.out 0).trans rfl, (blk_cell BK360.out 1).trans rfl, (blk_cell BK360.out 2).trans rfl, (blk_cell BK360.out 3).trans rfl, (blk_cell BK360.out 4).trans rfl⟩ (fun hHeld => ?_)
                         clear hK K
                         refine norm_ (a' := ?_) ?_ ?_
                         rotate_left
                         ·show Act.put _ (some 14) _ = _
                          simp only [Act.put, List.setIfInBounds_toArray, List.set_cons_zero, List.set_cons_succ, i64_w, i32_w]
                          rfl
                         exact norm_ q16c (hJ5_7 (gb362, gb364) _ ⟨hHeld, q16d, q16e, (q16b), (q16b), (q16b), GW362.out, GE362.out, NB360_362.out, NB362_360.out, NB364_362.out, NB362_364.out, GW364.out, GE364.out, NB360_364.out, NB364_360.out, (zm HB)⟩)
                        ·skip
                         refine box_step ?hg (N := 15) ?hd (cs := #[.int .i64 0, .int .i64 0, .string (⟨#[]⟩ : ByteArray), .slice none 0 0, .slice none 0 0]) (t := 33) ?hr ?_; (case hd => rfl); (case hg => rfl); (case hr => first | (go_simp; done) | (go_simp; rfl))
                         intro gb363 hg w37 hbox hb
                         have BK363 := za (hbox)
                         have GW363 := zg HB hg
                         have GE363 := zg HB hg
                         have NB360_363 := zl BK360 hg
                         have NB363_360 := zr BK360 hg
                         have NB364_363 := zl BK364 hg
                         have NB363_364 := zr BK364 hg
                         replace HO_361003 := zR HO_361003 hb
                         replace HO_361004 := zR HO_361004 hb
                         replace BK360 := zb BK360 hb
                         replace BK364 := zb BK364 hb
                         replace HB := zs HB hb
                         clear hb hbox hg
                         refine hK.out _ _ ⟨(blk_cell BK360.out 0).trans rfl, (blk_cell BK360.out 1).trans rfl, (blk_cell BK360.out 2).trans rfl, (blk_cell BK360.out 3).trans rfl, (blk_cell BK360.out 4).trans rfl⟩ (fun hHeld => ?_)
                         clear hK K
                         refine norm_ (a' := ?_) ?_ ?_
                         rotate_left
                         ·show Act.put _ (some 15) _ = _
                          simp only [Act.put, List.setIfInBounds_toArray, List.set_cons_zero, List.set_cons_succ, i64_w, i32_w]
                          rfl
                         exact norm_ q16c (hJ6_7 (gb363, gb364) _ ⟨hHeld, q16d, q16e, (q16b), (q16b), (q16b), GW363.out, GE363.out, NB360_363.out, NB363_360.out, NB364_363.out, NB363_364.out, GW364.out, GE364.out, NB360_364.out, NB364_360.out, (zm HB)⟩)
                      ·skip
                       rintro gb363 w36 ⟨hS_, h0_, h1_, h2_, h3_, h4_, h5_, h6_, h7_, h8_⟩
                       have n0_ : Aside0 (Kd.R k23 23 w36 w.heap.size (fun _ => True) (.slice Ao14 t353.length co14) t353) := ⟨h0_⟩
                       have n1_ : Aside0 (Kd.R (Kd.int .i64) 3 w36 w.heap.size (fun _ => True) (.slice Ao15 t356.length co15) t356) := ⟨h1_⟩
                       have n2_ : Aside0 (w36.heap[gb360]? = some (.cells #[.int .i64 t350, .int .i64 t351, .string t352, .slice Ao14 t353.length co14, .slice Ao15 t356.length co15] 33 (0, 0))) := ⟨h2_⟩
                       have n3_ : Aside0 (w36.heap[gb363]? = some (.cells #[.int .i64 0, .int .i64 0, .string (⟨#[]⟩ : ByteArray), .slice none 0 0, .slice none 0 0] 33 (0, 0))) := ⟨h3_⟩
                       have n4_ : Aside0 (w.heap.size ≤ gb363) := ⟨h4_⟩
                       have n5_ : Aside0 (w.heap.size ≤ gb363) := ⟨h5_⟩
                       have n6_ : Aside0 (gb360 ≠ gb363) := ⟨h6_⟩
                       have n7_ : Aside0 (gb363 ≠ gb360) := ⟨h7_⟩
                       have n8_ : Aside0 (Below w.heap.size w w36) := ⟨h8_⟩
                       clear HO_361003 HO_361004 BK360 HB h0_ h1_ h2_ h3_ h4_ h5_ h6_ h7_ h8_; have HO_361003 := n0_; have HO_361004 := n1_; have BK360 := n2_; have BK363 := n3_; have GW363 := n4_; have GE363 := n5_; have NB360_363 := n6_; have NB363_360 := n7_; have HB := n8_; clear n0_ n1_ n2_ n3_ n4_ n5_ n6_ n7_ n8_
                       have hHeld : w36.cell? ⟨gb360, 0, none⟩ = some (.int .i64 t350) ∧ w36.cell? ⟨gb360, 1, none⟩ = some (.int .i64 t351) ∧ w36.cell? ⟨gb360, 2, none⟩ = some (.string t352) ∧ w36.cell? ⟨gb360, 3, none⟩ = some (.slice Ao14 t353.length co14) ∧ w36.cell? ⟨gb360, 4, none⟩ = some (.slice Ao15 t356.length co15) := hS_
                       refine norm_ (a' := ?_) ?_ ?_
                       rotate_left
                       ·simp only [putAll, Act.put, List.setIfInBounds_toArray, List.set_cons_zero, List.set_cons_succ]
                        rfl
                       refine three_ (i := 4) (j := 5) (k := 7) (Ni := some 13) (Nj := some 14) (Nk := some 16) #[true, true, true, true, true, false, true, false, false, false, false, false] #[true, true, true, true, false, true, true, false, false, false, false, false] #[true, true, true, true, false, false, true, true, false, false, false, false] rfl rfl rfl rfl rfl rfl (three_of HT_.out (by kernel_rfl)) (by decide) (by decide) (by decide) (fun K hK => ?_) (fun K hK => ?_) (fun K hK => ?_)
                       ·skip
                        refine box_step ?hg (N := 13) ?hd (cs := #[.int .i64 0, .int .i64 0, .string (⟨#[]⟩ : ByteArray), .slice none 0 0, .slice none 0 0]) (t := 33) ?hr ?_; (case hd => rfl); (case hg => rfl); (case hr => first | (go_simp; done) | (go_simp; rfl))
                        intro gb361 hg w37 hbox hb
                        have BK361 := za (hbox)
                        have GW361 := zg HB hg
                        have GE361 := zg HB hg
                        have NB360_361 := zl BK360 hg
                        have NB361_360 := zr BK360 hg
                        have NB363_361 := zl BK363 hg
                        have NB361_363 := zr BK363 hg
                        replace HO_361003 := zR HO_361003 hb
                        replace HO_361004 := zR HO_361004 hb
                        replace BK360 := zb BK360 hb
                        replace BK363 := zb BK363 hb
                        replace HB := zs HB hb
                        clear hb hbox hg
                        refine hK.out _ _ ⟨(blk_cell BK360.out 0).trans rfl, (blk_cell BK360.out 1).trans rfl, (blk_cell BK360.out 2).trans rfl, (blk_cell BK360.out 3).trans rfl, (blk_cell BK360.out 4).trans rfl⟩ (fun hHeld => ?_)
                        clear hK K
                        refine norm_ (a' := ?_) ?_ ?_
                        rotate_left
                        ·show Act.put _ (some 13) _ = _
                         simp only [Act.put, List.setIfInBounds_toArray, List.set_cons_zero, List.set_cons_succ, i64_w, i32_w]
                         rfl
                        exact norm_ q16c (hJ4_6 (gb361, gb363) _ ⟨hHeld, q16d, q16e, (q16b), (q16b), (q16b), GW361.out, GE361.out, NB360_361.out, NB361_360.out, NB363_361.out, NB361_363.out, GW363.out, GE363.out, NB360_363.out, NB363_360.out, (zm HB)⟩)
                       ·skip
                        refine box_step ?hg (N := 14) ?hd (cs := #[.int .i64 0, .int .i64 0, .string (⟨#[]⟩ : ByteArray), .slice none 0 0, .slice none 0 0]) (t := 33) ?hr ?_; (case hd => rfl); (case hg => rfl); (case hr => first | (go_simp; done) | (go_simp; rfl))
                        intro gb362 hg w37 hbox hb
                        have BK362 := za (hbox)
                        have GW362 := zg HB hg
                        have GE362 := zg HB hg
                        have NB360_362 := zl BK360 hg
                        have NB362_360 := zr BK360 hg
                        have NB363_362 := zl BK363 hg
                        have NB362_363 := zr BK363 hg
                        replace HO_361003 := zR HO_361003 hb
                        replace HO_361004 := zR HO_361004 hb
                        replace BK360 := zb BK360 hb
                        replace BK363 := zb BK363 hb
                        replace HB := zs HB hb
                        clear hb hbox hg
                        refine hK.out _ _ ⟨(blk_cell BK360.out 0).trans rfl, (blk_cell BK360.out 1).trans rfl, (blk_cell BK360.out 2).trans rfl, (blk_cell BK360.out 3).trans rfl, (blk_cell BK360.out 4).trans rfl⟩ (fun hHeld => ?_)
                        clear hK K
                        refine norm_ (a' := ?_) ?_ ?_
                        rotate_left
                        ·show Act.put _ (some 14) _ = _
                         simp only [Act.put, List.setIfInBounds_toArray, List.set_cons_zero, List.set_cons_succ, i64_w, i32_w]
                         rfl
                        exact norm_ q16c (hJ5_6 (gb362, gb363) _ ⟨hHeld, q16d, q16e, (q16b), (q16b), (q16b), GW362.out, GE362.out, NB360_362.out, NB362_360.out, NB363_362.out, NB362_363.out, GW363.out, GE363.out, NB360_363.out, NB363_360.out, (zm HB)⟩)
                       ·skip
                        refine box_step ?hg (N := 16) ?hd (cs := #[.int .i64 0, .int .i64 0, .string (⟨#[]⟩ : ByteArray), .slice none 0 0, .slice none 0 0]) (t := 33) ?hr ?_; (case hd => rfl); (case hg => rfl); (case hr => first | (go_simp; done) | (go_simp; rfl))
                        intro gb364 hg w37 hbox hb
                        have BK364 := za (hbox)
                        have GW364 := zg HB hg
                        have GE364 := zg HB hg
                        have NB360_364 := zl BK360 hg
                        have NB364_360 := zr BK360 hg
                        have NB363_364 := zl BK363 hg
                        have NB364_363 := zr BK363 hg
                        replace HO_361003 := zR HO_361003 hb
                        replace HO_361004 := zR HO_361004 hb
                        replace BK360 := zb BK360 hb
                        replace BK363 := zb BK363 hb
                        replace HB := zs HB hb
                        clear hb hbox hg
                        refine hK.out _ _ ⟨(blk_cell BK360.out 0).trans rfl, (blk_cell BK360.out 1).trans rfl, (blk_cell BK360.out 2).trans rfl, (blk_cell BK360.out 3).trans rfl, (blk_cell BK360.out 4).trans rfl⟩ (fun hHeld => ?_)
                        clear hK K
                        refine norm_ (a' := ?_) ?_ ?_
                        rotate_left
                        ·show Act.put _ (some 16) _ = _
                         simp only [Act.put, List.setIfInBounds_toArray, List.set_cons_zero, List.set_cons_succ, i64_w, i32_w]
                         rfl
                        exact norm_ q16c (hJ6_7 (gb363, gb364) _ ⟨hHeld, q16d, q16e, (q16b), (q16b), (q16b), GW363.out, GE363.out, NB360_363.out, NB363_360.out, NB364_363.out, NB363_364.out, GW364.out, GE364.out, NB360_364.out, NB364_360.out, (zm HB)⟩)
                     ·skip
                      rintro gb362 w36 ⟨hS_, h0_, h1_, h2_, h3_, h4_, h5_, h6_, h7_, h8_⟩
                      have n0_ : Aside0 (Kd.R k23 23 w36 w.heap.size (fun _ => True) (.slice Ao14 t353.length co14) t353) := ⟨h0_⟩
                      have n1_ : Aside0 (Kd.R (Kd.int .i64) 3 w36 w.heap.size (fun _ => True) (.slice Ao15 t356.length co15) t356) := ⟨h1_⟩
                      have n2_ : Aside0 (w36.heap[gb360]? = some (.cells #[.int .i64 t350, .int .i64 t351, .string t352, .slice Ao14 t353.length co14, .slice Ao15 t356.length co15] 33 (0, 0))) := ⟨h2_⟩
                      have n3_ : Aside0 (w36.heap[gb362]? = some (.cells #[.int .i64 0, .int .i64 0, .string (⟨#[]⟩ : ByteArray), .slice none 0 0, .slice none 0 0] 33 (0, 0))) := ⟨h3_⟩
                      have n4_ : Aside0 (w.heap.size ≤ gb362) := ⟨h4_⟩
                      have n5_ : Aside0 (w.heap.size ≤ gb362) := ⟨h5_⟩
                      have n6_ : Aside0 (gb360 ≠ gb362) := ⟨h6_⟩
                      have n7_ : Aside0 (gb362 ≠ gb360) := ⟨h7_⟩
                      have n8_ : Aside0 (Below w.heap.size w w36) := ⟨h8_⟩
                      clear HO_361003 HO_361004 BK360 HB h0_ h1_ h2_ h3_ h4_ h5_ h6_ h7_ h8_; have HO_361003 := n0_; have HO_361004 := n1_; have BK360 := n2_; have BK362 := n3_; have GW362 := n4_; have GE362 := n5_; have NB360_362 := n6_; have NB362_360 := n7_; have HB := n8_; clear n0_ n1_ n2_ n3_ n4_ n5_ n6_ n7_ n8_
                      have hHeld : w36.cell? ⟨gb360, 0, none⟩ = some (.int .i64 t350) ∧ w36.cell? ⟨gb360, 1, none⟩ = some (.int .i64 t351) ∧ w36.cell? ⟨gb360, 2, none⟩ = some (.string t352) ∧ w36.cell? ⟨gb360, 3, none⟩ = some (.slice Ao14 t353.length co14) ∧ w36.cell? ⟨gb360, 4, none⟩ = some (.slice Ao15 t356.length co15) := hS_
                      refine norm_ (a' := ?_) ?_ ?_
                      rotate_left
                      ·simp only [putAll, Act.put, List.setIfInBounds_toArray, List.set_cons_zero, List.set_cons_succ]
                       rfl
                      refine three_ (i := 4) (j := 6) (k := 7) (Ni := some 13) (Nj := some 15) (Nk := some 16) #[true, true, true, true, true, true, false, false, false, false, false, false] #[true, true, true, true, false, true, true, false, false, false, false, false] #[true, true, true, true, false, true, false, true, false, false, false, false] rfl rfl rfl rfl rfl rfl (three_of HT_.out (by kernel_rfl)) (by decide) (by decide) (by decide) (fun K hK => ?_) (fun K hK => ?_) (fun K hK => ?_)
                      ·skip
                       refine box_step ?hg (N := 13) ?hd (cs := #[.int .i64 0, .int .i64 0, .string (⟨#[]⟩ : ByteArray), .slice none 0 0, .slice none 0 0]) (t := 33) ?hr ?_; (case hd => rfl); (case hg => rfl); (case hr => first | (go_simp; done) | (go_simp; rfl))
                       intro gb361 hg w37 hbox hb
                       have BK361 := za (hbox)
                       have GW361 := zg HB hg
                       have GE361 := zg HB hg
                       have NB360_361 := zl BK360 hg
                       have NB361_360 := zr BK360 hg
                       have NB362_361 := zl BK362 hg
                       have NB361_362 := zr BK362 hg
                       replace HO_361003 := zR HO_361003 hb
                       replace HO_361004 := zR HO_361004 hb
                       replace BK360 := zb BK360 hb
                       replace BK362 := zb BK362 hb
                       replace HB := zs HB hb
                       clear hb hbox hg
                       refine hK.out _ _ ⟨(blk_cell BK360.out 0).trans rfl, (blk_cell BK360.out 1).trans rfl, (blk_cell BK360.out 2).trans rfl, (blk_cell BK360.out 3).trans rfl, (blk_cell BK360.out 4).trans rfl⟩ (fun hHeld => ?_)
                       clear hK K
                       refine norm_ (a' := ?_) ?_ ?_
                       rotate_left
                       ·show Act.put _ (some 13) _ = _
                        simp only [Act.put, List.setIfInBounds_toArray, List.set_cons_zero, List.set_cons_succ, i64_w, i32_w]
                        rfl
                       exact norm_ q16c (hJ4_5 (gb361, gb362) _ ⟨hHeld, q16d, q16e, (q16b), (q16b), (q16b), GW361.out, GE361.out, NB360_361.out, NB361_360.out, NB362_361.out, NB361_362.out, GW362.out, GE362.out, NB360_362.out, NB362_360.out, (zm HB)⟩)
                      ·skip
                       refine box_step ?hg (N := 15) ?hd (cs := #[.int .i64 0, .int .i64 0, .string (⟨#[]⟩ : ByteArray), .slice none 0 0, .slice none 0 0]) (t := 33) ?hr ?_; (case hd => rfl); (case hg => rfl); (case hr => first | (go_simp; done) | (go_simp; rfl))
                       intro gb363 hg w37 hbox hb
                       have BK363 := za (hbox)
                       have GW363 := zg HB hg
                       have GE363 := zg HB hg
                       have NB360_363 := zl BK360 hg
                       have NB363_360 := zr BK360 hg
                       have NB362_363 := zl BK362 hg
                       have NB363_362 := zr BK362 hg
                       replace HO_361003 := zR HO_361003 hb
                       replace HO_361004 := zR HO_361004 hb
                       replace BK360 := zb BK360 hb
                       replace BK362 := zb BK362 hb
                       replace HB := zs HB hb
                       clear hb hbox hg
                       refine hK.out _ _ ⟨(blk_cell BK360.out 0).trans rfl, (blk_cell BK360.out 1).trans rfl, (blk_cell BK360.out 2).trans rfl, (blk_cell BK360.out 3).trans rfl, (blk_cell BK360.out 4).trans rfl⟩ (fun hHeld => ?_)
                       clear hK K
                       refine norm_ (a' := ?_) ?_ ?_
                       rotate_left
                       ·show Act.put _ (some 15) _ = _
                        simp only [Act.put, List.setIfInBounds_toArray, List.set_cons_zero, List.set_cons_succ, i64_w, i32_w]
                        rfl
                       exact norm_ q16c (hJ5_6 (gb362, gb363) _ ⟨hHeld, q16d, q16e, (q16b), (q16b), (q16b), GW362.out, GE362.out, NB360_362.out, NB362_360.out, NB363_362.out, NB362_363.out, GW363.out, GE363.out, NB360_363.out, NB363_360.out, (zm HB)⟩)
                      ·skip
                       refine box_step ?hg (N := 16) ?hd (cs := #[.int .i64 0, .int .i64 0, .string (⟨#[]⟩ : ByteArray), .slice none 0 0, .slice none 0 0]) (t := 33) ?hr ?_; (case hd => rfl); (case hg => rfl); (case hr => first | (go_simp; done) | (go_simp; rfl))
                       intro gb364 hg w37 hbox hb
                       have BK364 := za (hbox)
                       have GW364 := zg HB hg
                       have GE364 := zg HB hg
                       have NB360_364 := zl BK360 hg
                       have NB364_360 := zr BK360 hg
                       have NB362_364 := zl BK362 hg
                       have NB364_362 := zr BK362 hg
                       replace HO_361003 := zR HO_361003 hb
                       replace HO_361004 := zR HO_361004 hb
                       replace BK360 := zb BK360 hb
                       replace BK362 := zb BK362 hb
                       replace HB := zs HB hb
                       clear hb hbox hg
                       refine hK.out _ _ ⟨(blk_cell BK360.out 0).trans rfl, (blk_cell BK360.out 1).trans rfl, (blk_cell BK360.out 2).trans rfl, (blk_cell BK360.out 3).trans rfl, (blk_cell BK360.out 4).trans rfl⟩ (fun hHeld => ?_)
                       clear hK K
                       refine norm_ (a' := ?_) ?_ ?_
                       rotate_left
                       ·show Act.put _ (some 16) _ = _
                        simp only [Act.put, List.setIfInBounds_toArray, List.set_cons_zero, List.set_cons_succ, i64_w, i32_w]
                        rfl
                       exact norm_ q16c (hJ5_7 (gb362, gb364) _ ⟨hHeld, q16d, q16e, (q16b), (q16b), (q16b), GW362.out, GE362.out, NB360_362.out, NB362_360.out, NB364_362.out, NB362_364.out, GW364.out, GE364.out, NB360_364.out, NB364_360.out, (zm HB)⟩)
                    ·skip
                     rintro gb361 w36 ⟨hS_, h0_, h1_, h2_, h3_, h4_, h5_, h6_, h7_, h8_⟩
                     have n0_ : Aside0 (Kd.R k23 23 w36 w.heap.size (fun _ => True) (.slice Ao14 t353.length co14) t353) := ⟨h0_⟩
                     have n1_ : Aside0 (Kd.R (Kd.int .i64) 3 w36 w.heap.size (fun _ => True) (.slice Ao15 t356.length co15) t356) := ⟨h1_⟩
                     have n2_ : Aside0 (w36.heap[gb360]? = some (.cells #[.int .i64 t350, .int .i64 t351, .string t352, .slice Ao14 t353.length co14, .slice Ao15 t356.length co15] 33 (0, 0))) := ⟨h2_⟩
                     have n3_ : Aside0 (w36.heap[gb361]? = some (.cells #[.int .i64 0, .int .i64 0, .string (⟨#[]⟩ : ByteArray), .slice none 0 0, .slice none 0 0] 33 (0, 0))) := ⟨h3_⟩
                     have n4_ : Aside0 (w.heap.size ≤ gb361) := ⟨h4_⟩
                     have n5_ : Aside0 (w.heap.size ≤ gb361) := ⟨h5_⟩
                     have n6_ : Aside0 (gb360 ≠ gb361) := ⟨h6_⟩
                     have n7_ : Aside0 (gb361 ≠ gb360) := ⟨h7_⟩
                     have n8_ : Aside0 (Below w.heap.size w w36) := ⟨h8_⟩
                     clear HO_361003 HO_361004 BK360 HB h0_ h1_ h2_ h3_ h4_ h5_ h6_ h7_ h8_; have HO_361003 := n0_; have HO_361004 := n1_; have BK360 := n2_; have BK361 := n3_; have GW361 := n4_; have GE361 := n5_; have NB360_361 := n6_; have NB361_360 := n7_; have HB := n8_; clear n0_ n1_ n2_ n3_ n4_ n5_ n6_ n7_ n8_
                     have hHeld : w36.cell? ⟨gb360, 0, none⟩ = some (.int .i64 t350) ∧ w36.cell? ⟨gb360, 1, none⟩ = some (.int .i64 t351) ∧ w36.cell? ⟨gb360, 2, none⟩ = some (.string t352) ∧ w36.cell? ⟨gb360, 3, none⟩ = some (.slice Ao14 t353.length co14) ∧ w36.cell? ⟨gb360, 4, none⟩ = some (.slice Ao15 t356.length co15) := hS_
                     refine norm_ (a' := ?_) ?_ ?_
                     rotate_left
                     ·simp only [putAll, Act.put, List.setIfInBounds_toArray, List.set_cons_zero, List.set_cons_succ]
                      rfl
                     refine three_ (i := 5) (j := 6) (k := 7) (Ni := some 14) (Nj := some 15) (Nk := some 16) #[true, true, true, true, true, true, false, false, false, false, false, false] #[true, true, true, true, true, false, true, false, false, false, false, false] #[true, true, true, true, true, false, false, true, false, false, false, false] rfl rfl rfl rfl rfl rfl (three_of HT_.out (by kernel_rfl)) (by decide) (by decide) (by decide) (fun K hK => ?_) (fun K hK => ?_) (fun K hK => ?_)
                     ·skip
                      refine box_step ?hg (N := 14) ?hd (cs := #[.int .i64 0, .int .i64 0, .string (⟨#[]⟩ : ByteArray), .slice none 0 0, .slice none 0 0]) (t := 33) ?hr ?_; (case hd => rfl); (case hg => rfl); (case hr => first | (go_simp; done) | (go_simp; rfl))
                      intro gb362 hg w37 hbox hb
                      have BK362 := za (hbox)
                      have GW362 := zg HB hg
                      have GE362 := zg HB hg
                      have NB360_362 := zl BK360 hg
                      have NB362_360 := zr BK360 hg
                      have NB361_362 := zl BK361 hg
                      have NB362_361 := zr BK361 hg
                      replace HO_361003 := zR HO_361003 hb
                      replace HO_361004 := zR HO_361004 hb
                      replace BK360 := zb BK360 hb
                      replace BK361 := zb BK361 hb
                      replace HB := zs HB hb
                      clear hb hbox hg
                      refine hK.out _ _ ⟨(blk_cell BK360.out 0).trans rfl, (blk_cell BK360.out 1).trans rfl, (blk_cell BK360.out 2).trans rfl, (blk_cell BK360.out 3).trans rfl, (blk_cell BK360.out 4).trans rfl⟩ (fun hHeld => ?_)
                      clear hK K
                      refine norm_ (a' := ?_) ?_ ?_
                      rotate_left
                      ·show Act.put _ (some 14) _ = _
                       simp only [Act.put, List.setIfInBounds_toArray, List.set_cons_zero, List.set_cons_succ, i64_w, i32_w]
                       rfl
                      exact norm_ q16c (hJ4_5 (gb361, gb362) _ ⟨hHeld, q16d, q16e, (q16b), (q16b), (q16b), GW361.out, GE361.out, NB360_361.out, NB361_360.out, NB362_361.out, NB361_362.out, GW362.out, GE362.out, NB360_362.out, NB362_360.out, (zm HB)⟩)
                     ·skip
                      refine box_step ?hg (N := 15) ?hd (cs := #[.int .i64 0, .int .i64 0, .string (⟨#[]⟩ : ByteArray), .slice none 0 0, .slice none 0 0]) (t := 33) ?hr ?_; (case hd => rfl); (case hg => rfl); (case hr => first | (go_simp; done) | (go_simp; rfl))
                      intro gb363 hg w37 hbox hb
                      have BK363 := za (hbox)
                      have GW363 := zg HB hg
                      have GE363 := zg HB hg
                      have NB360_363 := zl BK360 hg
                      have NB363_360 := zr BK360 hg
                      have NB361_363 := zl BK361 hg
                      have NB363_361 := zr BK361 hg
                      replace HO_361003 := zR HO_361003 hb
                      replace HO_361004 := zR HO_361004 hb
                      replace BK360 := zb BK360 hb
                      replace BK361 := zb BK361 hb
                      replace HB := zs HB hb
                      clear hb hbox hg
                      refine hK.out _ _ ⟨(blk_cell BK360.out 0).trans rfl, (blk_cell BK360.out 1).trans rfl, (blk_cell BK360.out 2).trans rfl, (blk_cell BK360.out 3).trans rfl, (blk_cell BK360.out 4).trans rfl⟩ (fun hHeld => ?_)
                      clear hK K
                      refine norm_ (a' := ?_) ?_ ?_
                      rotate_left
                      ·show Act.put _ (some 15) _ = _
                       simp only [Act.put, List.setIfInBounds_toArray, List.set_cons_zero, List.set_cons_succ, i64_w, i32_w]
                       rfl
                      exact norm_ q16c (hJ4_6 (gb361, gb363) _ ⟨hHeld, q16d, q16e, (q16b), (q16b), (q16b), GW361.out, GE361.out, NB360_361.out, NB361_360.out, NB363_361.out, NB361_363.out, GW363.out, GE363.out, NB360_363.out, NB363_360.out, (zm HB)⟩)
                     ·skip
                      refine box_step ?hg (N := 16) ?hd (cs := #[.int .i64 0, .int .i64 0, .string (⟨#[]⟩ : ByteArray), .slice none 0 0, .slice none 0 0]) (t := 33) ?hr ?_; (case hd => rfl); (case hg => rfl); (case hr => first | (go_simp; done) | (go_simp; rfl))
                      intro gb364 hg w37 hbox hb
                      have BK364 := za (hbox)
                      have GW364 := zg HB hg
                      have GE364 := zg HB hg
                      have NB360_364 := zl BK360 hg
                      have NB364_360 := zr BK360 hg
                      have NB361_364 := zl BK361 hg
                      have NB364_361 := zr BK361 hg
                      replace HO_361003 := zR HO_361003 hb
                      replace HO_361004 := zR HO_361004 hb
                      replace BK360 := zb BK360 hb
                      replace BK361 := zb BK361 hb
                      replace HB := zs HB hb
                      clear hb hbox hg
                      refine hK.out _ _ ⟨(blk_cell BK360.out 0).trans rfl, (blk_cell BK360.out 1).trans rfl, (blk_cell BK360.out 2).trans rfl, (blk_cell BK360.out 3).trans rfl, (blk_cell BK360.out 4).trans rfl⟩ (fun hHeld => ?_)
                      clear hK K
                      refine norm_ (a' := ?_) ?_ ?_
                      rotate_left
                      ·show Act.put _ (some 16) _ = _
                       simp only [Act.put, List.setIfInBounds_toArray, List.set_cons_zero, List.set_cons_succ, i64_w, i32_w]
                       rfl
                      exact norm_ q16c (hJ4_7 (gb361, gb364) _ ⟨hHeld, q16d, q16e, (q16b), (q16b), (q16b), GW361.out, GE361.out, NB360_361.out, NB361_360.out, NB364_361.out, NB361_364.out, GW364.out, GE364.out, NB360_364.out, NB364_360.out, (zm HB)⟩)
                   ·skip
                    rintro ⟨gb363, gb364⟩ w37 ⟨hS_, h0_, h1_, h2_, h3_, h4_, h5_, h6_, h7_, h8_, h9_, h10_, h11_, h12_, h13_, h14_, h15_⟩
                    have n0_ : Aside0 (Kd.R k23 23 w37 w.heap.size (fun _ => True) (.slice Ao14 t353.length co14) t353) := ⟨h0_⟩
                    have n1_ : Aside0 (Kd.R (Kd.int .i64) 3 w37 w.heap.size (fun _ => True) (.slice Ao15 t356.length co15) t356) := ⟨h1_⟩
                    have n2_ : Aside0 (w37.heap[gb360]? = some (.cells #[.int .i64 t350, .int .i64 t351, .string t352, .slice Ao14 t353.length co14, .slice Ao15 t356.length co15] 33 (0, 0))) := ⟨h2_⟩
                    have n3_ : Aside0 (w37.heap[gb363]? = some (.cells #[.int .i64 0, .int .i64 0, .string (⟨#[]⟩ : ByteArray), .slice none 0 0, .slice none 0 0] 33 (0, 0))) := ⟨h3_⟩
                    have n4_ : Aside0 (w37.heap[gb364]? = some (.cells #[.int .i64 0, .int .i64 0, .string (⟨#[]⟩ : ByteArray), .slice none 0 0, .slice none 0 0] 33 (0, 0))) := ⟨h4_⟩
                    have n5_ : Aside0 (w.heap.size ≤ gb363) := ⟨h5_⟩
                    have n6_ : Aside0 (w.heap.size ≤ gb363) := ⟨h6_⟩
                    have n7_ : Aside0 (gb360 ≠ gb363) := ⟨h7_⟩
                    have n8_ : Aside0 (gb363 ≠ gb360) := ⟨h8_⟩
                    have n9_ : Aside0 (gb364 ≠ gb363) := ⟨h9_⟩
                    have n10_ : Aside0 (gb363 ≠ gb364) := ⟨h10_⟩
                    have n11_ : Aside0 (w.heap.size ≤ gb364) := ⟨h11_⟩
                    have n12_ : Aside0 (w.heap.size ≤ gb364) := ⟨h12_⟩
                    have n13_ : Aside0 (gb360 ≠ gb364) := ⟨h13_⟩
                    have n14_ : Aside0 (gb364 ≠ gb360) := ⟨h14_⟩
                    have n15_ : Aside0 (Below w.heap.size w w37) := ⟨h15_⟩
                    clear HO_361003 HO_361004 BK360 HB h0_ h1_ h2_ h3_ h4_ h5_ h6_ h7_ h8_ h9_ h10_ h11_ h12_ h13_ h14_ h15_; have HO_361003 := n0_; have HO_361004 := n1_; have BK360 := n2_; have BK363 := n3_; have BK364 := n4_; have GW363 := n5_; have GE363 := n6_; have NB360_363 := n7_; have NB363_360 := n8_; have NB364_363 := n9_; have NB363_364 := n10_; have GW364 := n11_; have GE364 := n12_; have NB360_364 := n13_; have NB364_360 := n14_; have HB := n15_; clear n0_ n1_ n2_ n3_ n4_ n5_ n6_ n7_ n8_ n9_ n10_ n11_ n12_ n13_ n14_ n15_
                    have hHeld : w37.cell? ⟨gb360, 0, none⟩ = some (.int .i64 t350) ∧ w37.cell? ⟨gb360, 1, none⟩ = some (.int .i64 t351) ∧ w37.cell? ⟨gb360, 2, none⟩ = some (.string t352) ∧ w37.cell? ⟨gb360, 3, none⟩ = some (.slice Ao14 t353.length co14) ∧ w37.cell? ⟨gb360, 4, none⟩ = some (.slice Ao15 t356.length co15) := hS_
                    refine norm_ (a' := ?_) ?_ ?_
                    rotate_left
                    ·simp only [putAll, Act.put, List.setIfInBounds_toArray, List.set_cons_zero, List.set_cons_succ]
                     rfl
                    refine two_ (i := 4) (j := 5) (Ni := some 13) (Nj := some 14) #[true, true, true, true, true, false, true, true, false, false, false, false] #[true, true, true, true, false, true, true, true, false, false, false, false] rfl rfl rfl rfl (two_of HT_.out (by kernel_rfl)) (by decide) (by decide) (fun K hK => ?_) (fun K hK => ?_)
                    ·skip
                     refine box_step ?hg (N := 13) ?hd (cs := #[.int .i64 0, .int .i64 0, .string (⟨#[]⟩ : ByteArray), .slice none 0 0, .slice none 0 0]) (t := 33) ?hr ?_; (case hd => rfl); (case hg => rfl); (case hr => first | (go_simp; done) | (go_simp; rfl))
                     intro gb361 hg w38 hbox hb
                     have BK361 := za (hbox)
                     have GW361 := zg HB hg
                     have GE361 := zg HB hg
                     have NB360_361 := zl BK360 hg
                     have NB361_360 := zr BK360 hg
                     have NB363_361 := zl BK363 hg
                     have NB361_363 := zr BK363 hg
                     have NB364_361 := zl BK364 hg
                     have NB361_364 := zr BK364 hg
                     replace HO_361003 := zR HO_361003 hb
                     replace HO_361004 := zR HO_361004 hb
                     replace BK360 := zb BK360 hb
                     replace BK363 := zb BK363 hb
                     replace BK364 := zb BK364 hb
                     replace HB := zs HB hb
                     clear hb hbox hg
                     refine hK.out _ _ ⟨(blk_cell BK360.out 0).trans rfl, (blk_cell BK360.out 1).trans rfl, (blk_cell BK360.out 2).trans rfl, (blk_cell BK360.out 3).trans rfl, (blk_cell BK360.out 4).trans rfl⟩ (fun hHeld => ?_)
                     clear hK K
                     refine norm_ (a' := ?_) ?_ ?_
                     rotate_left
                     ·show Act.put _ (some 13) _ = _
                      simp only [Act.put, List.setIfInBounds_toArray, List.set_cons_zero, List.set_cons_succ, i64_w, i32_w]
                      rfl
                     exact norm_ q16c (hJ4_6_7 (gb361, gb363, gb364) _ ⟨hHeld, q16d, q16e, (q16b), (q16b), (q16b), (q16b), GW361.out, GE361.out, NB360_361.out, NB361_360.out, NB363_361.out, NB361_363.out, NB364_361.out, NB361_364.out, GW363.out, GE363.out, NB360_363.out, NB363_360.out, NB364_363.out, NB363_364.out, GW364.out, GE364.out, NB360_364.out, NB364_360.out, (zm HB)⟩)
                    ·skip
                     refine box_step ?hg (N := 14) ?hd (cs := #[.int .i64 0, .int .i64 0, .string (⟨#[]⟩ : ByteArray), .slice none 0 0, .slice none 0 0]) (t := 33) ?hr ?_; (case hd => rfl); (case hg => rfl); (case hr => first | (go_simp; done) | (go_simp; rfl))
                     intro gb362 hg w38 hbox hb
                     have BK362 := za (hbox)
                     have GW362 := zg HB hg
                     have GE362 := zg HB hg
                     have NB360_362 := zl BK360 hg
                     have NB362_360 := zr BK360 hg
                     have NB363_362 := zl BK363 hg
                     have NB362_363 := zr BK363 hg
                     have NB364_362 := zl BK364 hg
                     have NB362_364 := zr BK364 hg
                     replace HO_361003 := zR HO_361003 hb
                     replace HO_361004 := zR HO_361004 hb
                     replace BK360 := zb BK360 hb
                     replace BK363 := zb BK363 hb
                     replace BK364 := zb BK364 hb
                     replace HB := zs HB hb
                     clear hb hbox hg
                     refine hK.out _ _ ⟨(blk_cell BK360.out 0).trans rfl, (blk_cell BK360.out 1).trans rfl, (blk_cell BK360.out 2).trans rfl, (blk_cell BK360.out 3).trans rfl, (blk_cell BK360.out 4).trans rfl⟩ (fun hHeld => ?_)
                     clear hK K
                     refine norm_ (a' := ?_) ?_ ?_
                     rotate_left
                     ·show Act.put _ (some 14) _ = _
                      simp only [Act.put, List.setIfInBounds_toArray, List.set_cons_zero, List.set_cons_succ, i64_w, i32_w]
                      rfl
                     exact norm_ q16c (hJ5_6_7 (gb362, gb363, gb364) _ ⟨hHeld, q16d, q16e, (q16b), (q16b), (q16b), (q16b), GW362.out, GE362.out, NB360_362.out, NB362_360.out, NB363_362.out, NB362_363.out, NB364_362.out, NB362_364.out, GW363.out, GE363.out, NB360_363.out, NB363_360.out, NB364_363.out, NB363_364.out, GW364.out, GE364.out, NB360_364.out, NB364_360.out, (zm HB)⟩)
                  ·skip
                   rintro ⟨gb362, gb364⟩ w37 ⟨hS_, h0_, h1_, h2_, h3_, h4_, h5_, h6_, h7_, h8_, h9_, h10_, h11_, h12_, h13_, h14_, h15_⟩
                   have n0_ : Aside0 (Kd.R k23 23 w37 w.heap.size (fun _ => True) (.slice Ao14 t353.length co14) t353) := ⟨h0_⟩
                   have n1_ : Aside0 (Kd.R (Kd.int .i64) 3 w37 w.heap.size (fun _ => True) (.slice Ao15 t356.length co15) t356) := ⟨h1_⟩
                   have n2_ : Aside0 (w37.heap[gb360]? = some (.cells #[.int .i64 t350, .int .i64 t351, .string t352, .slice Ao14 t353.length co14, .slice Ao15 t356.length co15] 33 (0, 0))) := ⟨h2_⟩
                   have n3_ : Aside0 (w37.heap[gb362]? = some (.cells #[.int .i64 0, .int .i64 0, .string (⟨#[]⟩ : ByteArray), .slice none 0 0, .slice none 0 0] 33 (0, 0))) := ⟨h3_⟩
                   have n4_ : Aside0 (w37.heap[gb364]? = some (.cells #[.int .i64 0, .int .i64 0, .string (⟨#[]⟩ : ByteArray), .slice none 0 0, .slice none 0 0] 33 (0, 0))) := ⟨h4_⟩
                   have n5_ : Aside0 (w.heap.size ≤ gb362) := ⟨h5_⟩
                   have n6_ : Aside0 (w.heap.size ≤ gb362) := ⟨h6_⟩
                   have n7_ : Aside0 (gb360 ≠ gb362) := ⟨h7_⟩
                   have n8_ : Aside0 (gb362 ≠ gb360) := ⟨h8_⟩
                   have n9_ : Aside0 (gb364 ≠ gb362) := ⟨h9_⟩
                   have n10_ : Aside0 (gb362 ≠ gb364) := ⟨h10_⟩
                   have n11_ : Aside0 (w.heap.size ≤ gb364) := ⟨h11_⟩
                   have n12_ : Aside0 (w.heap.size ≤ gb364) := ⟨h12_⟩
                   have n13_ : Aside0 (gb360 ≠ gb364) := ⟨h13_⟩
                   have n14_ : Aside0 (gb364 ≠ gb360) := ⟨h14_⟩
                   have n15_ : Aside0 (Below w.heap.size w w37) := ⟨h15_⟩
                   clear HO_361003 HO_361004 BK360 HB h0_ h1_ h2_ h3_ h4_ h5_ h6_ h7_ h8_ h9_ h10_ h11_ h12_ h13_ h14_ h15_; have HO_361003 := n0_; have HO_361004 := n1_; have BK360 := n2_; have BK362 := n3_; have BK364 := n4_; have GW362 := n5_; have GE362 := n6_; have NB360_362 := n7_; have NB362_360 := n8_; have NB364_362 := n9_; have NB362_364 := n10_; have GW364 := n11_; have GE364 := n12_; have NB360_364 := n13_; have NB364_360 := n14_; have HB := n15_; clear n0_ n1_ n2_ n3_ n4_ n5_ n6_ n7_ n8_ n9_ n10_ n11_ n12_ n13_ n14_ n15_
                   have hHeld : w37.cell? ⟨gb360, 0, none⟩ = some (.int .i64 t350) ∧ w37.cell? ⟨gb360, 1, none⟩ = some (.int .i64 t351) ∧ w37.cell? ⟨gb360, 2, none⟩ = some (.string t352) ∧ w37.cell? ⟨gb360, 3, none⟩ = some (.slice Ao14 t353.length co14) ∧ w37.cell? ⟨gb360, 4, none⟩ = some (.slice Ao15 t356.length co15) := hS_
                   refine norm_ (a' := ?_) ?_ ?_
                   rotate_left
                   ·simp only [putAll, Act.put, List.setIfInBounds_toArray, List.set_cons_zero, List.set_cons_succ]
                    rfl
                   refine two_ (i := 4) (j := 6) (Ni := some 13) (Nj := some 15) #[true, true, true, true, true, true, false, true, false, false, false, false] #[true, true, true, true, false, true, true, true, false, false, false, false] rfl rfl rfl rfl (two_of HT_.out (by kernel_rfl)) (by decide) (by decide) (fun K hK => ?_) (fun K hK => ?_)
                   ·skip
                    refine box_step ?hg (N := 13) ?hd (cs := #[.int .i64 0, .int .i64 0, .string (⟨#[]⟩ : ByteArray), .slice none 0 0, .slice none 0 0]) (t := 33) ?hr ?_; (case hd => rfl); (case hg => rfl); (case hr => first | (go_simp; done) | (go_simp; rfl))
                    intro gb361 hg w38 hbox hb
                    have BK361 := za (hbox)
                    have GW361 := zg HB hg
                    have GE361 := zg HB hg
                    have NB360_361 := zl BK360 hg
                    have NB361_360 := zr BK360 hg
                    have NB362_361 := zl BK362 hg
                    have NB361_362 := zr BK362 hg
                    have NB364_361 := zl BK364 hg
                    have NB361_364 := zr BK364 hg
                    replace HO_361003 := zR HO_361003 hb
                    replace HO_361004 := zR HO_361004 hb
                    replace BK360 := zb BK360 hb
                    replace BK362 := zb BK362 hb
                    replace BK364 := zb BK364 hb
                    replace HB := zs HB hb
                    clear hb hbox hg
                    refine hK.out _ _ ⟨(blk_cell BK360.out 0).trans rfl, (blk_cell BK360.out 1).trans rfl, (blk_cell BK360.out 2).trans rfl, (blk_cell BK360.out 3).trans rfl, (blk_cell BK360.out 4).trans rfl⟩ (fun hHeld => ?_)
                    clear hK K
                    refine norm_ (a' := ?_) ?_ ?_
                    rotate_left
                    ·show Act.put _ (some 13) _ = _
                     simp only [Act.put, List.setIfInBounds_toArray, List.set_cons_zero, List.set_cons_succ, i64_w, i32_w]
                     rfl
                    exact norm_ q16c (hJ4_5_7 (gb361, gb362, gb364) _ ⟨hHeld, q16d, q16e, (q16b), (q16b), (q16b), (q16b), GW361.out, GE361.out, NB360_361.out, NB361_360.out, NB362_361.out, NB361_362.out, NB364_361.out, NB361_364.out, GW362.out, GE362.out, NB360_362.out, NB362_360.out, NB364_362.out, NB362_364.out, GW364.out, GE364.out, NB360_364.out, NB364_360.out, (zm HB)⟩)
                   ·skip
                    refine box_step ?hg (N := 15) ?hd (cs := #[.int .i64 0, .int .i64 0, .string (⟨#[]⟩ : ByteArray), .slice none 0 0, .slice none 0 0]) (t := 33) ?hr ?_; (case hd => rfl); (case hg => rfl); (case hr => first | (go_simp; done) | (go_simp; rfl))
                    intro gb363 hg w38 hbox hb
                    have BK363 := za (hbox)
                    have GW363 := zg HB hg
                    have GE363 := zg HB hg
                    have NB360_363 := zl BK360 hg
                    have NB363_360 := zr BK360 hg
                    have NB362_363 := zl BK362 hg
                    have NB363_362 := zr BK362 hg
                    have NB364_363 := zl BK364 hg
                    have NB363_364 := zr BK364 hg
                    replace HO_361003 := zR HO_361003 hb
                    replace HO_361004 := zR HO_361004 hb
                    replace BK360 := zb BK360 hb
                    replace BK362 := zb BK362 hb
                    replace BK364 := zb BK364 hb
                    replace HB := zs HB hb
                    clear hb hbox hg
                    refine hK.out _ _ ⟨(blk_cell BK360.out 0).trans rfl, (blk_cell BK360.out 1).trans rfl, (blk_cell BK360.out 2).trans rfl, (blk_cell BK360.out 3).trans rfl, (blk_cell BK360.out 4).trans rfl⟩ (fun hHeld => ?_)
                    clear hK K
                    refine norm_ (a' := ?_) ?_ ?_
                    rotate_left
                    ·show Act.put _ (some 15) _ = _
                     simp only [Act.put, List.setIfInBounds_toArray, List.set_cons_zero, List.set_cons_succ, i64_w, i32_w]
                     rfl
                    exact norm_ q16c (hJ5_6_7 (gb362, gb363, gb364) _ ⟨hHeld, q16d, q16e, (q16b), (q16b), (q16b), (q16b), GW362.out, GE362.out, NB360_362.out, NB362_360.out, NB363_362.out, NB362_363.out, NB364_362.out, NB362_364.out, GW363.out, GE363.out, NB360_363.out, NB363_360.out, NB364_363.out, NB363_364.out, GW364.out, GE364.out, NB360_364.out, NB364_360.out, (zm HB)⟩)
                 ·skip
                  rintro ⟨gb362, gb363⟩ w37 ⟨hS_, h0_, h1_, h2_, h3_, h4_, h5_, h6_, h7_, h8_, h9_, h10_, h11_, h12_, h13_, h14_, h15_⟩
                  have n0_ : Aside0 (Kd.R k23 23 w37 w.heap.size (fun _ => True) (.slice Ao14 t353.length co14) t353) := ⟨h0_⟩
                  have n1_ : Aside0 (Kd.R (Kd.int .i64) 3 w37 w.heap.size (fun _ => True) (.slice Ao15 t356.length co15) t356) := ⟨h1_⟩
                  have n2_ : Aside0 (w37.heap[gb360]? = some (.cells #[.int .i64 t350, .int .i64 t351, .string t352, .slice Ao14 t353.length co14, .slice Ao15 t356.length co15] 33 (0, 0))) := ⟨h2_⟩
                  have n3_ : Aside0 (w37.heap[gb362]? = some (.cells #[.int .i64 0, .int .i64 0, .string (⟨#[]⟩ : ByteArray), .slice none 0 0, .slice none 0 0] 33 (0, 0))) := ⟨h3_⟩
                  have n4_ : Aside0 (w37.heap[gb363]? = some (.cells #[.int .i64 0, .int .i64 0, .string (⟨#[]⟩ : ByteArray), .slice none 0 0, .slice none 0 0] 33 (0, 0))) := ⟨h4_⟩
                  have n5_ : Aside0 (w.heap.size ≤ gb362) := ⟨h5_⟩
                  have n6_ : Aside0 (w.heap.size ≤ gb362) := ⟨h6_⟩
                  have n7_ : Aside0 (gb360 ≠ gb362) := ⟨h7_⟩
                  have n8_ : Aside0 (gb362 ≠ gb360) := ⟨h8_⟩
                  have n9_ : Aside0 (gb363 ≠ gb362) := ⟨h9_⟩
                  have n10_ : Aside0 (gb362 ≠ gb363) := ⟨h10_⟩
                  have n11_ : Aside0 (w.heap.size ≤ gb363) := ⟨h11_⟩
                  have n12_ : Aside0 (w.heap.size ≤ gb363) := ⟨h12_⟩
                  have n13_ : Aside0 (gb360 ≠ gb363) := ⟨h13_⟩
                  have n14_ : Aside0 (gb363 ≠ gb360) := ⟨h14_⟩
                  have n15_ : Aside0 (Below w.heap.size w w37) := ⟨h15_⟩
                  clear HO_361003 HO_361004 BK360 HB h0_ h1_ h2_ h3_ h4_ h5_ h6_ h7_ h8_ h9_ h10_ h11_ h12_ h13_ h14_ h15_; have HO_361003 := n0_; have HO_361004 := n1_; have BK360 := n2_; have BK362 := n3_; have BK363 := n4_; have GW362 := n5_; have GE362 := n6_; have NB360_362 := n7_; have NB362_360 := n8_; have NB363_362 := n9_; have NB362_363 := n10_; have GW363 := n11_; have GE363 := n12_; have NB360_363 := n13_; have NB363_360 := n14_; have HB := n15_; clear n0_ n1_ n2_ n3_ n4_ n5_ n6_ n7_ n8_ n9_ n10_ n11_ n12_ n13_ n14_ n15_
                  have hHeld : w37.cell? ⟨gb360, 0, none⟩ = some (.int .i64 t350) ∧ w37.cell? ⟨gb360, 1, none⟩ = some (.int .i64 t351) ∧ w37.cell? ⟨gb360, 2, none⟩ = some (.string t352) ∧ w37.cell? ⟨gb360, 3, none⟩ = some (.slice Ao14 t353.length co14) ∧ w37.cell? ⟨gb360, 4, none⟩ = some (.slice Ao15 t356.length co15) := hS_
                  refine norm_ (a' := ?_) ?_ ?_
                  rotate_left
                  ·simp only [putAll, Act.put, List.setIfInBounds_toArray, List.set_cons_zero, List.set_cons_succ]
                   rfl
                  refine two_ (i := 4) (j := 7) (Ni := some 13) (Nj := some 16) #[true, true, true, true, true, true, true, false, false, false, false, false] #[true, true, true, true, false, true, true, true, false, false, false, false] rfl rfl rfl rfl (two_of HT_.out (by kernel_rfl)) (by decide) (by decide) (fun K hK => ?_) (fun K hK => ?_)
                  ·skip
                   refine box_step ?hg (N := 13) ?hd (cs := #[.int .i64 0, .int .i64 0, .string (⟨#[]⟩ : ByteArray), .slice none 0 0, .slice none 0 0]) (t := 33) ?hr ?_; (case hd => rfl); (case hg => rfl); (case hr => first | (go_simp; done) | (go_simp; rfl))
                   intro gb361 hg w38 hbox hb
                   have BK361 := za (hbox)
                   have GW361 := zg HB hg
                   have GE361 := zg HB hg
                   have NB360_361 := zl BK360 hg
                   have NB361_360 := zr BK360 hg
                   have NB362_361 := zl BK362 hg
                   have NB361_362 := zr BK362 hg
                   have NB363_361 := zl BK363 hg
                   have NB361_363 := zr BK363 hg
                   replace HO_361003 := zR HO_361003 hb
                   replace HO_361004 := zR HO_361004 hb
                   replace BK360 := zb BK360 hb
                   replace BK362 := zb BK362 hb
                   replace BK363 := zb BK363 hb
                   replace HB := zs HB hb
                   clear hb hbox hg
                   refine hK.out _ _ ⟨(blk_cell BK360.out 0).trans rfl, (blk_cell BK360.out 1).trans rfl, (blk_cell BK360.out 2).trans rfl, (blk_cell BK360.out 3).trans rfl, (blk_cell BK360.out 4).trans rfl⟩ (fun hHeld => ?_)
                   clear hK K
                   refine norm_ (a' := ?_) ?_ ?_
                   rotate_left
                   ·show Act.put _ (some 13) _ = _
                    simp only [Act.put, List.setIfInBounds_toArray, List.set_cons_zero, List.set_cons_succ, i64_w, i32_w]
                    rfl
                   exact norm_ q16c (hJ4_5_6 (gb361, gb362, gb363) _ ⟨hHeld, q16d, q16e, (q16b), (q16b), (q16b), (q16b), GW361.out, GE361.out, NB360_361.out, NB361_360.out, NB362_361.out, NB361_362.out, NB363_361.out, NB361_363.out, GW362.out, GE362.out, NB360_362.out, NB362_360.out, NB363_362.out, NB362_363.out, GW363.out, GE363.out, NB360_363.out, NB363_360.out, (zm HB)⟩)
                  ·skip
                   refine box_step ?hg (N := 16) ?hd (cs := #[.int .i64 0, .int .i64 0, .string (⟨#[]⟩ : ByteArray), .slice none 0 0, .slice none 0 0]) (t := 33) ?hr ?_; (case hd => rfl); (case hg => rfl); (case hr => first | (go_simp; done) | (go_simp; rfl))
                   intro gb364 hg w38 hbox hb
                   have BK364 := za (hbox)
                   have GW364 := zg HB hg
                   have GE364 := zg HB hg
                   have NB360_364 := zl BK360 hg
                   have NB364_360 := zr BK360 hg
                   have NB362_364 := zl BK362 hg
                   have NB364_362 := zr BK362 hg
                   have NB363_364 := zl BK363 hg
                   have NB364_363 := zr BK363 hg
                   replace HO_361003 := zR HO_361003 hb
                   replace HO_361004 := zR HO_361004 hb
                   replace BK360 := zb BK360 hb
                   replace BK362 := zb BK362 hb
                   replace BK363 := zb BK363 hb
                   replace HB := zs HB hb
                   clear hb hbox hg
                   refine hK.out _ _ ⟨(blk_cell BK360.out 0).trans rfl, (blk_cell BK360.out 1).trans rfl, (blk_cell BK360.out 2).trans rfl, (blk_cell BK360.out 3).trans rfl, (blk_cell BK360.out 4).trans rfl⟩ (fun hHeld => ?_)
                   clear hK K
                   refine norm_ (a' := ?_) ?_ ?_
                   rotate_left
                   ·show Act.put _ (some 16) _ = _
                    simp only [Act.put, List.setIfInBounds_toArray, List.set_cons_zero, List.set_cons_succ, i64_w, i32_w]
                    rfl
                   exact norm_ q16c (hJ5_6_7 (gb362, gb363, gb364) _ ⟨hHeld, q16d, q16e, (q16b), (q16b), (q16b), (q16b), GW362.out, GE362.out, NB360_362.out, NB362_360.out, NB363_362.out, NB362_363.out, NB364_362.out, NB362_364.out, GW363.out, GE363.out, NB360_363.out, NB363_360.out, NB364_363.out, NB363_364.out, GW364.out, GE364.out, NB360_364.out, NB364_360.out, (zm HB)⟩)
                ·skip
                 rintro ⟨gb361, gb364⟩ w37 ⟨hS_, h0_, h1_, h2_, h3_, h4_, h5_, h6_, h7_, h8_, h9_, h10_, h11_, h12_, h13_, h14_, h15_⟩
                 have n0_ : Aside0 (Kd.R k23 23 w37 w.heap.size (fun _ => True) (.slice Ao14 t353.length co14) t353) := ⟨h0_⟩
                 have n1_ : Aside0 (Kd.R (Kd.int .i64) 3 w37 w.heap.size (fun _ => True) (.slice Ao15 t356.length co15) t356) := ⟨h1_⟩
                 have n2_ : Aside0 (w37.heap[gb360]? = some (.cells #[.int .i64 t350, .int .i64 t351, .string t352, .slice Ao14 t353.length co14, .slice Ao15 t356.length co15] 33 (0, 0))) := ⟨h2_⟩
                 have n3_ : Aside0 (w37.heap[gb361]? = some (.cells #[.int .i64 0, .int .i64 0, .string (⟨#[]⟩ : ByteArray), .slice none 0 0, .slice none 0 0] 33 (0, 0))) := ⟨h3_⟩
                 have n4_ : Aside0 (w37.heap[gb364]? = some (.cells #[.int .i64 0, .int .i64 0, .string (⟨#[]⟩ : ByteArray), .slice none 0 0, .slice none 0 0] 33 (0, 0))) := ⟨h4_⟩
                 have n5_ : Aside0 (w.heap.size ≤ gb361) := ⟨h5_⟩
                 have n6_ : Aside0 (w.heap.size ≤ gb361) := ⟨h6_⟩
                 have n7_ : Aside0 (gb360 ≠ gb361) := ⟨h7_⟩
                 have n8_ : Aside0 (gb361 ≠ gb360) := ⟨h8_⟩
                 have n9_ : Aside0 (gb364 ≠ gb361) := ⟨h9_⟩
                 have n10_ : Aside0 (gb361 ≠ gb364) := ⟨h10_⟩
                 have n11_ : Aside0 (w.heap.size ≤ gb364) := ⟨h11_⟩
                 have n12_ : Aside0 (w.heap.size ≤ gb364) := ⟨h12_⟩
                 have n13_ : Aside0 (gb360 ≠ gb364) := ⟨h13_⟩
                 have n14_ : Aside0 (gb364 ≠ gb360) := ⟨h14_⟩
                 have n15_ : Aside0 (Below w.heap.size w w37) := ⟨h15_⟩
                 clear HO_361003 HO_361004 BK360 HB h0_ h1_ h2_ h3_ h4_ h5_ h6_ h7_ h8_ h9_ h10_ h11_ h12_ h13_ h14_ h15_; have HO_361003 := n0_; have HO_361004 := n1_; have BK360 := n2_; have BK361 := n3_; have BK364 := n4_; have GW361 := n5_; have GE361 := n6_; have NB360_361 := n7_; have NB361_360 := n8_; have NB364_361 := n9_; have NB361_364 := n10_; have GW364 := n11_; have GE364 := n12_; have NB360_364 := n13_; have NB364_360 := n14_; have HB := n15_; clear n0_ n1_ n2_ n3_ n4_ n5_ n6_ n7_ n8_ n9_ n10_ n11_ n12_ n13_ n14_ n15_
                 have hHeld : w37.cell? ⟨gb360, 0, none⟩ = some (.int .i64 t350) ∧ w37.cell? ⟨gb360, 1, none⟩ = some (.int .i64 t351) ∧ w37.cell? ⟨gb360, 2, none⟩ = some (.string t352) ∧ w37.cell? ⟨gb360, 3, none⟩ = some (.slice Ao14 t353.length co14) ∧ w37.cell? ⟨gb360, 4, none⟩ = some (.slice Ao15 t356.length co15) := hS_
                 refine norm_ (a' := ?_) ?_ ?_
                 rotate_left
                 ·simp only [putAll, Act.put, List.setIfInBounds_toArray, List.set_cons_zero, List.set_cons_succ]
                  rfl
                 refine two_ (i := 5) (j := 6) (Ni := some 14) (Nj := some 15) #[true, true, true, true, true, true, false, true, false, false, false, false] #[true, true, true, true, true, false, true, true, false, false, false, false] rfl rfl rfl rfl (two_of HT_.out (by kernel_rfl)) (by decide) (by decide) (fun K hK => ?_) (fun K hK => ?_)
                 ·skip
                  refine box_step ?hg (N := 14) ?hd (cs := #[.int .i64 0, .int .i64 0, .string (⟨#[]⟩ : ByteArray), .slice none 0 0, .slice none 0 0]) (t := 33) ?hr ?_; (case hd => rfl); (case hg => rfl); (case hr => first | (go_simp; done) | (go_simp; rfl))
                  intro gb362 hg w38 hbox hb
                  have BK362 := za (hbox)
                  have GW362 := zg HB hg
                  have GE362 := zg HB hg
                  have NB360_362 := zl BK360 hg
                  have NB362_360 := zr BK360 hg
                  have NB361_362 := zl BK361 hg
                  have NB362_361 := zr BK361 hg
                  have NB364_362 := zl BK364 hg
                  have NB362_364 := zr BK364 hg
                  replace HO_361003 := zR HO_361003 hb
                  replace HO_361004 := zR HO_361004 hb
                  replace BK360 := zb BK360 hb
                  replace BK361 := zb BK361 hb
                  replace BK364 := zb BK364 hb
                  replace HB := zs HB hb
                  clear hb hbox hg
                  refine hK.out _ _ ⟨(blk_cell BK360.out 0).trans rfl, (blk_cell BK360.out 1).trans rfl, (blk_cell BK360.out 2).trans rfl, (blk_cell BK360.out 3).trans rfl, (blk_cell BK360.out 4).trans rfl⟩ (fun hHeld => ?_)
                  clear hK K
                  refine norm_ (a' := ?_) ?_ ?_
                  rotate_left
                  ·show Act.put _ (some 14) _ = _
                   simp only [Act.put, List.setIfInBounds_toArray, List.set_cons_zero, List.set_cons_succ, i64_w, i32_w]
                   rfl
                  exact norm_ q16c (hJ4_5_7 (gb361, gb362, gb364) _ ⟨hHeld, q16d, q16e, (q16b), (q16b), (q16b), (q16b), GW361.out, GE361.out, NB360_361.out, NB361_360.out, NB362_361.out, NB361_362.out, NB364_361.out, NB361_364.out, GW362.out, GE362.out, NB360_362.out, NB362_360.out, NB364_362.out, NB362_364.out, GW364.out, GE364.out, NB360_364.out, NB364_360.out, (zm HB)⟩)
                 ·skip
                  refine box_step ?hg (N := 15) ?hd (cs := #[.int .i64 0, .int .i64 0, .string (⟨#[]⟩ : ByteArray), .slice none 0 0, .slice none 0 0]) (t := 33) ?hr ?_; (case hd => rfl); (case hg => rfl); (case hr => first | (go_simp; done) | (go_simp; rfl))
                  intro gb363 hg w38 hbox hb
                  have BK363 := za (hbox)
                  have GW363 := zg HB hg
                  have GE363 := zg HB hg
                  have NB360_363 := zl BK360 hg
                  have NB363_360 := zr BK360 hg
                  have NB361_363 := zl BK361 hg
                  have NB363_361 := zr BK361 hg
                  have NB364_363 := zl BK364 hg
                  have NB363_364 := zr BK364 hg
                  replace HO_361003 := zR HO_361003 hb
                  replace HO_361004 := zR HO_361004 hb
                  replace BK360 := zb BK360 hb
                  replace BK361 := zb BK361 hb
                  replace BK364 := zb BK364 hb
                  replace HB := zs HB hb
                  clear hb hbox hg
                  refine hK.out _ _ ⟨(blk_cell BK360.out 0).trans rfl, (blk_cell BK360.out 1).trans rfl, (blk_cell BK360.out 2).trans rfl, (blk_cell BK360.out 3).trans rfl, (blk_cell BK360.out 4).trans rfl⟩ (fun hHeld => ?_)
                  clear hK K
                  refine norm_ (a' := ?_) ?_ ?_
                  rotate_left
                  ·show Act.put _ (some 15) _ = _
                   simp only [Act.put, List.setIfInBounds_toArray, List.set_cons_zero, List.set_cons_succ, i64_w, i32_w]
                   rfl
                  exact norm_ q16c (hJ4_6_7 (gb361, gb363, gb364) _ ⟨hHeld, q16d, q16e, (q16b), (q16b), (q16b), (q16b), GW361.out, GE361.out, NB360_361.out, NB361_360.out, NB363_361.out, NB361_363.out, NB364_361.out, NB361_364.out, GW363.out, GE363.out, NB360_363.out, NB363_360.out, NB364_363.out, NB363_364.out, GW364.out, GE364.out, NB360_364.out, NB364_360.out, (zm HB)⟩)
               ·skip
                rintro ⟨gb361, gb363⟩ w37 ⟨hS_, h0_, h1_, h2_, h3_, h4_, h5_, h6_, h7_, h8_, h9_, h10_, h11_, h12_, h13_, h14_, h15_⟩
                have n0_ : Aside0 (Kd.R k23 23 w37 w.heap.size (fun _ => True) (.slice Ao14 t353.length co14) t353) := ⟨h0_⟩
                have n1_ : Aside0 (Kd.R (Kd.int .i64) 3 w37 w.heap.size (fun _ => True) (.slice Ao15 t356.length co15) t356) := ⟨h1_⟩
                have n2_ : Aside0 (w37.heap[gb360]? = some (.cells #[.int .i64 t350, .int .i64 t351, .string t352, .slice Ao14 t353.length co14, .slice Ao15 t356.length co15] 33 (0, 0))) := ⟨h2_⟩
                have n3_ : Aside0 (w37.heap[gb361]? = some (.cells #[.int .i64 0, .int .i64 0, .string (⟨#[]⟩ : ByteArray), .slice none 0 0, .slice none 0 0] 33 (0, 0))) := ⟨h3_⟩
                have n4_ : Aside0 (w37.heap[gb363]? = some (.cells #[.int .i64 0, .int .i64 0, .string (⟨#[]⟩ : ByteArray), .slice none 0 0, .slice none 0 0] 33 (0, 0))) := ⟨h4_⟩
                have n5_ : Aside0 (w.heap.size ≤ gb361) := ⟨h5_⟩
                have n6_ : Aside0 (w.heap.size ≤ gb361) := ⟨h6_⟩
                have n7_ : Aside0 (gb360 ≠ gb361) := ⟨h7_⟩
                have n8_ : Aside0 (gb361 ≠ gb360) := ⟨h8_⟩
                have n9_ : Aside0 (gb363 ≠ gb361) := ⟨h9_⟩
                have n10_ : Aside0 (gb361 ≠ gb363) := ⟨h10_⟩
                have n11_ : Aside0 (w.heap.size ≤ gb363) := ⟨h11_⟩
                have n12_ : Aside0 (w.heap.size ≤ gb363) := ⟨h12_⟩
                have n13_ : Aside0 (gb360 ≠ gb363) := ⟨h13_⟩
                have n14_ : Aside0 (gb363 ≠ gb360) := ⟨h14_⟩
                have n15_ : Aside0 (Below w.heap.size w w37) := ⟨h15_⟩
                clear HO_361003 HO_361004 BK360 HB h0_ h1_ h2_ h3_ h4_ h5_ h6_ h7_ h8_ h9_ h10_ h11_ h12_ h13_ h14_ h15_; have HO_361003 := n0_; have HO_361004 := n1_; have BK360 := n2_; have BK361 := n3_; have BK363 := n4_; have GW361 := n5_; have GE361 := n6_; have NB360_361 := n7_; have NB361_360 := n8_; have NB363_361 := n9_; have NB361_363 := n10_; have GW363 := n11_; have GE363 := n12_; have NB360_363 := n13_; have NB363_360 := n14_; have HB := n15_; clear n0_ n1_ n2_ n3_ n4_ n5_ n6_ n7_ n8_ n9_ n10_ n11_ n12_ n13_ n14_ n15_
                have hHeld : w37.cell? ⟨gb360, 0, none⟩ = some (.int .i64 t350) ∧ w37.cell? ⟨gb360, 1, none⟩ = some (.int .i64 t351) ∧ w37.cell? ⟨gb360, 2, none⟩ = some (.string t352) ∧ w37.cell? ⟨gb360, 3, none⟩ = some (.slice Ao14 t353.length co14) ∧ w37.cell? ⟨gb360, 4, none⟩ = some (.slice Ao15 t356.length co15) := hS_
                refine norm_ (a' := ?_) ?_ ?_
                rotate_left
                ·simp only [putAll, Act.put, List.setIfInBounds_toArray, List.set_cons_zero, List.set_cons_succ]
                 rfl
                refine two_ (i := 5) (j := 7) (Ni := some 14) (Nj := some 16) #[true, true, true, true, true, true, true, false, false, false, false, false] #[true, true, true, true, true, false, true, true, false, false, false, false] rfl rfl rfl rfl (two_of HT_.out (by kernel_rfl)) (by decide) (by decide) (fun K hK => ?_) (fun K hK => ?_)
                ·skip
                 refine box_step ?hg (N := 14) ?hd (cs := #[.int .i64 0, .int .i64 0, .string (⟨#[]⟩ : ByteArray), .slice none 0 0, .slice none 0 0]) (t := 33) ?hr ?_; (case hd => rfl); (case hg => rfl); (case hr => first | (go_simp; done) | (go_simp; rfl))
                 intro gb362 hg w38 hbox hb
                 have BK362 := za (hbox)
                 have GW362 := zg HB hg
                 have GE362 := zg HB hg
                 have NB360_362 := zl BK360 hg
                 have NB362_360 := zr BK360 hg
                 have NB361_362 := zl BK361 hg
                 have NB362_361 := zr BK361 hg
                 have NB363_362 := zl BK363 hg
                 have NB362_363 := zr BK363 hg
                 replace HO_361003 := zR HO_361003 hb
                 replace HO_361004 := zR HO_361004 hb
                 replace BK360 := zb BK360 hb
                 replace BK361 := zb BK361 hb
                 replace BK363 := zb BK363 hb
                 replace HB := zs HB hb
                 clear hb hbox hg
                 refine hK.out _ _ ⟨(blk_cell BK360.out 0).trans rfl, (blk_cell BK360.out 1).trans rfl, (blk_cell BK360.out 2).trans rfl, (blk_cell BK360.out 3).trans rfl, (blk_cell BK360.out 4).trans rfl⟩ (fun hHeld => ?_)
                 clear hK K
                 refine norm_ (a' := ?_) ?_ ?_
                 rotate_left
                 ·show Act.put _ (some 14) _ = _
                  simp only [Act.put, List.setIfInBounds_toArray, List.set_cons_zero, List.set_cons_succ, i64_w, i32_w]
                  rfl
                 exact norm_ q16c (hJ4_5_6 (gb361, gb362, gb363) _ ⟨hHeld, q16d, q16e, (q16b), (q16b), (q16b), (q16b), GW361.out, GE361.out, NB360_361.out, NB361_360.out, NB362_361.out, NB361_362.out, NB363_361.out, NB361_363.out, GW362.out, GE362.out, NB360_362.out, NB362_360.out, NB363_362.out, NB362_363.out, GW363.out, GE363.out, NB360_363.out, NB363_360.out, (zm HB)⟩)
                ·skip
                 refine box_step ?hg (N := 16) ?hd (cs := #[.int .i64 0, .int .i64 0, .string (⟨#[]⟩ : ByteArray), .slice none 0 0, .slice none 0 0]) (t := 33) ?hr ?_; (case hd => rfl); (case hg => rfl); (case hr => first | (go_simp; done) | (go_simp; rfl))
                 intro gb364 hg w38 hbox hb
                 have BK364 := za (hbox)
                 have GW364 := zg HB hg
                 have GE364 := zg HB hg
                 have NB360_364 := zl BK360 hg
                 have NB364_360 := zr BK360 hg
                 have NB361_364 := zl BK361 hg
                 have NB364_361 := zr BK361 hg
                 have NB363_364 := zl BK363 hg
                 have NB364_363 := zr BK363 hg
                 replace HO_361003 := zR HO_361003 hb
                 replace HO_361004 := zR HO_361004 hb
                 replace BK360 := zb BK360 hb
                 replace BK361 := zb BK361 hb
                 replace BK363 := zb BK363 hb
                 replace HB := zs HB hb
                 clear hb hbox hg
                 refine hK.out _ _ ⟨(blk_cell BK360.out 0).trans rfl, (blk_cell BK360.out 1).trans rfl, (blk_cell BK360.out 2).trans rfl, (blk_cell BK360.out 3).trans rfl, (blk_cell BK360.out 4).trans rfl⟩ (fun hHeld => ?_)
                 clear hK K
                 refine norm_ (a' := ?_) ?_ ?_
                 rotate_left
                 ·show Act.put _ (some 16) _ = _
                  simp only [Act.put, List.setIfInBounds_toArray, List.set_cons_zero, List.set_cons_succ, i64_w, i32_w]
                  rfl
                 exact norm_ q16c (hJ4_6_7 (gb361, gb363, gb364) _ ⟨hHeld, q16d, q16e, (q16b), (q16b), (q16b), (q16b), GW361.out, GE361.out, NB360_361.out, NB361_360.out, NB363_361.out, NB361_363.out, NB364_361.out, NB361_364.out, GW363.out, GE363.out, NB360_363.out, NB363_360.out, NB364_363.out, NB363_364.out, GW364.out, GE364.out, NB360_364.out, NB364_360.out, (zm HB)⟩)
              ·skip
               rintro ⟨gb361, gb362⟩ w37 ⟨hS_, h0_, h1_, h2_, h3_, h4_, h5_, h6_, h7_, h8_, h9_, h10_, h11_, h12_, h13_, h14_, h15_⟩
               have n0_ : Aside0 (Kd.R k23 23 w37 w.heap.size (fun _ => True) (.slice Ao14 t353.length co14) t353) := ⟨h0_⟩
               have n1_ : Aside0 (Kd.R (Kd.int .i64) 3 w37 w.heap.size (fun _ => True) (.slice Ao15 t356.length co15) t356) := ⟨h1_⟩
               have n2_ : Aside0 (w37.heap[gb360]? = some (.cells #[.int .i64 t350, .int .i64 t351, .string t352, .slice Ao14 t353.length co14, .slice Ao15 t356.length co15] 33 (0, 0))) := ⟨h2_⟩
               have n3_ : Aside0 (w37.heap[gb361]? = some (.cells #[.int .i64 0, .int .i64 0, .string (⟨#[]⟩ : ByteArray), .slice none 0 0, .slice none 0 0] 33 (0, 0))) := ⟨h3_⟩
               have n4_ : Aside0 (w37.heap[gb362]? = some (.cells #[.int .i64 0, .int .i64 0, .string (⟨#[]⟩ : ByteArray), .slice none 0 0, .slice none 0 0] 33 (0, 0))) := ⟨h4_⟩
               have n5_ : Aside0 (w.heap.size ≤ gb361) := ⟨h5_⟩
               have n6_ : Aside0 (w.heap.size ≤ gb361) := ⟨h6_⟩
               have n7_ : Aside0 (gb360 ≠ gb361) := ⟨h7_⟩
               have n8_ : Aside0 (gb361 ≠ gb360) := ⟨h8_⟩
               have n9_ : Aside0 (gb362 ≠ gb361) := ⟨h9_⟩
               have n10_ : Aside0 (gb361 ≠ gb362) := ⟨h10_⟩
               have n11_ : Aside0 (w.heap.size ≤ gb362) := ⟨h11_⟩
               have n12_ : Aside0 (w.heap.size ≤ gb362) := ⟨h12_⟩
               have n13_ : Aside0 (gb360 ≠ gb362) := ⟨h13_⟩
               have n14_ : Aside0 (gb362 ≠ gb360) := ⟨h14_⟩
               have n15_ : Aside0 (Below w.heap.size w w37) := ⟨h15_⟩
               clear HO_361003 HO_361004 BK360 HB h0_ h1_ h2_ h3_ h4_ h5_ h6_ h7_ h8_ h9_ h10_ h11_ h12_ h13_ h14_ h15_; have HO_361003 := n0_; have HO_361004 := n1_; have BK360 := n2_; have BK361 := n3_; have BK362 := n4_; have GW361 := n5_; have GE361 := n6_; have NB360_361 := n7_; have NB361_360 := n8_; have NB362_361 := n9_; have NB361_362 := n10_; have GW362 := n11_; have GE362 := n12_; have NB360_362 := n13_; have NB362_360 := n14_; have HB := n15_; clear n0_ n1_ n2_ n3_ n4_ n5_ n6_ n7_ n8_ n9_ n10_ n11_ n12_ n13_ n14_ n15_
               have hHeld : w37.cell? ⟨gb360, 0, none⟩ = some (.int .i64 t350) ∧ w37.cell? ⟨gb360, 1, none⟩ = some (.int .i64 t351) ∧ w37.cell? ⟨gb360, 2, none⟩ = some (.string t352) ∧ w37.cell? ⟨gb360, 3, none⟩ = some (.slice Ao14 t353.length co14) ∧ w37.cell? ⟨gb360, 4, none⟩ = some (.slice Ao15 t356.length co15) := hS_
               refine norm_ (a' := ?_) ?_ ?_
               rotate_left
               ·simp only [putAll, Act.put, List.setIfInBounds_toArray, List.set_cons_zero, List.set_cons_succ]
                rfl
               refine two_ (i := 6) (j := 7) (Ni := some 15) (Nj := some 16) #[true, true, true, true, true, true, true, false, false, false, false, false] #[true, true, true, true, true, true, false, true, false, false, false, false] rfl rfl rfl rfl (two_of HT_.out (by kernel_rfl)) (by decide) (by decide) (fun K hK => ?_) (fun K hK => ?_)
               ·skip
                refine box_step ?hg (N := 15) ?hd (cs := #[.int .i64 0, .int .i64 0, .string (⟨#[]⟩ : ByteArray), .slice none 0 0, .slice none 0 0]) (t := 33) ?hr ?_; (case hd => rfl); (case hg => rfl); (case hr => first | (go_simp; done) | (go_simp; rfl))
                intro gb363 hg w38 hbox hb
                have BK363 := za (hbox)
                have GW363 := zg HB hg
                have GE363 := zg HB hg
                have NB360_363 := zl BK360 hg
                have NB363_360 := zr BK360 hg
                have NB361_363 := zl BK361 hg
                have NB363_361 := zr BK361 hg
                have NB362_363 := zl BK362 hg
                have NB363_362 := zr BK362 hg
                replace HO_361003 := zR HO_361003 hb
                replace HO_361004 := zR HO_361004 hb
                replace BK360 := zb BK360 hb
                replace BK361 := zb BK361 hb
                replace BK362 := zb BK362 hb
                replace HB := zs HB hb
                clear hb hbox hg
                refine hK.out _ _ ⟨(blk_cell BK360.out 0).trans rfl, (blk_cell BK360.out 1).trans rfl, (blk_cell BK360.out 2).trans rfl, (blk_cell BK360.out 3).trans rfl, (blk_cell BK360.out 4).trans rfl⟩ (fun hHeld => ?_)
                clear hK K
                refine norm_ (a' := ?_) ?_ ?_
                rotate_left
                ·show Act.put _ (some 15) _ = _
                 simp only [Act.put, List.setIfInBounds_toArray, List.set_cons_zero, List.set_cons_succ, i64_w, i32_w]
                 rfl
                exact norm_ q16c (hJ4_5_6 (gb361, gb362, gb363) _ ⟨hHeld, q16d, q16e, (q16b), (q16b), (q16b), (q16b), GW361.out, GE361.out, NB360_361.out, NB361_360.out, NB362_361.out, NB361_362.out, NB363_361.out, NB361_363.out, GW362.out, GE362.out, NB360_362.out, NB362_360.out, NB363_362.out, NB362_363.out, GW363.out, GE363.out, NB360_363.out, NB363_360.out, (zm HB)⟩)
               ·skip
                refine box_step ?hg (N := 16) ?hd (cs := #[.int .i64 0, .int .i64 0, .string (⟨#[]⟩ : ByteArray), .slice none 0 0, .slice none 0 0]) (t := 33) ?hr ?_; (case hd => rfl); (case hg => rfl); (case hr => first | (go_simp; done) | (go_simp; rfl))
                intro gb364 hg w38 hbox hb
                have BK364 := za (hbox)
                have GW364 := zg HB hg
                have GE364 := zg HB hg
                have NB360_364 := zl BK360 hg
                have NB364_360 := zr BK360 hg
                have NB361_364 := zl BK361 hg
                have NB364_361 := zr BK361 hg
                have NB362_364 := zl BK362 hg
                have NB364_362 := zr BK362 hg
                replace HO_361003 := zR HO_361003 hb
                replace HO_361004 := zR HO_361004 hb
                replace BK360 := zb BK360 hb
                replace BK361 := zb BK361 hb
                replace BK362 := zb BK362 hb
                replace HB := zs HB hb
                clear hb hbox hg
                refine hK.out _ _ ⟨(blk_cell BK360.out 0).trans rfl, (blk_cell BK360.out 1).trans rfl, (blk_cell BK360.out 2).trans rfl, (blk_cell BK360.out 3).trans rfl, (blk_cell BK360.out 4).trans rfl⟩ (fun hHeld => ?_)
                clear hK K
                refine norm_ (a' := ?_) ?_ ?_
                rotate_left
                ·show Act.put _ (some 16) _ = _
                 simp only [Act.put, List.setIfInBounds_toArray, List.set_cons_zero, List.set_cons_succ, i64_w, i32_w]
                 rfl
                exact norm_ q16c (hJ4_5_7 (gb361, gb362, gb364) _ ⟨hHeld, q16d, q16e, (q16b), (q16b), (q16b), (q16b), GW361.out, GE361.out, NB360_361.out, NB361_360.out, NB362_361.out, NB361_362.out, NB364_361.out, NB361_364.out, GW362.out, GE362.out, NB360_362.out, NB362_360.out, NB364_362.out, NB362_364.out, GW364.out, GE364.out, NB360_364.out, NB364_360.out, (zm HB)⟩)
             ·skip
              rintro ⟨gb362, gb363, gb364⟩ w38 ⟨hS_, h0_, h1_, h2_, h3_, h4_, h5_, h6_, h7_, h8_, h9_, h10_, h11_, h12_, h13_, h14_, h15_, h16_, h17_, h18_, h19_, h20_, h21_, h22_, h23_, h24_⟩
              have n0_ : Aside0 (Kd.R k23 23 w38 w.heap.size (fun _ => True) (.slice Ao14 t353.length co14) t353) := ⟨h0_⟩
              have n1_ : Aside0 (Kd.R (Kd.int .i64) 3 w38 w.heap.size (fun _ => True) (.slice Ao15 t356.length co15) t356) := ⟨h1_⟩
              have n2_ : Aside0 (w38.heap[gb360]? = some (.cells #[.int .i64 t350, .int .i64 t351, .string t352, .slice Ao14 t353.length co14, .slice Ao15 t356.length co15] 33 (0, 0))) := ⟨h2_⟩
              have n3_ : Aside0 (w38.heap[gb362]? = some (.cells #[.int .i64 0, .int .i64 0, .string (⟨#[]⟩ : ByteArray), .slice none 0 0, .slice none 0 0] 33 (0, 0))) := ⟨h3_⟩
              have n4_ : Aside0 (w38.heap[gb363]? = some (.cells #[.int .i64 0, .int .i64 0, .string (⟨#[]⟩ : ByteArray), .slice none 0 0, .slice none 0 0] 33 (0, 0))) := ⟨h4_⟩
              have n5_ : Aside0 (w38.heap[gb364]? = some (.cells #[.int .i64 0, .int .i64 0, .string (⟨#[]⟩ : ByteArray), .slice none 0 0, .slice none 0 0] 33 (0, 0))) := ⟨h5_⟩
              have n6_ : Aside0 (w.heap.size ≤ gb362) := ⟨h6_⟩
              have n7_ : Aside0 (w.heap.size ≤ gb362) := ⟨h7_⟩
              have n8_ : Aside0 (gb360 ≠ gb362) := ⟨h8_⟩
              have n9_ : Aside0 (gb362 ≠ gb360) := ⟨h9_⟩
              have n10_ : Aside0 (gb363 ≠ gb362) := ⟨h10_⟩
              have n11_ : Aside0 (gb362 ≠ gb363) := ⟨h11_⟩
              have n12_ : Aside0 (gb364 ≠ gb362) := ⟨h12_⟩
              have n13_ : Aside0 (gb362 ≠ gb364) := ⟨h13_⟩
              have n14_ : Aside0 (w.heap.size ≤ gb363) := ⟨h14_⟩
              have n15_ : Aside0 (w.heap.size ≤ gb363) := ⟨h15_⟩
              have n16_ : Aside0 (gb360 ≠ gb363) := ⟨h16_⟩
              have n17_ : Aside0 (gb363 ≠ gb360) := ⟨h17_⟩
              have n18_ : Aside0 (gb364 ≠ gb363) := ⟨h18_⟩
              have n19_ : Aside0 (gb363 ≠ gb364) := ⟨h19_⟩
              have n20_ : Aside0 (w.heap.size ≤ gb364) := ⟨h20_⟩
              have n21_ : Aside0 (w.heap.size ≤ gb364) := ⟨h21_⟩
              have n22_ : Aside0 (gb360 ≠ gb364) := ⟨h22_⟩
              have n23_ : Aside0 (gb364 ≠ gb360) := ⟨h23_⟩
              have n24_ : Aside0 (Below w.heap.size w w38) := ⟨h24_⟩
              clear HO_361003 HO_361004 BK360 HB h0_ h1_ h2_ h3_ h4_ h5_ h6_ h7_ h8_ h9_ h10_ h11_ h12_ h13_ h14_ h15_ h16_ h17_ h18_ h19_ h20_ h21_ h22_ h23_ h24_; have HO_361003 := n0_; have HO_361004 := n1_; have BK360 := n2_; have BK362 := n3_; have BK363 := n4_; have BK364 := n5_; have GW362 := n6_; have GE362 := n7_; have NB360_362 := n8_; have NB362_360 := n9_; have NB363_362 := n10_; have NB362_363 := n11_; have NB364_362 := n12_; have NB362_364 := n13_; have GW363 := n14_; have GE363 := n15_; have NB360_363 := n16_; have NB363_360 := n17_; have NB364_363 := n18_; have NB363_364 := n19_; have GW364 := n20_; have GE364 := n21_; have NB360_364 := n22_; have NB364_360 := n23_; have HB := n24_; clear n0_ n1_ n2_ n3_ n4_ n5_ n6_ n7_ n8_ n9_ n10_ n11_ n12_ n13_ n14_ n15_ n16_ n17_ n18_ n19_ n20_ n21_ n22_ n23_ n24_
              have hHeld : w38.cell? ⟨gb360, 0, none⟩ = some (.int .i64 t350) ∧ w38.cell? ⟨gb360, 1, none⟩ = some (.int .i64 t351) ∧ w38.cell? ⟨gb360, 2, none⟩ = some (.string t352) ∧ w38.cell? ⟨gb360, 3, none⟩ = some (.slice Ao14 t353.length co14) ∧ w38.cell? ⟨gb360, 4, none⟩ = some (.slice Ao15 t356.length co15) := hS_
              refine norm_ (a' := ?_) ?_ ?_
              rotate_left
              ·simp only [putAll, Act.put, List.setIfInBounds_toArray, List.set_cons_zero, List.set_cons_succ]
               rfl
              refine one_ (i := 4) (N := some 13) #[true, true, true, true, true, true, true, true, false, false, false, false] rfl rfl (one_of HT_.out (by kernel_rfl)) (by decide) (fun K hK => ?_)
              refine box_step ?hg (N := 13) ?hd (cs := #[.int .i64 0, .int .i64 0, .string (⟨#[]⟩ : ByteArray), .slice none 0 0, .slice none 0 0]) (t := 33) ?hr ?_; (case hd => rfl); (case hg => rfl); (case hr => first | (go_simp; done) | (go_simp; rfl))
              intro gb361 hg w39 hbox hb
              have BK361 := za (hbox)
              have GW361 := zg HB hg
              have GE361 := zg HB hg
              have NB360_361 := zl BK360 hg
              have NB361_360 := zr BK360 hg
              have NB362_361 := zl BK362 hg
              have NB361_362 := zr BK362 hg
              have NB363_361 := zl BK363 hg
              have NB361_363 := zr BK363 hg
              have NB364_361 := zl BK364 hg
              have NB361_364 := zr BK364 hg
              replace HO_361003 := zR HO_361003 hb
              replace HO_361004 := zR HO_361004 hb
              replace BK360 := zb BK360 hb
              replace BK362 := zb BK362 hb
              replace BK363 := zb BK363 hb
              replace BK364 := zb BK364 hb
              replace HB := zs HB hb
              clear hb hbox hg
              refine hK.out _ _ ⟨(blk_cell BK360.out 0).trans rfl, (blk_cell BK360.out 1).trans rfl, (blk_cell BK360.out 2).trans rfl, (blk_cell BK360.out 3).trans rfl, (blk_cell BK360.out 4).trans rfl⟩ (fun hHeld => ?_)
              clear hK K
              refine norm_ (a' := ?_) ?_ ?_
              rotate_left
              ·show Act.put _ (some 13) _ = _
               simp only [Act.put, List.setIfInBounds_toArray, List.set_cons_zero, List.set_cons_succ, i64_w, i32_w]
               rfl
              exact norm_ q16c (hJ4_5_6_7 (gb361, gb362, gb363, gb364) _ ⟨hHeld, q16d, q16e, (q16b), (q16b), (q16b), (q16b), (q16b), GW361.out, GE361.out, NB360_361.out, NB361_360.out, NB362_361.out, NB361_362.out, NB363_361.out, NB361_363.out, NB364_361.out, NB361_364.out, GW362.out, GE362.out, NB360_362.out, NB362_360.out, NB363_362.out, NB362_363.out, NB364_362.out, NB362_364.out, GW363.out, GE363.out, NB360_363.out, NB363_360.out, NB364_363.out, NB363_364.out, GW364.out, GE364.out, NB360_364.out, NB364_360.out, (zm HB)⟩)
            ·skip
             rintro ⟨gb361, gb363, gb364⟩ w38 ⟨hS_, h0_, h1_, h2_, h3_, h4_, h5_, h6_, h7_, h8_, h9_, h10_, h11_, h12_, h13_, h14_, h15_, h16_, h17_, h18_, h19_, h20_, h21_, h22_, h23_, h24_⟩
             have n0_ : Aside0 (Kd.R k23 23 w38 w.heap.size (fun _ => True) (.slice Ao14 t353.length co14) t353) := ⟨h0_⟩
             have n1_ : Aside0 (Kd.R (Kd.int .i64) 3 w38 w.heap.size (fun _ => True) (.slice Ao15 t356.length co15) t356) := ⟨h1_⟩
             have n2_ : Aside0 (w38.heap[gb360]? = some (.cells #[.int .i64 t350, .int .i64 t351, .string t352, .slice Ao14 t353.length co14, .slice Ao15 t356.length co15] 33 (0, 0))) := ⟨h2_⟩
             have n3_ : Aside0 (w38.heap[gb361]? = some (.cells #[.int .i64 0, .int .i64 0, .string (⟨#[]⟩ : ByteArray), .slice none 0 0, .slice none 0 0] 33 (0, 0))) := ⟨h3_⟩
             have n4_ : Aside0 (w38.heap[gb363]? = some (.cells #[.int .i64 0, .int .i64 0, .string (⟨#[]⟩ : ByteArray), .slice none 0 0, .slice none 0 0] 33 (0, 0))) := ⟨h4_⟩
             have n5_ : Aside0 (w38.heap[gb364]? = some (.cells #[.int .i64 0, .int .i64 0, .string (⟨#[]⟩ : ByteArray), .slice none 0 0, .slice none 0 0] 33 (0, 0))) := ⟨h5_⟩
             have n6_ : Aside0 (w.heap.size ≤ gb361) := ⟨h6_⟩
             have n7_ : Aside0 (w.heap.size ≤ gb361) := ⟨h7_⟩
             have n8_ : Aside0 (gb360 ≠ gb361) := ⟨h8_⟩
             have n9_ : Aside0 (gb361 ≠ gb360) := ⟨h9_⟩
             have n10_ : Aside0 (gb363 ≠ gb361) := ⟨h10_⟩
             have n11_ : Aside0 (gb361 ≠ gb363) := ⟨h11_⟩
             have n12_ : Aside0 (gb364 ≠ gb361) := ⟨h12_⟩
             have n13_ : Aside0 (gb361 ≠ gb364) := ⟨h13_⟩
             have n14_ : Aside0 (w.heap.size ≤ gb363) := ⟨h14_⟩
             have n15_ : Aside0 (w.heap.size ≤ gb363) := ⟨h15_⟩
             have n16_ : Aside0 (gb360 ≠ gb363) := ⟨h16_⟩
             have n17_ : Aside0 (gb363 ≠ gb360) := ⟨h17_⟩
             have n18_ : Aside0 (gb364 ≠ gb363) := ⟨h18_⟩
             have n19_ : Aside0 (gb363 ≠ gb364) := ⟨h19_⟩
             have n20_ : Aside0 (w.heap.size ≤ gb364) := ⟨h20_⟩
             have n21_ : Aside0 (w.heap.size ≤ gb364) := ⟨h21_⟩
             have n22_ : Aside0 (gb360 ≠ gb364) := ⟨h22_⟩
             have n23_ : Aside0 (gb364 ≠ gb360) := ⟨h23_⟩
             have n24_ : Aside0 (Below w.heap.size w w38) := ⟨h24_⟩
             clear HO_361003 HO_361004 BK360 HB h0_ h1_ h2_ h3_ h4_ h5_ h6_ h7_ h8_ h9_ h10_ h11_ h12_ h13_ h14_ h15_ h16_ h17_ h18_ h19_ h20_ h21_ h22_ h23_ h24_; have HO_361003 := n0_; have HO_361004 := n1_; have BK360 := n2_; have BK361 := n3_; have BK363 := n4_; have BK364 := n5_; have GW361 := n6_; have GE361 := n7_; have NB360_361 := n8_; have NB361_360 := n9_; have NB363_361 := n10_; have NB361_363 := n11_; have NB364_361 := n12_; have NB361_364 := n13_; have GW363 := n14_; have GE363 := n15_; have NB360_363 := n16_; have NB363_360 := n17_; have NB364_363 := n18_; have NB363_364 := n19_; have GW364 := n20_; have GE364 := n21_; have NB360_364 := n22_; have NB364_360 := n23_; have HB := n24_; clear n0_ n1_ n2_ n3_ n4_ n5_ n6_ n7_ n8_ n9_ n10_ n11_ n12_ n13_ n14_ n15_ n16_ n17_ n18_ n19_ n20_ n21_ n22_ n23_ n24_
             have hHeld : w38.cell? ⟨gb360, 0, none⟩ = some (.int .i64 t350) ∧ w38.cell? ⟨gb360, 1, none⟩ = some (.int .i64 t351) ∧ w38.cell? ⟨gb360, 2, none⟩ = some (.string t352) ∧ w38.cell? ⟨gb360, 3, none⟩ = some (.slice Ao14 t353.length co14) ∧ w38.cell? ⟨gb360, 4, none⟩ = some (.slice Ao15 t356.length co15) := hS_
             refine norm_ (a' := ?_) ?_ ?_
             rotate_left
             ·simp only [putAll, Act.put, List.setIfInBounds_toArray, List.set_cons_zero, List.set_cons_succ]
              rfl
             refine one_ (i := 5) (N := some 14) #[true, true, true, true, true, true, true, true, false, false, false, false] rfl rfl (one_of HT_.out (by kernel_rfl)) (by decide) (fun K hK => ?_)
             refine box_step ?hg (N := 14) ?hd (cs := #[.int .i64 0, .int .i64 0, .string (⟨#[]⟩ : ByteArray), .slice none 0 0, .slice none 0 0]) (t := 33) ?hr ?_; (case hd => rfl); (case hg => rfl); (case hr => first | (go_simp; done) | (go_simp; rfl))
             intro gb362 hg w39 hbox hb
             have BK362 := za (hbox)
             have GW362 := zg HB hg
             have GE362 := zg HB hg
             have NB360_362 := zl BK360 hg
             have NB362_360 := zr BK360 hg
             have NB361_362 := zl BK361 hg
             have NB362_361 := zr BK361 hg
             have NB363_362 := zl BK363 hg
             have NB362_363 := zr BK363 hg
             have NB364_362 := zl BK364 hg
             have NB362_364 := zr BK364 hg
             replace HO_361003 := zR HO_361003 hb
             replace HO_361004 := zR HO_361004 hb
             replace BK360 := zb BK360 hb
             replace BK361 := zb BK361 hb
             replace BK363 := zb BK363 hb
             replace BK364 := zb BK364 hb
             replace HB := zs HB hb
             clear hb hbox hg
             refine hK.out _ _ ⟨(blk_cell BK360.out 0).trans rfl, (blk_cell BK360.out 1).trans rfl, (blk_cell BK360.out 2).trans rfl, (blk_cell BK360.out 3).trans rfl, (blk_cell BK360.out 4).trans rfl⟩ (fun hHeld => ?_)
             clear hK K
             refine norm_ (a' := ?_) ?_ ?_
             rotate_left
             ·show Act.put _ (some 14) _ = _
              simp only [Act.put, List.setIfInBounds_toArray, List.set_cons_zero, List.set_cons_succ, i64_w, i32_w]
              rfl
             exact norm_ q16c (hJ4_5_6_7 (gb361, gb362, gb363, gb364) _ ⟨hHeld, q16d, q16e, (q16b), (q16b), (q16b), (q16b), (q16b), GW361.out, GE361.out, NB360_361.out, NB361_360.out, NB362_361.out, NB361_362.out, NB363_361.out, NB361_363.out, NB364_361.out, NB361_364.out, GW362.out, GE362.out, NB360_362.out, NB362_360.out, NB363_362.out, NB362_363.out, NB364_362.out, NB362_364.out, GW363.out, GE363.out, NB360_363.out, NB363_360.out, NB364_363.out, NB363_364.out, GW364.out, GE364.out, NB360_364.out, NB364_360.out, (zm HB)⟩)
           ·skip
            rintro ⟨gb361, gb362, gb364⟩ w38 ⟨hS_, h0_, h1_, h2_, h3_, h4_, h5_, h6_, h7_, h8_, h9_, h10_, h11_, h12_, h13_, h14_, h15_, h16_, h17_, h18_, h19_, h20_, h21_, h22_, h23_, h24_⟩
            have n0_ : Aside0 (Kd.R k23 23 w38 w.heap.size (fun _ => True) (.slice Ao14 t353.length co14) t353) := ⟨h0_⟩
            have n1_ : Aside0 (Kd.R (Kd.int .i64) 3 w38 w.heap.size (fun _ => True) (.slice Ao15 t356.length co15) t356) := ⟨h1_⟩
            have n2_ : Aside0 (w38.heap[gb360]? = some (.cells #[.int .i64 t350, .int .i64 t351, .string t352, .slice Ao14 t353.length co14, .slice Ao15 t356.length co15] 33 (0, 0))) := ⟨h2_⟩
            have n3_ : Aside0 (w38.heap[gb361]? = some (.cells #[.int .i64 0, .int .i64 0, .string (⟨#[]⟩ : ByteArray), .slice none 0 0, .slice none 0 0] 33 (0, 0))) := ⟨h3_⟩
            have n4_ : Aside0 (w38.heap[gb362]? = some (.cells #[.int .i64 0, .int .i64 0, .string (⟨#[]⟩ : ByteArray), .slice none 0 0, .slice none 0 0] 33 (0, 0))) := ⟨h4_⟩
            have n5_ : Aside0 (w38.heap[gb364]? = some (.cells #[.int .i64 0, .int .i64 0, .string (⟨#[]⟩ : ByteArray), .slice none 0 0, .slice none 0 0] 33 (0, 0))) := ⟨h5_⟩
            have n6_ : Aside0 (w.heap.size ≤ gb361) := ⟨h6_⟩
            have n7_ : Aside0 (w.heap.size ≤ gb361) := ⟨h7_⟩
            have n8_ : Aside0 (gb360 ≠ gb361) := ⟨h8_⟩
            have n9_ : Aside0 (gb361 ≠ gb360) := ⟨h9_⟩
            have n10_ : Aside0 (gb362 ≠ gb361) := ⟨h10_⟩
            have n11_ : Aside0 (gb361 ≠ gb362) := ⟨h11_⟩
            have n12_ : Aside0 (gb364 ≠ gb361) := ⟨h12_⟩
            have n13_ : Aside0 (gb361 ≠ gb364) := ⟨h13_⟩
            have n14_ : Aside0 (w.heap.size ≤ gb362) := ⟨h14_⟩
            have n15_ : Aside0 (w.heap.size ≤ gb362) := ⟨h15_⟩
            have n16_ : Aside0 (gb360 ≠ gb362) := ⟨h16_⟩
            have n17_ : Aside0 (gb362 ≠ gb360) := ⟨h17_⟩
            have n18_ : Aside0 (gb364 ≠ gb362) := ⟨h18_⟩
            have n19_ : Aside0 (gb362 ≠ gb364) := ⟨h19_⟩
            have n20_ : Aside0 (w.heap.size ≤ gb364) := ⟨h20_⟩
            have n21_ : Aside0 (w.heap.size ≤ gb364) := ⟨h21_⟩
            have n22_ : Aside0 (gb360 ≠ gb364) := ⟨h22_⟩
            have n23_ : Aside0 (gb364 ≠ gb360) := ⟨h23_⟩
            have n24_ : Aside0 (Below w.heap.size w w38) := ⟨h24_⟩
            clear HO_361003 HO_361004 BK360 HB h0_ h1_ h2_ h3_ h4_ h5_ h6_ h7_ h8_ h9_ h10_ h11_ h12_ h13_ h14_ h15_ h16_ h17_ h18_ h19_ h20_ h21_ h22_ h23_ h24_; have HO_361003 := n0_; have HO_361004 := n1_; have BK360 := n2_; have BK361 := n3_; have BK362 := n4_; have BK364 := n5_; have GW361 := n6_; have GE361 := n7_; have NB360_361 := n8_; have NB361_360 := n9_; have NB362_361 := n10_; have NB361_362 := n11_; have NB364_361 := n12_; have NB361_364 := n13_; have GW362 := n14_; have GE362 := n15_; have NB360_362 := n16_; have NB362_360 := n17_; have NB364_362 := n18_; have NB362_364 := n19_; have GW364 := n20_; have GE364 := n21_; have NB360_364 := n22_; have NB364_360 := n23_; have HB := n24_; clear n0_ n1_ n2_ n3_ n4_ n5_ n6_ n7_ n8_ n9_ n10_ n11_ n12_ n13_ n14_ n15_ n16_ n17_ n18_ n19_ n20_ n21_ n22_ n23_ n24_
            have hHeld : w38.cell? ⟨gb360, 0, none⟩ = some (.int .i64 t350) ∧ w38.cell? ⟨gb360, 1, none⟩ = some (.int .i64 t351) ∧ w38.cell? ⟨gb360, 2, none⟩ = some (.string t352) ∧ w38.cell? ⟨gb360, 3, none⟩ = some (.slice Ao14 t353.length co14) ∧ w38.cell? ⟨gb360, 4, none⟩ = some (.slice Ao15 t356.length co15) := hS_
            refine norm_ (a' := ?_) ?_ ?_
            rotate_left
            ·simp only [putAll, Act.put, List.setIfInBounds_toArray, List.set_cons_zero, List.set_cons_succ]
             rfl
            refine one_ (i := 6) (N := some 15) #[true, true, true, true, true, true, true, true, false, false, false, false] rfl rfl (one_of HT_.out (by kernel_rfl)) (by decide) (fun K hK => ?_)
            refine box_step ?hg (N := 15) ?hd (cs := #[.int .i64 0, .int .i64 0, .string (⟨#[]⟩ : ByteArray), .slice none 0 0, .slice none 0 0]) (t := 33) ?hr ?_; (case hd => rfl); (case hg => rfl); (case hr => first | (go_simp; done) | (go_simp; rfl))
            intro gb363 hg w39 hbox hb
            have BK363 := za (hbox)
            have GW363 := zg HB hg
            have GE363 := zg HB hg
            have NB360_363 := zl BK360 hg
            have NB363_360 := zr BK360 hg
            have NB361_363 := zl BK361 hg
            have NB363_361 := zr BK361 hg
            have NB362_363 := zl BK362 hg
            have NB363_362 := zr BK362 hg
            have NB364_363 := zl BK364 hg
            have NB363_364 := zr BK364 hg
            replace HO_361003 := zR HO_361003 hb
            replace HO_361004 := zR HO_361004 hb
            replace BK360 := zb BK360 hb
            replace BK361 := zb BK361 hb
            replace BK362 := zb BK362 hb
            replace BK364 := zb BK364 hb
            replace HB := zs HB hb
            clear hb hbox hg
            refine hK.out _ _ ⟨(blk_cell BK360.out 0).trans rfl, (blk_cell BK360.out 1).trans rfl, (blk_cell BK360.out 2).trans rfl, (blk_cell BK360.out 3).trans rfl, (blk_cell BK360.out 4).trans rfl⟩ (fun hHeld => ?_)
            clear hK K
            refine norm_ (a' := ?_) ?_ ?_
            rotate_left
            ·show Act.put _ (some 15) _ = _
             simp only [Act.put, List.setIfInBounds_toArray, List.set_cons_zero, List.set_cons_succ, i64_w, i32_w]
             rfl
            exact norm_ q16c (hJ4_5_6_7 (gb361, gb362, gb363, gb364) _ ⟨hHeld, q16d, q16e, (q16b), (q16b), (q16b), (q16b), (q16b), GW361.out, GE361.out, NB360_361.out, NB361_360.out, NB362_361.out, NB361_362.out, NB363_361.out, NB361_363.out, NB364_361.out, NB361_364.out, GW362.out, GE362.out, NB360_362.out, NB362_360.out, NB363_362.out, NB362_363.out, NB364_362.out, NB362_364.out, GW363.out, GE363.out, NB360_363.out, NB363_360.out, NB364_363.out, NB363_364.out, GW364.out, GE364.out, NB360_364.out, NB364_360.out, (zm HB)⟩)
          ·skip
           rintro ⟨gb361, gb362, gb363⟩ w38 ⟨hS_, h0_, h1_, h2_, h3_, h4_, h5_, h6_, h7_, h8_, h9_, h10_, h11_, h12_, h13_, h14_, h15_, h16_, h17_, h18_, h19_, h20_, h21_, h22_, h23_, h24_⟩
           have n0_ : Aside0 (Kd.R k23 23 w38 w.heap.size (fun _ => True) (.slice Ao14 t353.length co14) t353) := ⟨h0_⟩
           have n1_ : Aside0 (Kd.R (Kd.int .i64) 3 w38 w.heap.size (fun _ => True) (.slice Ao15 t356.length co15) t356) := ⟨h1_⟩
           have n2_ : Aside0 (w38.heap[gb360]? = some (.cells #[.int .i64 t350, .int .i64 t351, .string t352, .slice Ao14 t353.length co14, .slice Ao15 t356.length co15] 33 (0, 0))) := ⟨h2_⟩
           have n3_ : Aside0 (w38.heap[gb361]? = some (.cells #[.int .i64 0, .int .i64 0, .string (⟨#[]⟩ : ByteArray), .slice none 0 0, .slice none 0 0] 33 (0, 0))) := ⟨h3_⟩
           have n4_ : Aside0 (w38.heap[gb362]? = some (.cells #[.int .i64 0, .int .i64 0, .string (⟨#[]⟩ : ByteArray), .slice none 0 0, .slice none 0 0] 33 (0, 0))) := ⟨h4_⟩
           have n5_ : Aside0 (w38.heap[gb363]? = some (.cells #[.int .i64 0, .int .i64 0, .string (⟨#[]⟩ : ByteArray), .slice none 0 0, .slice none 0 0] 33 (0, 0))) := ⟨h5_⟩
           have n6_ : Aside0 (w.heap.size ≤ gb361) := ⟨h6_⟩
           have n7_ : Aside0 (w.heap.size ≤ gb361) := ⟨h7_⟩
           have n8_ : Aside0 (gb360 ≠ gb361) := ⟨h8_⟩
           have n9_ : Aside0 (gb361 ≠ gb360) := ⟨h9_⟩
           have n10_ : Aside0 (gb362 ≠ gb361) := ⟨h10_⟩
           have n11_ : Aside0 (gb361 ≠ gb362) := ⟨h11_⟩
           have n12_ : Aside0 (gb363 ≠ gb361) := ⟨h12_⟩
           have n13_ : Aside0 (gb361 ≠ gb363) := ⟨h13_⟩
           have n14_ : Aside0 (w.heap.size ≤ gb362) := ⟨h14_⟩
           have n15_ : Aside0 (w.heap.size ≤ gb362) := ⟨h15_⟩
           have n16_ : Aside0 (gb360 ≠ gb362) := ⟨h16_⟩
           have n17_ : Aside0 (gb362 ≠ gb360) := ⟨h17_⟩
           have n18_ : Aside0 (gb363 ≠ gb362) := ⟨h18_⟩
           have n19_ : Aside0 (gb362 ≠ gb363) := ⟨h19_⟩
           have n20_ : Aside0 (w.heap.size ≤ gb363) := ⟨h20_⟩
           have n21_ : Aside0 (w.heap.size ≤ gb363) := ⟨h21_⟩
           have n22_ : Aside0 (gb360 ≠ gb363) := ⟨h22_⟩
           have n23_ : Aside0 (gb363 ≠ gb360) := ⟨h23_⟩
           have n24_ : Aside0 (Below w.heap.size w w38) := ⟨h24_⟩
           clear HO_361003 HO_361004 BK360 HB h0_ h1_ h2_ h3_ h4_ h5_ h6_ h7_ h8_ h9_ h10_ h11_ h12_ h13_ h14_ h15_ h16_ h17_ h18_ h19_ h20_ h21_ h22_ h23_ h24_; have HO_361003 := n0_; have HO_361004 := n1_; have BK360 := n2_; have BK361 := n3_; have BK362 := n4_; have BK363 := n5_; have GW361 := n6_; have GE361 := n7_; have NB360_361 := n8_; have NB361_360 := n9_; have NB362_361 := n10_; have NB361_362 := n11_; have NB363_361 := n12_; have NB361_363 := n13_; have GW362 := n14_; have GE362 := n15_; have NB360_362 := n16_; have NB362_360 := n17_; have NB363_362 := n18_; have NB362_363 := n19_; have GW363 := n20_; have GE363 := n21_; have NB360_363 := n22_; have NB363_360 := n23_; have HB := n24_; clear n0_ n1_ n2_ n3_ n4_ n5_ n6_ n7_ n8_ n9_ n10_ n11_ n12_ n13_ n14_ n15_ n16_ n17_ n18_ n19_ n20_ n21_ n22_ n23_ n24_
           have hHeld : w38.cell? ⟨gb360, 0, none⟩ = some (.int .i64 t350) ∧ w38.cell? ⟨gb360, 1, none⟩ = some (.int .i64 t351) ∧ w38.cell? ⟨gb360, 2, none⟩ = some (.string t352) ∧ w38.cell? ⟨gb360, 3, none⟩ = some (.slice Ao14 t353.length co14) ∧ w38.cell? ⟨gb360, 4, none⟩ = some (.slice Ao15 t356.length co15) := hS_
           refine norm_ (a' := ?_) ?_ ?_
           rotate_left
           ·simp only [putAll, Act.put, List.setIfInBounds_toArray, List.set_cons_zero, List.set_cons_succ]
            rfl
           refine one_ (i := 7) (N := some 16) #[true, true, true, true, true, true, true, true, false, false, false, false] rfl rfl (one_of HT_.out (by kernel_rfl)) (by decide) (fun K hK => ?_)
           refine box_step ?hg (N := 16) ?hd (cs := #[.int .i64 0, .int .i64 0, .string (⟨#[]⟩ : ByteArray), .slice none 0 0, .slice none 0 0]) (t := 33) ?hr ?_; (case hd => rfl); (case hg => rfl); (case hr => first | (go_simp; done) | (go_simp; rfl))
           intro gb364 hg w39 hbox hb
           have BK364 := za (hbox)
           have GW364 := zg HB hg
           have GE364 := zg HB hg
           have NB360_364 := zl BK360 hg
           have NB364_360 := zr BK360 hg
           have NB361_364 := zl BK361 hg
           have NB364_361 := zr BK361 hg
           have NB362_364 := zl BK362 hg
           have NB364_362 := zr BK362 hg
           have NB363_364 := zl BK363 hg
           have NB364_363 := zr BK363 hg
           replace HO_361003 := zR HO_361003 hb
           replace HO_361004 := zR HO_361004 hb
           replace BK360 := zb BK360 hb
           replace BK361 := zb BK361 hb
           replace BK362 := zb BK362 hb
           replace BK363 := zb BK363 hb
           replace HB := zs HB hb
           clear hb hbox hg
           refine hK.out _ _ ⟨(blk_cell BK360.out 0).trans rfl, (blk_cell BK360.out 1).trans rfl, (blk_cell BK360.out 2).trans rfl, (blk_cell BK360.out 3).trans rfl, (blk_cell BK360.out 4).trans rfl⟩ (fun hHeld => ?_)
           clear hK K
           refine norm_ (a' := ?_) ?_ ?_
           rotate_left
           ·show Act.put _ (some 16) _ = _
            simp only [Act.put, List.setIfInBounds_toArray, List.set_cons_zero, List.set_cons_succ, i64_w, i32_w]
            rfl
           exact norm_ q16c (hJ4_5_6_7 (gb361, gb362, gb363, gb364) _ ⟨hHeld, q16d, q16e, (q16b), (q16b), (q16b), (q16b), (q16b), GW361.out, GE361.out, NB360_361.out, NB361_360.out, NB362_361.out, NB361_362.out, NB363_361.out, NB361_363.out, NB364_361.out, NB361_364.out, GW362.out, GE362.out, NB360_362.out, NB362_360.out, NB363_362.out, NB362_363.out, NB364_362.out, NB362_364.out, GW363.out, GE363.out, NB360_363.out, NB363_360.out, NB364_363.out, NB363_364.out, GW364.out, GE364.out, NB360_364.out, NB364_360.out, (zm HB)⟩)
         rintro ⟨gb361, gb362, gb363, gb364⟩ w39 ⟨hS_, h0_, h1_, h2_, h3_, h4_, h5_, h6_, h7_, h8_, h9_, h10_, h11_, h12_, h13_, h14_, h15_, h16_, h17_, h18_, h19_, h20_, h21_, h22_, h23_, h24_, h25_, h26_, h27_, h28_, h29_, h30_, h31_, h32_, h33_, h34_, h35_⟩
         have n0_ : Aside0 (Kd.R k23 23 w39 w.heap.size (fun _ => True) (.slice Ao14 t353.length co14) t353) := ⟨h0_⟩
         have n1_ : Aside0 (Kd.R (Kd.int .i64) 3 w39 w.heap.size (fun _ => True) (.slice Ao15 t356.length co15) t356) := ⟨h1_⟩
         have n2_ : Aside0 (w39.heap[gb360]? = some (.cells #[.int .i64 t350, .int .i64 t351, .string t352, .slice Ao14 t353.length co14, .slice Ao15 t356.length co15] 33 (0, 0))) := ⟨h2_⟩
         have n3_ : Aside0 (w39.heap[gb361]? = some (.cells #[.int .i64 0, .int .i64 0, .string (⟨#[]⟩ : ByteArray), .slice none 0 0, .slice none 0 0] 33 (0, 0))) := ⟨h3_⟩
         have n4_ : Aside0 (w39.heap[gb362]? = some (.cells #[.int .i64 0, .int .i64 0, .string (⟨#[]⟩ : ByteArray), .slice none 0 0, .slice none 0 0] 33 (0, 0))) := ⟨h4_⟩
         have n5_ : Aside0 (w39.heap[gb363]? = some (.cells #[.int .i64 0, .int .i64 0, .string (⟨#[]⟩ : ByteArray), .slice none 0 0, .slice none 0 0] 33 (0, 0))) := ⟨h5_⟩
         have n6_ : Aside0 (w39.heap[gb364]? = some (.cells #[.int .i64 0, .int .i64 0, .string (⟨#[]⟩ : ByteArray), .slice none 0 0, .slice none 0 0] 33 (0, 0))) := ⟨h6_⟩
         have n7_ : Aside0 (w.heap.size ≤ gb361) := ⟨h7_⟩
         have n8_ : Aside0 (w.heap.size ≤ gb361) := ⟨h8_⟩
         have n9_ : Aside0 (gb360 ≠ gb361) := ⟨h9_⟩
         have n10_ : Aside0 (gb361 ≠ gb360) := ⟨h10_⟩
         have n11_ : Aside0 (gb362 ≠ gb361) := ⟨h11_⟩
         have n12_ : Aside0 (gb361 ≠ gb362) := ⟨h12_⟩
         have n13_ : Aside0 (gb363 ≠ gb361) := ⟨h13_⟩
         have n14_ : Aside0 (gb361 ≠ gb363) := ⟨h14_⟩
         have n15_ : Aside0 (gb364 ≠ gb361) := ⟨h15_⟩
         have n16_ : Aside0 (gb361 ≠ gb364) := ⟨h16_⟩
         have n17_ : Aside0 (w.heap.size ≤ gb362) := ⟨h17_⟩
         have n18_ : Aside0 (w.heap.size ≤ gb362) := ⟨h18_⟩
         have n19_ : Aside0 (gb360 ≠ gb362) := ⟨h19_⟩
         have n20_ : Aside0 (gb362 ≠ gb360) := ⟨h20_⟩
         have n21_ : Aside0 (gb363 ≠ gb362) := ⟨h21_⟩
         have n22_ : Aside0 (gb362 ≠ gb363) := ⟨h22_⟩
         have n23_ : Aside0 (gb364 ≠ gb362) := ⟨h23_⟩
         have n24_ : Aside0 (gb362 ≠ gb364) := ⟨h24_⟩
         have n25_ : Aside0 (w.heap.size ≤ gb363) := ⟨h25_⟩
         have n26_ : Aside0 (w.heap.size ≤ gb363) := ⟨h26_⟩
         have n27_ : Aside0 (gb360 ≠ gb363) := ⟨h27_⟩
         have n28_ : Aside0 (gb363 ≠ gb360) := ⟨h28_⟩
         have n29_ : Aside0 (gb364 ≠ gb363) := ⟨h29_⟩
         have n30_ : Aside0 (gb363 ≠ gb364) := ⟨h30_⟩
         have n31_ : Aside0 (w.heap.size ≤ gb364) := ⟨h31_⟩
         have n32_ : Aside0 (w.heap.size ≤ gb364) := ⟨h32_⟩
         have n33_ : Aside0 (gb360 ≠ gb364) := ⟨h33_⟩
         have n34_ : Aside0 (gb364 ≠ gb360) := ⟨h34_⟩
         have n35_ : Aside0 (Below w.heap.size w w39) := ⟨h35_⟩
         clear HO_361003 HO_361004 BK360 HB h0_ h1_ h2_ h3_ h4_ h5_ h6_ h7_ h8_ h9_ h10_ h11_ h12_ h13_ h14_ h15_ h16_ h17_ h18_ h19_ h20_ h21_ h22_ h23_ h24_ h25_ h26_ h27_ h28_ h29_ h30_ h31_ h32_ h33_ h34_ h35_; have HO_361003 := n0_; have HO_361004 := n1_; have BK360 := n2_; have BK361 := n3_; have BK362 := n4_; have BK363 := n5_; have BK364 := n6_; have GW361 := n7_; have GE361 := n8_; have NB360_361 := n9_; have NB361_360 := n10_; have NB362_361 := n11_; have NB361_362 := n12_; have NB363_361 := n13_; have NB361_363 := n14_; have NB364_361 := n15_; have NB361_364 := n16_; have GW362 := n17_; have GE362 := n18_; have NB360_362 := n19_; have NB362_360 := n20_; have NB363_362 := n21_; have NB362_363 := n22_; have NB364_362 := n23_; have NB362_364 := n24_; have GW363 := n25_; have GE363 := n26_; have NB360_363 := n27_; have NB363_360 := n28_; have NB364_363 := n29_; have NB363_364 := n30_; have GW364 := n31_; have GE364 := n32_; have NB360_364 := n33_; have NB364_360 := n34_; have HB := n35_; clear n0_ n1_ n2_ n3_ n4_ n5_ n6_ n7_ n8_ n9_ n10_ n11_ n12_ n13_ n14_ n15_ n16_ n17_ n18_ n19_ n20_ n21_ n22_ n23_ n24_ n25_ n26_ n27_ n28_ n29_ n30_ n31_ n32_ n33_ n34_ n35_
         have hHeld : w39.cell? ⟨gb360, 0, none⟩ = some (.int .i64 t350) ∧ w39.cell? ⟨gb360, 1, none⟩ = some (.int .i64 t351) ∧ w39.cell? ⟨gb360, 2, none⟩ = some (.string t352) ∧ w39.cell? ⟨gb360, 3, none⟩ = some (.slice Ao14 t353.length co14) ∧ w39.cell? ⟨gb360, 4, none⟩ = some (.slice Ao15 t356.length co15) := hS_
         refine norm_ (a' := ?_) ?_ ?_
         rotate_left
         ·simp only [putAll, Act.put, List.setIfInBounds_toArray, List.set_cons_zero, List.set_cons_succ]
          rfl
         refine one_ (i := 8) (N := none) #[true, true, true, true, true, true, true, true, true, false, false, false] rfl rfl (one_of HT_.out (by kernel_rfl)) (by decide) (fun K hK => ?_)
         have hs40 : w39.cell? ⟨gb361, 0, none⟩ = some (.int .i64 0) := (blk_cell BK361.out 0).trans rfl
         have hfs40 := blk_frozen BK361.out 0
         have hns40_0 := NB360_361.out
         have hns40_2 := NB362_361.out
         have hns40_3 := NB363_361.out
         have hns40_4 := NB364_361.out
         have hms40_0 := NB361_360.out
         have hms40_2 := NB361_362.out
         have hms40_3 := NB361_363.out
         have hms40_4 := NB361_364.out
         have hs41 : w39.cell? ⟨gb361, 1, none⟩ = some (.int .i64 0) := (blk_cell BK361.out 1).trans rfl
         have hfs41 := blk_frozen BK361.out 1
         have hns41_0 := NB360_361.out
         have hns41_2 := NB362_361.out
         have hns41_3 := NB363_361.out
         have hns41_4 := NB364_361.out
         have hms41_0 := NB361_360.out
         have hms41_2 := NB361_362.out
         have hms41_3 := NB361_363.out
         have hms41_4 := NB361_364.out
         have hs42 : w39.cell? ⟨gb361, 2, none⟩ = some (.string (⟨#[]⟩ : ByteArray)) := (blk_cell BK361.out 2).trans rfl
         have hfs42 := blk_frozen BK361.out 2
         have hns42_0 := NB360_361.out
         have hns42_2 := NB362_361.out
         have hns42_3 := NB363_361.out
         have hns42_4 := NB364_361.out
         have hms42_0 := NB361_360.out
         have hms42_2 := NB361_362.out
         have hms42_3 := NB361_363.out
         have hms42_4 := NB361_364.out
         have hs43 : w39.cell? ⟨gb361, 3, none⟩ = some (.slice none 0 0) := (blk_cell BK361.out 3).trans rfl
         have hfs43 := blk_frozen BK361.out 3
         have hns43_0 := NB360_361.out
         have hns43_2 := NB362_361.out
         have hns43_3 := NB363_361.out
         have hns43_4 := NB364_361.out
         have hms43_0 := NB361_360.out
         have hms43_2 := NB361_362.out
         have hms43_3 := NB361_363.out
         have hms43_4 := NB361_364.out
         have hs44 : w39.cell? ⟨gb361, 4, none⟩ = some (.slice none 0 0) := (blk_cell BK361.out 4).trans rfl
         have hfs44 := blk_frozen BK361.out 4
         have hns44_0 := NB360_361.out
         have hns44_2 := NB362_361.out
         have hns44_3 := NB363_361.out
         have hns44_4 := NB364_361.out
         have hms44_0 := NB361_360.out
         have hms44_2 := NB361_362.out
         have hms44_3 := NB361_363.out
         have hms44_4 := NB361_364.out
         refine skip_ (w1 := ?_) ?hw1 ?hN1 ?hr1 ?hk1
         case hw1 => rfl
         case hN1 => rfl
         case hr1 => (go_simp; rfl)
         refine hK.out _ _ ⟨((cell_far (p := ⟨gb361, _, none⟩) NB360_361.out _).trans (((cell_far (p := ⟨gb361, _, none⟩) NB360_361.out _).trans (((cell_far (p := ⟨gb361, _, none⟩) NB360_361.out _).trans (((cell_far (p := ⟨gb361, _, none⟩) NB360_361.out _).trans (((cell_far (p := ⟨gb361, _, none⟩) NB360_361.out _).trans (hHeld.1)))))))))), ((cell_far (p := ⟨gb361, _, none⟩) NB360_361.out _).trans (((cell_far (p := ⟨gb361, _, none⟩) NB360_361.out _).trans (((cell_far (p := ⟨gb361, _, none⟩) NB360_361.out _).trans (((cell_far (p := ⟨gb361, _, none⟩) NB360_361.out _).trans (((cell_far (p := ⟨gb361, _, none⟩) NB360_361.out _).trans (hHeld.2.1)))))))))), ((cell_far (p := ⟨gb361, _, none⟩) NB360_361.out _).trans (((cell_far (p := ⟨gb361, _, none⟩) NB360_361.out _).trans (((cell_far (p := ⟨gb361, _, none⟩) NB360_361.out _).trans (((cell_far (p := ⟨gb361, _, none⟩) NB360_361.out _).trans (((cell_far (p := ⟨gb361, _, none⟩) NB360_361.out _).trans (hHeld.2.2.1)))))))))), ((cell_far (p := ⟨gb361, _, none⟩) NB360_361.out _).trans (((cell_far (p := ⟨gb361, _, none⟩) NB360_361.out _).trans (((cell_far (p := ⟨gb361, _, none⟩) NB360_361.out _).trans (((cell_far (p := ⟨gb361, _, none⟩) NB360_361.out _).trans (((cell_far (p := ⟨gb361, _, none⟩) NB360_361.out _).trans (hHeld.2.2.2.1)))))))))), ((cell_far (p := ⟨gb361, _, none⟩) NB360_361.out _).trans (((cell_far (p := ⟨gb361, _, none⟩) NB360_361.out _).trans (((cell_far (p := ⟨gb361, _, none⟩) NB360_361.out _).trans (((cell_far (p := ⟨gb361, _, none⟩) NB360_361.out _).trans (((cell_far (p := ⟨gb361, _, none⟩) NB360_361.out _).trans (hHeld.2.2.2.2))))))))))⟩ (fun hHeld => ?_)
         clear hK K
         refine one_ (i := 9) (N := none) #[true, true, true, true, true, true, true, true, true, true, false, false] rfl rfl (one_of HT_.out (by kernel_rfl)) (by decide) (fun K hK => ?_)
         have hs45 : w39.cell? ⟨gb362, 0, none⟩ = some (.int .i64 0) := (blk_cell BK362.out 0).trans rfl
         have hfs45 := blk_frozen BK362.out 0
         have hns45_0 := NB360_362.out
         have hns45_1 := NB361_362.out
         have hns45_3 := NB363_362.out
         have hns45_4 := NB364_362.out
         have hms45_0 := NB362_360.out
         have hms45_1 := NB362_361.out
         have hms45_3 := NB362_363.out
         have hms45_4 := NB362_364.out
         have hs46 : w39.cell? ⟨gb362, 1, none⟩ = some (.int .i64 0) := (blk_cell BK362.out 1).trans rfl
         have hfs46 := blk_frozen BK362.out 1
         have hns46_0 := NB360_362.out
         have hns46_1 := NB361_362.out
         have hns46_3 := NB363_362.out
         have hns46_4 := NB364_362.out
         have hms46_0 := NB362_360.out
         have hms46_1 := NB362_361.out
         have hms46_3 := NB362_363.out
         have hms46_4 := NB362_364.out
         have hs47 : w39.cell? ⟨gb362, 2, none⟩ = some (.string (⟨#[]⟩ : ByteArray)) := (blk_cell BK362.out 2).trans rfl
         have hfs47 := blk_frozen BK362.out 2
         have hns47_0 := NB360_362.out
         have hns47_1 := NB361_362.out
         have hns47_3 := NB363_362.out
         have hns47_4 := NB364_362.out
         have hms47_0 := NB362_360.out
         have hms47_1 := NB362_361.out
         have hms47_3 := NB362_363.out
         have hms47_4 := NB362_364.out
         have hs48 : w39.cell? ⟨gb362, 3, none⟩ = some (.slice none 0 0) := (blk_cell BK362.out 3).trans rfl
         have hfs48 := blk_frozen BK362.out 3
         have hns48_0 := NB360_362.out
         have hns48_1 := NB361_362.out
         have hns48_3 := NB363_362.out
         have hns48_4 := NB364_362.out
         have hms48_0 := NB362_360.out
         have hms48_1 := NB362_361.out
         have hms48_3 := NB362_363.out
         have hms48_4 := NB362_364.out
         have hs49 : w39.cell? ⟨gb362, 4, none⟩ = some (.slice none 0 0) := (blk_cell BK362.out 4).trans rfl
         have hfs49 := blk_frozen BK362.out 4
         have hns49_0 := NB360_362.out
         have hns49_1 := NB361_362.out
         have hns49_3 := NB363_362.out
         have hns49_4 := NB364_362.out
         have hms49_0 := NB362_360.out
         have hms49_1 := NB362_361.out
         have hms49_3 := NB362_363.out
         have hms49_4 := NB362_364.out
         refine skip_ (w1 := ?_) ?hw2 ?hN2 ?hr2 ?hk2
         case hw2 => rfl
         case hN2 => rfl
         case hr2 => (go_simp; rfl)
         refine hK.out _ _ ⟨((cell_far (p := ⟨gb362, _, none⟩) NB360_362.out _).trans (((cell_far (p := ⟨gb362, _, none⟩) NB360_362.out _).trans (((cell_far (p := ⟨gb362, _, none⟩) NB360_362.out _).trans (((cell_far (p := ⟨gb362, _, none⟩) NB360_362.out _).trans (((cell_far (p := ⟨gb362, _, none⟩) NB360_362.out _).trans (hHeld.1)))))))))), ((cell_far (p := ⟨gb362, _, none⟩) NB360_362.out _).trans (((cell_far (p := ⟨gb362, _, none⟩) NB360_362.out _).trans (((cell_far (p := ⟨gb362, _, none⟩) NB360_362.out _).trans (((cell_far (p := ⟨gb362, _, none⟩) NB360_362.out _).trans (((cell_far (p := ⟨gb362, _, none⟩) NB360_362.out _).trans (hHeld.2.1)))))))))), ((cell_far (p := ⟨gb362, _, none⟩) NB360_362.out _).trans (((cell_far (p := ⟨gb362, _, none⟩) NB360_362.out _).trans (((cell_far (p := ⟨gb362, _, none⟩) NB360_362.out _).trans (((cell_far (p := ⟨gb362, _, none⟩) NB360_362.out _).trans (((cell_far (p := ⟨gb362, _, none⟩) NB360_362.out _).trans (hHeld.2.2.1)))))))))), ((cell_far (p := ⟨gb362, _, none⟩) NB360_362.out _).trans (((cell_far (p := ⟨gb362, _, none⟩) NB360_362.out _).trans (((cell_far (p := ⟨gb362, _, none⟩) NB360_362.out _).trans (((cell_far (p := ⟨gb362, _, none⟩) NB360_362.out _).trans (((cell_far (p := ⟨gb362, _, none⟩) NB360_362.out _).trans (hHeld.2.2.2.1)))))))))), ((cell_far (p := ⟨gb362, _, none⟩) NB360_362.out _).trans (((cell_far (p := ⟨gb362, _, none⟩) NB360_362.out _).trans (((cell_far (p := ⟨gb362, _, none⟩) NB360_362.out _).trans (((cell_far (p := ⟨gb362, _, none⟩) NB360_362.out _).trans (((cell_far (p := ⟨gb362, _, none⟩) NB360_362.out _).trans (hHeld.2.2.2.2))))))))))⟩ (fun hHeld => ?_)
         clear hK K
         refine one_ (i := 10) (N := none) #[true, true, true, true, true, true, true, true, true, true, true, false] rfl rfl (one_of HT_.out (by kernel_rfl)) (by decide) (fun K hK => ?_)
         have hs50 : w39.cell? ⟨gb363, 0, none⟩ = some (.int .i64 0) := (blk_cell BK363.out 0).trans rfl
         have hfs50 := blk_frozen BK363.out 0
         have hns50_0 := NB360_363.out
         have hns50_1 := NB361_363.out
         have hns50_2 := NB362_363.out
         have hns50_4 := NB364_363.out
         have hms50_0 := NB363_360.out
         have hms50_1 := NB363_361.out
         have hms50_2 := NB363_362.out
         have hms50_4 := NB363_364.out
         have hs51 : w39.cell? ⟨gb363, 1, none⟩ = some (.int .i64 0) := (blk_cell BK363.out 1).trans rfl
         have hfs51 := blk_frozen BK363.out 1
         have hns51_0 := NB360_363.out
         have hns51_1 := NB361_363.out
         have hns51_2 := NB362_363.out
         have hns51_4 := NB364_363.out
         have hms51_0 := NB363_360.out
         have hms51_1 := NB363_361.out
         have hms51_2 := NB363_362.out
         have hms51_4 := NB363_364.out
         have hs52 : w39.cell? ⟨gb363, 2, none⟩ = some (.string (⟨#[]⟩ : ByteArray)) := (blk_cell BK363.out 2).trans rfl
         have hfs52 := blk_frozen BK363.out 2
         have hns52_0 := NB360_363.out
         have hns52_1 := NB361_363.out
         have hns52_2 := NB362_363.out
         have hns52_4 := NB364_363.out
         have hms52_0 := NB363_360.out
         have hms52_1 := NB363_361.out
         have hms52_2 := NB363_362.out
         have hms52_4 := NB363_364.out
         have hs53 : w39.cell? ⟨gb363, 3, none⟩ = some (.slice none 0 0) := (blk_cell BK363.out 3).trans rfl
         have hfs53 := blk_frozen BK363.out 3
         have hns53_0 := NB360_363.out
         have hns53_1 := NB361_363.out
         have hns53_2 := NB362_363.out
         have hns53_4 := NB364_363.out
         have hms53_0 := NB363_360.out
         have hms53_1 := NB363_361.out
         have hms53_2 := NB363_362.out
         have hms53_4 := NB363_364.out
         have hs54 : w39.cell? ⟨gb363, 4, none⟩ = some (.slice none 0 0) := (blk_cell BK363.out 4).trans rfl
         have hfs54 := blk_frozen BK363.out 4
         have hns54_0 := NB360_363.out
         have hns54_1 := NB361_363.out
         have hns54_2 := NB362_363.out
         have hns54_4 := NB364_363.out
         have hms54_0 := NB363_360.out
         have hms54_1 := NB363_361.out
         have hms54_2 := NB363_362.out
         have hms54_4 := NB363_364.out
         refine skip_ (w1 := ?_) ?hw3 ?hN3 ?hr3 ?hk3
         case hw3 => rfl
         case hN3 => rfl
         case hr3 => (go_simp; rfl)
         refine hK.out _ _ ⟨((cell_far (p := ⟨gb363, _, none⟩) NB360_363.out _).trans (((cell_far (p := ⟨gb363, _, none⟩) NB360_363.out _).trans (((cell_far (p := ⟨gb363, _, none⟩) NB360_363.out _).trans (((cell_far (p := ⟨gb363, _, none⟩) NB360_363.out _).trans (((cell_far (p := ⟨gb363, _, none⟩) NB360_363.out _).trans (hHeld.1)))))))))), ((cell_far (p := ⟨gb363, _, none⟩) NB360_363.out _).trans (((cell_far (p := ⟨gb363, _, none⟩) NB360_363.out _).trans (((cell_far (p := ⟨gb363, _, none⟩) NB360_363.out _).trans (((cell_far (p := ⟨gb363, _, none⟩) NB360_363.out _).trans (((cell_far (p := ⟨gb363, _, none⟩) NB360_363.out _).trans (hHeld.2.1)))))))))), ((cell_far (p := ⟨gb363, _, none⟩) NB360_363.out _).trans (((cell_far (p := ⟨gb363, _, none⟩) NB360_363.out _).trans (((cell_far (p := ⟨gb363, _, none⟩) NB360_363.out _).trans (((cell_far (p := ⟨gb363, _, none⟩) NB360_363.out _).trans (((cell_far (p := ⟨gb363, _, none⟩) NB360_363.out _).trans (hHeld.2.2.1)))))))))), ((cell_far (p := ⟨gb363, _, none⟩) NB360_363.out _).trans (((cell_far (p := ⟨gb363, _, none⟩) NB360_363.out _).trans (((cell_far (p := ⟨gb363, _, none⟩) NB360_363.out _).trans (((cell_far (p := ⟨gb363, _, none⟩) NB360_363.out _).trans (((cell_far (p := ⟨gb363, _, none⟩) NB360_363.out _).trans (hHeld.2.2.2.1)))))))))), ((cell_far (p := ⟨gb363, _, none⟩) NB360_363.out _).trans (((cell_far (p := ⟨gb363, _, none⟩) NB360_363.out _).trans (((cell_far (p := ⟨gb363, _, none⟩) NB360_363.out _).trans (((cell_far (p := ⟨gb363, _, none⟩) NB360_363.out _).trans (((cell_far (p := ⟨gb363, _, none⟩) NB360_363.out _).trans (hHeld.2.2.2.2))))))))))⟩ (fun hHeld => ?_)
         clear hK K
         refine one_ (i := 11) (N := none) #[true, true, true, true, true, true, true, true, true, true, true, true] rfl rfl (one_of HT_.out (by kernel_rfl)) (by decide) (fun K hK => ?_)
         have hs55 : w39.cell? ⟨gb364, 0, none⟩ = some (.int .i64 0) := (blk_cell BK364.out 0).trans rfl
         have hfs55 := blk_frozen BK364.out 0
         have hns55_0 := NB360_364.out
         have hns55_1 := NB361_364.out
         have hns55_2 := NB362_364.out
         have hns55_3 := NB363_364.out
         have hms55_0 := NB364_360.out
         have hms55_1 := NB364_361.out
         have hms55_2 := NB364_362.out
         have hms55_3 := NB364_363.out
         have hs56 : w39.cell? ⟨gb364, 1, none⟩ = some (.int .i64 0) := (blk_cell BK364.out 1).trans rfl
         have hfs56 := blk_frozen BK364.out 1
         have hns56_0 := NB360_364.out
         have hns56_1 := NB361_364.out
         have hns56_2 := NB362_364.out
         have hns56_3 := NB363_364.out
         have hms56_0 := NB364_360.out
         have hms56_1 := NB364_361.out
         have hms56_2 := NB364_362.out
         have hms56_3 := NB364_363.out
         have hs57 : w39.cell? ⟨gb364, 2, none⟩ = some (.string (⟨#[]⟩ : ByteArray)) := (blk_cell BK364.out 2).trans rfl
         have hfs57 := blk_frozen BK364.out 2
         have hns57_0 := NB360_364.out
         have hns57_1 := NB361_364.out
         have hns57_2 := NB362_364.out
         have hns57_3 := NB363_364.out
         have hms57_0 := NB364_360.out
         have hms57_1 := NB364_361.out
         have hms57_2 := NB364_362.out
         have hms57_3 := NB364_363.out
         have hs58 : w39.cell? ⟨gb364, 3, none⟩ = some (.slice none 0 0) := (blk_cell BK364.out 3).trans rfl
         have hfs58 := blk_frozen BK364.out 3
         have hns58_0 := NB360_364.out
         have hns58_1 := NB361_364.out
         have hns58_2 := NB362_364.out
         have hns58_3 := NB363_364.out
         have hms58_0 := NB364_360.out
         have hms58_1 := NB364_361.out
         have hms58_2 := NB364_362.out
         have hms58_3 := NB364_363.out
         have hs59 : w39.cell? ⟨gb364, 4, none⟩ = some (.slice none 0 0) := (blk_cell BK364.out 4).trans rfl
         have hfs59 := blk_frozen BK364.out 4
         have hns59_0 := NB360_364.out
         have hns59_1 := NB361_364.out
         have hns59_2 := NB362_364.out
         have hns59_3 := NB363_364.out
         have hms59_0 := NB364_360.out
         have hms59_1 := NB364_361.out
         have hms59_2 := NB364_362.out
         have hms59_3 := NB364_363.out
         refine skip_ (w1 := ?_) ?hw4 ?hN4 ?hr4 ?hk4
         case hw4 => rfl
         case hN4 => rfl
         case hr4 => (go_simp; rfl)
         refine hK.out _ _ ⟨((cell_far (p := ⟨gb364, _, none⟩) NB360_364.out _).trans (((cell_far (p := ⟨gb364, _, none⟩) NB360_364.out _).trans (((cell_far (p := ⟨gb364, _, none⟩) NB360_364.out _).trans (((cell_far (p := ⟨gb364, _, none⟩) NB360_364.out _).trans (((cell_far (p := ⟨gb364, _, none⟩) NB360_364.out _).trans (hHeld.1)))))))))), ((cell_far (p := ⟨gb364, _, none⟩) NB360_364.out _).trans (((cell_far (p := ⟨gb364, _, none⟩) NB360_364.out _).trans (((cell_far (p := ⟨gb364, _, none⟩) NB360_364.out _).trans (((cell_far (p := ⟨gb364, _, none⟩) NB360_364.out _).trans (((cell_far (p := ⟨gb364, _, none⟩) NB360_364.out _).trans (hHeld.2.1)))))))))), ((cell_far (p := ⟨gb364, _, none⟩) NB360_364.out _).trans (((cell_far (p := ⟨gb364, _, none⟩) NB360_364.out _).trans (((cell_far (p := ⟨gb364, _, none⟩) NB360_364.out _).trans (((cell_far (p := ⟨gb364, _, none⟩) NB360_364.out _).trans (((cell_far (p := ⟨gb364, _, none⟩) NB360_364.out _).trans (hHeld.2.2.1)))))))))), ((cell_far (p := ⟨gb364, _, none⟩) NB360_364.out _).trans (((cell_far (p := ⟨gb364, _, none⟩) NB360_364.out _).trans (((cell_far (p := ⟨gb364, _, none⟩) NB360_364.out _).trans (((cell_far (p := ⟨gb364, _, none⟩) NB360_364.out _).trans (((cell_far (p := ⟨gb364, _, none⟩) NB360_364.out _).trans (hHeld.2.2.2.1)))))))))), ((cell_far (p := ⟨gb364, _, none⟩) NB360_364.out _).trans (((cell_far (p := ⟨gb364, _, none⟩) NB360_364.out _).trans (((cell_far (p := ⟨gb364, _, none⟩) NB360_364.out _).trans (((cell_far (p := ⟨gb364, _, none⟩) NB360_364.out _).trans (((cell_far (p := ⟨gb364, _, none⟩) NB360_364.out _).trans (hHeld.2.2.2.2))))))))))⟩ (fun hHeld => ?_)
         clear hK K
         refine done_ (done_of HT_.out (by kernel_rfl)) ?_
         have hnb60 := NB361_360.out
         have hnc60 := NB360_361.out
         have hnb61 := NB361_362.out
         have hnc61 := NB362_361.out
         have hnb62 := NB361_363.out
         have hnc62 := NB363_361.out
         have hnb63 := NB361_364.out
         have hnc63 := NB364_361.out
         obtain ⟨hcz64_0, hcz64_1, hcz64_2, hcz64_3, hcz64_4, hfz64_0, hfz64_1, hfz64_2, hfz64_3, hfz64_4⟩ := z5 BK361
         have hnb65 := NB362_360.out
         have hnc65 := NB360_362.out
         have hnb66 := NB362_363.out
         have hnc66 := NB363_362.out
         have hnb67 := NB362_364.out
         have hnc67 := NB364_362.out
         obtain ⟨hcz68_0, hcz68_1, hcz68_2, hcz68_3, hcz68_4, hfz68_0, hfz68_1, hfz68_2, hfz68_3, hfz68_4⟩ := z5 BK362
         have hnb69 := NB363_360.out
         have hnc69 := NB360_363.out
         have hnb70 := NB363_364.out
         have hnc70 := NB364_363.out
         obtain ⟨hcz71_0, hcz71_1, hcz71_2, hcz71_3, hcz71_4, hfz71_0, hfz71_1, hfz71_2, hfz71_3, hfz71_4⟩ := z5 BK363
         have hnb72 := NB364_360.out
         have hnc72 := NB360_364.out
         obtain ⟨hcz73_0, hcz73_1, hcz73_2, hcz73_3, hcz73_4, hfz73_0, hfz73_1, hfz73_2, hfz73_3, hfz73_4⟩ := z5 BK364
         try go_wp2
         have n0_ : Aside0 (Kd.R k23 23 ((((((((((((((((((((((((w39.setCell ⟨gb361, 0, none⟩ (.int .i64 t350)).setCell ⟨gb361, 1, none⟩ (.int .i64 t351)).setCell ⟨gb361, 2, none⟩ (.string t352)).setCell ⟨gb361, 3, none⟩ (.slice Ao14 t353.length co14)).setCell ⟨gb361, 4, none⟩ (.slice Ao15 t356.length co15)).setCell ⟨gb362, 0, none⟩ (.int .i64 t350)).setCell ⟨gb362, 1, none⟩ (.int .i64 t351)).setCell ⟨gb362, 2, none⟩ (.string t352)).setCell ⟨gb362, 3, none⟩ (.slice Ao14 t353.length co14)).setCell ⟨gb362, 4, none⟩ (.slice Ao15 t356.length co15)).setCell ⟨gb363, 0, none⟩ (.int .i64 t350)).setCell ⟨gb363, 1, none⟩ (.int .i64 t351)).setCell ⟨gb363, 2, none⟩ (.string t352)).setCell ⟨gb363, 3, none⟩ (.slice Ao14 t353.length co14)).setCell ⟨gb363, 4, none⟩ (.slice Ao15 t356.length co15)).setCell ⟨gb364, 0, none⟩ (.int .i64 t350)).setCell ⟨gb364, 1, none⟩ (.int .i64 t351)).setCell ⟨gb364, 2, none⟩ (.string t352)).setCell ⟨gb364, 3, none⟩ (.slice Ao14 t353.length co14)).setCell ⟨gb364, 4, none⟩ (.slice Ao15 t356.length co15)).setCell ⟨gb361, 0, none⟩ (.int .i64 a1)).setCell ⟨gb362, 1, none⟩ (.int .i64 a2)).setCell ⟨gb363, 2, none⟩ (.string a3)).setCell ⟨gb364, 4, none⟩ (.slice A4 l4.length c4)) w.heap.size (fun _ => True) (.slice Ao14 t353.length co14) t353) := ⟨by (with_reducible repeat (first | apply Kd.R_alloc | apply Kd.R_drewN | apply Kd.R_drew)); exact Kd.R_mono (Kd.R_far (p := ⟨gb364, 4, none⟩) (Kd.R_far (p := ⟨gb363, 2, none⟩) (Kd.R_far (p := ⟨gb362, 1, none⟩) (Kd.R_far (p := ⟨gb361, 0, none⟩) (Kd.R_far (p := ⟨gb364, 4, none⟩) (Kd.R_far (p := ⟨gb364, 3, none⟩) (Kd.R_far (p := ⟨gb364, 2, none⟩) (Kd.R_far (p := ⟨gb364, 1, none⟩) (Kd.R_far (p := ⟨gb364, 0, none⟩) (Kd.R_far (p := ⟨gb363, 4, none⟩) (Kd.R_far (p := ⟨gb363, 3, none⟩) (Kd.R_far (p := ⟨gb363, 2, none⟩) (Kd.R_far (p := ⟨gb363, 1, none⟩) (Kd.R_far (p := ⟨gb363, 0, none⟩) (Kd.R_far (p := ⟨gb362, 4, none⟩) (Kd.R_far (p := ⟨gb362, 3, none⟩) (Kd.R_far (p := ⟨gb362, 2, none⟩) (Kd.R_far (p := ⟨gb362, 1, none⟩) (Kd.R_far (p := ⟨gb362, 0, none⟩) (Kd.R_far (p := ⟨gb361, 4, none⟩) (Kd.R_far (p := ⟨gb361, 3, none⟩) (Kd.R_far (p := ⟨gb361, 2, none⟩) (Kd.R_far (p := ⟨gb361, 1, none⟩) (Kd.R_far (p := ⟨gb361, 0, none⟩) (Kd.R_types (Kd.R_types (Kd.R_types (Kd.R_types HO_361003.out BK361.out (by decide)) BK362.out (by decide)) BK363.out (by decide)) BK364.out (by decide)) (fun _ hk => hk.1.1.1.2) (.int .i64 t350)) (fun _ hk => hk.1.1.1.2) (.int .i64 t351)) (fun _ hk => hk.1.1.1.2) (.string t352)) (fun _ hk => hk.1.1.1.2) (.slice Ao14 t353.length co14)) (fun _ hk => hk.1.1.1.2) (.slice Ao15 t356.length co15)) (fun _ hk => hk.1.1.2) (.int .i64 t350)) (fun _ hk => hk.1.1.2) (.int .i64 t351)) (fun _ hk => hk.1.1.2) (.string t352)) (fun _ hk => hk.1.1.2) (.slice Ao14 t353.length co14)) (fun _ hk => hk.1.1.2) (.slice Ao15 t356.length co15)) (fun _ hk => hk.1.2) (.int .i64 t350)) (fun _ hk => hk.1.2) (.int .i64 t351)) (fun _ hk => hk.1.2) (.string t352)) (fun _ hk => hk.1.2) (.slice Ao14 t353.length co14)) (fun _ hk => hk.1.2) (.slice Ao15 t356.length co15)) (fun _ hk => hk.2) (.int .i64 t350)) (fun _ hk => hk.2) (.int .i64 t351)) (fun _ hk => hk.2) (.string t352)) (fun _ hk => hk.2) (.slice Ao14 t353.length co14)) (fun _ hk => hk.2) (.slice Ao15 t356.length co15)) (fun _ hk => hk.1.1.1.2) (.int .i64 a1)) (fun _ hk => hk.1.1.2) (.int .i64 a2)) (fun _ hk => hk.1.2) (.string a3)) (fun _ hk => hk.2) (.slice A4 l4.length c4)) (fun _ hk => trivial)⟩
         have n1_ : Aside0 (Kd.R (Kd.int .i64) 3 ((((((((((((((((((((((((w39.setCell ⟨gb361, 0, none⟩ (.int .i64 t350)).setCell ⟨gb361, 1, none⟩ (.int .i64 t351)).setCell ⟨gb361, 2, none⟩ (.string t352)).setCell ⟨gb361, 3, none⟩ (.slice Ao14 t353.length co14)).setCell ⟨gb361, 4, none⟩ (.slice Ao15 t356.length co15)).setCell ⟨gb362, 0, none⟩ (.int .i64 t350)).setCell ⟨gb362, 1, none⟩ (.int .i64 t351)).setCell ⟨gb362, 2, none⟩ (.string t352)).setCell ⟨gb362, 3, none⟩ (.slice Ao14 t353.length co14)).setCell ⟨gb362, 4, none⟩ (.slice Ao15 t356.length co15)).setCell ⟨gb363, 0, none⟩ (.int .i64 t350)).setCell ⟨gb363, 1, none⟩ (.int .i64 t351)).setCell ⟨gb363, 2, none⟩ (.string t352)).setCell ⟨gb363, 3, none⟩ (.slice Ao14 t353.length co14)).setCell ⟨gb363, 4, none⟩ (.slice Ao15 t356.length co15)).setCell ⟨gb364, 0, none⟩ (.int .i64 t350)).setCell ⟨gb364, 1, none⟩ (.int .i64 t351)).setCell ⟨gb364, 2, none⟩ (.string t352)).setCell ⟨gb364, 3, none⟩ (.slice Ao14 t353.length co14)).setCell ⟨gb364, 4, none⟩ (.slice Ao15 t356.length co15)).setCell ⟨gb361, 0, none⟩ (.int .i64 a1)).setCell ⟨gb362, 1, none⟩ (.int .i64 a2)).setCell ⟨gb363, 2, none⟩ (.string a3)).setCell ⟨gb364, 4, none⟩ (.slice A4 l4.length c4)) w.heap.size (fun _ => True) (.slice Ao15 t356.length co15) t356) := ⟨by (with_reducible repeat (first | apply Kd.R_alloc | apply Kd.R_drewN | apply Kd.R_drew)); exact Kd.R_mono (Kd.R_far (p := ⟨gb364, 4, none⟩) (Kd.R_far (p := ⟨gb363, 2, none⟩) (Kd.R_far (p := ⟨gb362, 1, none⟩) (Kd.R_far (p := ⟨gb361, 0, none⟩) (Kd.R_far (p := ⟨gb364, 4, none⟩) (Kd.R_far (p := ⟨gb364, 3, none⟩) (Kd.R_far (p := ⟨gb364, 2, none⟩) (Kd.R_far (p := ⟨gb364, 1, none⟩) (Kd.R_far (p := ⟨gb364, 0, none⟩) (Kd.R_far (p := ⟨gb363, 4, none⟩) (Kd.R_far (p := ⟨gb363, 3, none⟩) (Kd.R_far (p := ⟨gb363, 2, none⟩) (Kd.R_far (p := ⟨gb363, 1, none⟩) (Kd.R_far (p := ⟨gb363, 0, none⟩) (Kd.R_far (p := ⟨gb362, 4, none⟩) (Kd.R_far (p := ⟨gb362, 3, none⟩) (Kd.R_far (p := ⟨gb362, 2, none⟩) (Kd.R_far (p := ⟨gb362, 1, none⟩) (Kd.R_far (p := ⟨gb362, 0, none⟩) (Kd.R_far (p := ⟨gb361, 4, none⟩) (Kd.R_far (p := ⟨gb361, 3, none⟩) (Kd.R_far (p := ⟨gb361, 2, none⟩) (Kd.R_far (p := ⟨gb361, 1, none⟩) (Kd.R_far (p := ⟨gb361, 0, none⟩) (Kd.R_types (Kd.R_types (Kd.R_types (Kd.R_types HO_361004.out BK361.out (by decide)) BK362.out (by decide)) BK363.out (by decide)) BK364.out (by decide)) (fun _ hk => hk.1.1.1.2) (.int .i64 t350)) (fun _ hk => hk.1.1.1.2) (.int .i64 t351)) (fun _ hk => hk.1.1.1.2) (.string t352)) (fun _ hk => hk.1.1.1.2) (.slice Ao14 t353.length co14)) (fun _ hk => hk.1.1.1.2) (.slice Ao15 t356.length co15)) (fun _ hk => hk.1.1.2) (.int .i64 t350)) (fun _ hk => hk.1.1.2) (.int .i64 t351)) (fun _ hk => hk.1.1.2) (.string t352)) (fun _ hk => hk.1.1.2) (.slice Ao14 t353.length co14)) (fun _ hk => hk.1.1.2) (.slice Ao15 t356.length co15)) (fun _ hk => hk.1.2) (.int .i64 t350)) (fun _ hk => hk.1.2) (.int .i64 t351)) (fun _ hk => hk.1.2) (.string t352)) (fun _ hk => hk.1.2) (.slice Ao14 t353.length co14)) (fun _ hk => hk.1.2) (.slice Ao15 t356.length co15)) (fun _ hk => hk.2) (.int .i64 t350)) (fun _ hk => hk.2) (.int .i64 t351)) (fun _ hk => hk.2) (.string t352)) (fun _ hk => hk.2) (.slice Ao14 t353.length co14)) (fun _ hk => hk.2) (.slice Ao15 t356.length co15)) (fun _ hk => hk.1.1.1.2) (.int .i64 a1)) (fun _ hk => hk.1.1.2) (.int .i64 a2)) (fun _ hk => hk.1.2) (.string a3)) (fun _ hk => hk.2) (.slice A4 l4.length c4)) (fun _ hk => trivial)⟩
         have n2_ : Aside0 (((((((((((((((((((((((((w39.setCell ⟨gb361, 0, none⟩ (.int .i64 t350)).setCell ⟨gb361, 1, none⟩ (.int .i64 t351)).setCell ⟨gb361, 2, none⟩ (.string t352)).setCell ⟨gb361, 3, none⟩ (.slice Ao14 t353.length co14)).setCell ⟨gb361, 4, none⟩ (.slice Ao15 t356.length co15)).setCell ⟨gb362, 0, none⟩ (.int .i64 t350)).setCell ⟨gb362, 1, none⟩ (.int .i64 t351)).setCell ⟨gb362, 2, none⟩ (.string t352)).setCell ⟨gb362, 3, none⟩ (.slice Ao14 t353.length co14)).setCell ⟨gb362, 4, none⟩ (.slice Ao15 t356.length co15)).setCell ⟨gb363, 0, none⟩ (.int .i64 t350)).setCell ⟨gb363, 1, none⟩ (.int .i64 t351)).setCell ⟨gb363, 2, none⟩ (.string t352)).setCell ⟨gb363, 3, none⟩ (.slice Ao14 t353.length co14)).setCell ⟨gb363, 4, none⟩ (.slice Ao15 t356.length co15)).setCell ⟨gb364, 0, none⟩ (.int .i64 t350)).setCell ⟨gb364, 1, none⟩ (.int .i64 t351)).setCell ⟨gb364, 2, none⟩ (.string t352)).setCell ⟨gb364, 3, none⟩ (.slice Ao14 t353.length co14)).setCell ⟨gb364, 4, none⟩ (.slice Ao15 t356.length co15)).setCell ⟨gb361, 0, none⟩ (.int .i64 a1)).setCell ⟨gb362, 1, none⟩ (.int .i64 a2)).setCell ⟨gb363, 2, none⟩ (.string a3)).setCell ⟨gb364, 4, none⟩ (.slice A4 l4.length c4)).heap[gb360]? = some (.cells #[.int .i64 t350, .int .i64 t351, .string t352, .slice Ao14 t353.length co14, .slice Ao15 t356.length co15] 33 (0, 0))) := ⟨q16b⟩
         have n3_ : Aside0 (((((((((((((((((((((((((w39.setCell ⟨gb361, 0, none⟩ (.int .i64 t350)).setCell ⟨gb361, 1, none⟩ (.int .i64 t351)).setCell ⟨gb361, 2, none⟩ (.string t352)).setCell ⟨gb361, 3, none⟩ (.slice Ao14 t353.length co14)).setCell ⟨gb361, 4, none⟩ (.slice Ao15 t356.length co15)).setCell ⟨gb362, 0, none⟩ (.int .i64 t350)).setCell ⟨gb362, 1, none⟩ (.int .i64 t351)).setCell ⟨gb362, 2, none⟩ (.string t352)).setCell ⟨gb362, 3, none⟩ (.slice Ao14 t353.length co14)).setCell ⟨gb362, 4, none⟩ (.slice Ao15 t356.length co15)).setCell ⟨gb363, 0, none⟩ (.int .i64 t350)).setCell ⟨gb363, 1, none⟩ (.int .i64 t351)).setCell ⟨gb363, 2, none⟩ (.string t352)).setCell ⟨gb363, 3, none⟩ (.slice Ao14 t353.length co14)).setCell ⟨gb363, 4, none⟩ (.slice Ao15 t356.length co15)).setCell ⟨gb364, 0, none⟩ (.int .i64 t350)).setCell ⟨gb364, 1, none⟩ (.int .i64 t351)).setCell ⟨gb364, 2, none⟩ (.string t352)).setCell ⟨gb364, 3, none⟩ (.slice Ao14 t353.length co14)).setCell ⟨gb364, 4, none⟩ (.slice Ao15 t356.length co15)).setCell ⟨gb361, 0, none⟩ (.int .i64 a1)).setCell ⟨gb362, 1, none⟩ (.int .i64 a2)).setCell ⟨gb363, 2, none⟩ (.string a3)).setCell ⟨gb364, 4, none⟩ (.slice A4 l4.length c4)).heap[gb361]? = some (.cells #[.int .i64 a1, .int .i64 t351, .string t352, .slice Ao14 t353.length co14, .slice Ao15 t356.length co15] 33 (0, 0))) := ⟨by (with_reducible repeat (first | refine blk_drewN ?_ _ | refine blk_drew ?_ | refine blk_alloc ?_ _)); refine blk_far ?_ NB361_364.out _; (with_reducible repeat (first | refine blk_drewN ?_ _ | refine blk_drew ?_ | refine blk_alloc ?_ _)); refine blk_far ?_ NB361_363.out _; (with_reducible repeat (first | refine blk_drewN ?_ _ | refine blk_drew ?_ | refine blk_alloc ?_ _)); refine blk_far ?_ NB361_362.out _; (with_reducible repeat (first | refine blk_drewN ?_ _ | refine blk_drew ?_ | refine blk_alloc ?_ _)); refine blk_put (cs := #[.int .i64 t350, .int .i64 t351, .string t352, .slice Ao14 t353.length co14, .slice Ao15 t356.length co15]) ?_ 0 _ rfl; (with_reducible repeat (first | refine blk_drewN ?_ _ | refine blk_drew ?_ | refine blk_alloc ?_ _)); refine blk_far ?_ NB361_364.out _; (with_reducible repeat (first | refine blk_drewN ?_ _ | refine blk_drew ?_ | refine blk_alloc ?_ _)); refine blk_far ?_ NB361_364.out _; (with_reducible repeat (first | refine blk_drewN ?_ _ | refine blk_drew ?_ | refine blk_alloc ?_ _)); refine blk_far ?_ NB361_364.out _; (with_reducible repeat (first | refine blk_drewN ?_ _ | refine blk_drew ?_ | refine blk_alloc ?_ _)); refine blk_far ?_ NB361_364.out _; (with_reducible repeat (first | refine blk_drewN ?_ _ | refine blk_drew ?_ | refine blk_alloc ?_ _)); refine blk_far ?_ NB361_364.out _; (with_reducible repeat (first | refine blk_drewN ?_ _ | refine blk_drew ?_ | refine blk_alloc ?_ _)); refine blk_far ?_ NB361_363.out _; (with_reducible repeat (first | refine blk_drewN ?_ _ | refine blk_drew ?_ | refine blk_alloc ?_ _)); refine blk_far ?_ NB361_363.out _; (with_reducible repeat (first | refine blk_drewN ?_ _ | refine blk_drew ?_ | refine blk_alloc ?_ _)); refine blk_far ?_ NB361_363.out _; (with_reducible repeat (first | refine blk_drewN ?_ _ | refine blk_drew ?_ | refine blk_alloc ?_ _)); refine blk_far ?_ NB361_363.out _; (with_reducible repeat (first | refine blk_drewN ?_ _ | refine blk_drew ?_ | refine blk_alloc ?_ _)); refine blk_far ?_ NB361_363.out _; (with_reducible repeat (first | refine blk_drewN ?_ _ | refine blk_drew ?_ | refine blk_alloc ?_ _)); refine blk_far ?_ NB361_362.out _; (with_reducible repeat (first | refine blk_drewN ?_ _ | refine blk_drew ?_ | refine blk_alloc ?_ _)); refine blk_far ?_ NB361_362.out _; (with_reducible repeat (first | refine blk_drewN ?_ _ | refine blk_drew ?_ | refine blk_alloc ?_ _)); refine blk_far ?_ NB361_362.out _; (with_reducible repeat (first | refine blk_drewN ?_ _ | refine blk_drew ?_ | refine blk_alloc ?_ _)); refine blk_far ?_ NB361_362.out _; (with_reducible repeat (first | refine blk_drewN ?_ _ | refine blk_drew ?_ | refine blk_alloc ?_ _)); refine blk_far ?_ NB361_362.out _; (with_reducible repeat (first | refine blk_drewN ?_ _ | refine blk_drew ?_ | refine blk_alloc ?_ _)); refine blk_put (cs := #[.int .i64 t350, .int .i64 t351, .string t352, .slice Ao14 t353.length co14, .slice none 0 0]) ?_ 4 _ rfl; (with_reducible repeat (first | refine blk_drewN ?_ _ | refine blk_drew ?_ | refine blk_alloc ?_ _)); refine blk_put (cs := #[.int .i64 t350, .int .i64 t351, .string t352, .slice none 0 0, .slice none 0 0]) ?_ 3 _ rfl; (with_reducible repeat (first | refine blk_drewN ?_ _ | refine blk_drew ?_ | refine blk_alloc ?_ _)); refine blk_put (cs := #[.int .i64 t350, .int .i64 t351, .string (⟨#[]⟩ : ByteArray), .slice none 0 0, .slice none 0 0]) ?_ 2 _ rfl; (with_reducible repeat (first | refine blk_drewN ?_ _ | refine blk_drew ?_ | refine blk_alloc ?_ _)); refine blk_put (cs := #[.int .i64 t350, .int .i64 0, .string (⟨#[]⟩ : ByteArray), .slice none 0 0, .slice none 0 0]) ?_ 1 _ rfl; (with_reducible repeat (first | refine blk_drewN ?_ _ | refine blk_drew ?_ | refine blk_alloc ?_ _)); refine blk_put (cs := #[.int .i64 0, .int .i64 0, .string (⟨#[]⟩ : ByteArray), .slice none 0 0, .slice none 0 0]) ?_ 0 _ rfl; (with_reducible repeat (first | refine blk_drewN ?_ _ | refine blk_drew ?_ | refine blk_alloc ?_ _)); exact BK361.out⟩
         have n4_ : Aside0 (((((((((((((((((((((((((w39.setCell ⟨gb361, 0, none⟩ (.int .i64 t350)).setCell ⟨gb361, 1, none⟩ (.int .i64 t351)).setCell ⟨gb361, 2, none⟩ (.string t352)).setCell ⟨gb361, 3, none⟩ (.slice Ao14 t353.length co14)).setCell ⟨gb361, 4, none⟩ (.slice Ao15 t356.length co15)).setCell ⟨gb362, 0, none⟩ (.int .i64 t350)).setCell ⟨gb362, 1, none⟩ (.int .i64 t351)).setCell ⟨gb362, 2, none⟩ (.string t352)).setCell ⟨gb362, 3, none⟩ (.slice Ao14 t353.length co14)).setCell ⟨gb362, 4, none⟩ (.slice Ao15 t356.length co15)).setCell ⟨gb363, 0, none⟩ (.int .i64 t350)).setCell ⟨gb363, 1, none⟩ (.int .i64 t351)).setCell ⟨gb363, 2, none⟩ (.string t352)).setCell ⟨gb363, 3, none⟩ (.slice Ao14 t353.length co14)).setCell ⟨gb363, 4, none⟩ (.slice Ao15 t356.length co15)).setCell ⟨gb364, 0, none⟩ (.int .i64 t350)).setCell ⟨gb364, 1, none⟩ (.int .i64 t351)).setCell ⟨gb364, 2, none⟩ (.string t352)).setCell ⟨gb364, 3, none⟩ (.slice Ao14 t353.length co14)).setCell ⟨gb364, 4, none⟩ (.slice Ao15 t356.length co15)).setCell ⟨gb361, 0, none⟩ (.int .i64 a1)).setCell ⟨gb362, 1, none⟩ (.int .i64 a2)).setCell ⟨gb363, 2, none⟩ (.string a3)).setCell ⟨gb364, 4, none⟩ (.slice A4 l4.length c4)).heap[gb362]? = some (.cells #[.int .i64 t350, .int .i64 a2, .string t352, .slice Ao14 t353.length co14, .slice Ao15 t356.length co15] 33 (0, 0))) := ⟨by (with_reducible repeat (first | refine blk_drewN ?_ _ | refine blk_drew ?_ | refine blk_alloc ?_ _)); refine blk_far ?_ NB362_364.out _; (with_reducible repeat (first | refine blk_drewN ?_ _ | refine blk_drew ?_ | refine blk_alloc ?_ _)); refine blk_far ?_ NB362_363.out _; (with_reducible repeat (first | refine blk_drewN ?_ _ | refine blk_drew ?_ | refine blk_alloc ?_ _)); refine blk_put (cs := #[.int .i64 t350, .int .i64 t351, .string t352, .slice Ao14 t353.length co14, .slice Ao15 t356.length co15]) ?_ 1 _ rfl; (with_reducible repeat (first | refine blk_drewN ?_ _ | refine blk_drew ?_ | refine blk_alloc ?_ _)); refine blk_far ?_ NB362_361.out _; (with_reducible repeat (first | refine blk_drewN ?_ _ | refine blk_drew ?_ | refine blk_alloc ?_ _)); refine blk_far ?_ NB362_364.out _; (with_reducible repeat (first | refine blk_drewN ?_ _ | refine blk_drew ?_ | refine blk_alloc ?_ _)); refine blk_far ?_ NB362_364.out _; (with_reducible repeat (first | refine blk_drewN ?_ _ | refine blk_drew ?_ | refine blk_alloc ?_ _)); refine blk_far ?_ NB362_364.out _; (with_reducible repeat (first | refine blk_drewN ?_ _ | refine blk_drew ?_ | refine blk_alloc ?_ _)); refine blk_far ?_ NB362_364.out _; (with_reducible repeat (first | refine blk_drewN ?_ _ | refine blk_drew ?_ | refine blk_alloc ?_ _)); refine blk_far ?_ NB362_364.out _; (with_reducible repeat (first | refine blk_drewN ?_ _ | refine blk_drew ?_ | refine blk_alloc ?_ _)); refine blk_far ?_ NB362_363.out _; (with_reducible repeat (first | refine blk_drewN ?_ _ | refine blk_drew ?_ | refine blk_alloc ?_ _)); refine blk_far ?_ NB362_363.out _; (with_reducible repeat (first | refine blk_drewN ?_ _ | refine blk_drew ?_ | refine blk_alloc ?_ _)); refine blk_far ?_ NB362_363.out _; (with_reducible repeat (first | refine blk_drewN ?_ _ | refine blk_drew ?_ | refine blk_alloc ?_ _)); refine blk_far ?_ NB362_363.out _; (with_reducible repeat (first | refine blk_drewN ?_ _ | refine blk_drew ?_ | refine blk_alloc ?_ _)); refine blk_far ?_ NB362_363.out _; (with_reducible repeat (first | refine blk_drewN ?_ _ | refine blk_drew ?_ | refine blk_alloc ?_ _)); refine blk_put (cs := #[.int .i64 t350, .int .i64 t351, .string t352, .slice Ao14 t353.length co14, .slice none 0 0]) ?_ 4 _ rfl; (with_reducible repeat (first | refine blk_drewN ?_ _ | refine blk_drew ?_ | refine blk_alloc ?_ _)); refine blk_put (cs := #[.int .i64 t350, .int .i64 t351, .string t352, .slice none 0 0, .slice none 0 0]) ?_ 3 _ rfl; (with_reducible repeat (first | refine blk_drewN ?_ _ | refine blk_drew ?_ | refine blk_alloc ?_ _)); refine blk_put (cs := #[.int .i64 t350, .int .i64 t351, .string (⟨#[]⟩ : ByteArray), .slice none 0 0, .slice none 0 0]) ?_ 2 _ rfl; (with_reducible repeat (first | refine blk_drewN ?_ _ | refine blk_drew ?_ | refine blk_alloc ?_ _)); refine blk_put (cs := #[.int .i64 t350, .int .i64 0, .string (⟨#[]⟩ : ByteArray), .slice none 0 0, .slice none 0 0]) ?_ 1 _ rfl; (with_reducible repeat (first | refine blk_drewN ?_ _ | refine blk_drew ?_ | refine blk_alloc ?_ _)); refine blk_put (cs := #[.int .i64 0, .int .i64 0, .string (⟨#[]⟩ : ByteArray), .slice none 0 0, .slice none 0 0]) ?_ 0 _ rfl; (with_reducible repeat (first | refine blk_drewN ?_ _ | refine blk_drew ?_ | refine blk_alloc ?_ _)); refine blk_far ?_ NB362_361.out _; (with_reducible repeat (first | refine blk_drewN ?_ _ | refine blk_drew ?_ | refine blk_alloc ?_ _)); refine blk_far ?_ NB362_361.out _; (with_reducible repeat (first | refine blk_drewN ?_ _ | refine blk_drew ?_ | refine blk_alloc ?_ _)); refine blk_far ?_ NB362_361.out _; (with_reducible repeat (first | refine blk_drewN ?_ _ | refine blk_drew ?_ | refine blk_alloc ?_ _)); refine blk_far ?_ NB362_361.out _; (with_reducible repeat (first | refine blk_drewN ?_ _ | refine blk_drew ?_ | refine blk_alloc ?_ _)); refine blk_far ?_ NB362_361.out _; (with_reducible repeat (first | refine blk_drewN ?_ _ | refine blk_drew ?_ | refine blk_alloc ?_ _)); exact BK362.out⟩
         have n5_ : Aside0 (((((((((((((((((((((((((w39.setCell ⟨gb361, 0, none⟩ (.int .i64 t350)).setCell ⟨gb361, 1, none⟩ (.int .i64 t351)).setCell ⟨gb361, 2, none⟩ (.string t352)).setCell ⟨gb361, 3, none⟩ (.slice Ao14 t353.length co14)).setCell ⟨gb361, 4, none⟩ (.slice Ao15 t356.length co15)).setCell ⟨gb362, 0, none⟩ (.int .i64 t350)).setCell ⟨gb362, 1, none⟩ (.int .i64 t351)).setCell ⟨gb362, 2, none⟩ (.string t352)).setCell ⟨gb362, 3, none⟩ (.slice Ao14 t353.length co14)).setCell ⟨gb362, 4, none⟩ (.slice Ao15 t356.length co15)).setCell ⟨gb363, 0, none⟩ (.int .i64 t350)).setCell ⟨gb363, 1, none⟩ (.int .i64 t351)).setCell ⟨gb363, 2, none⟩ (.string t352)).setCell ⟨gb363, 3, none⟩ (.slice Ao14 t353.length co14)).setCell ⟨gb363, 4, none⟩ (.slice Ao15 t356.length co15)).setCell ⟨gb364, 0, none⟩ (.int .i64 t350)).setCell ⟨gb364, 1, none⟩ (.int .i64 t351)).setCell ⟨gb364, 2, none⟩ (.string t352)).setCell ⟨gb364, 3, none⟩ (.slice Ao14 t353.length co14)).setCell ⟨gb364, 4, none⟩ (.slice Ao15 t356.length co15)).setCell ⟨gb361, 0, none⟩ (.int .i64 a1)).setCell ⟨gb362, 1, none⟩ (.int .i64 a2)).setCell ⟨gb363, 2, none⟩ (.string a3)).setCell ⟨gb364, 4, none⟩ (.slice A4 l4.length c4)).heap[gb363]? = some (.cells #[.int .i64 t350, .int .i64 t351, .string a3, .slice Ao14 t353.length co14, .slice Ao15 t356.length co15] 33 (0, 0))) := ⟨by (with_reducible repeat (first | refine blk_drewN ?_ _ | refine blk_drew ?_ | refine blk_alloc ?_ _)); refine blk_far ?_ NB363_364.out _; (with_reducible repeat (first | refine blk_drewN ?_ _ | refine blk_drew ?_ | refine blk_alloc ?_ _)); refine blk_put (cs := #[.int .i64 t350, .int .i64 t351, .string t352, .slice Ao14 t353.length co14, .slice Ao15 t356.length co15]) ?_ 2 _ rfl; (with_reducible repeat (first | refine blk_drewN ?_ _ | refine blk_drew ?_ | refine blk_alloc ?_ _)); refine blk_far ?_ NB363_362.out _; (with_reducible repeat (first | refine blk_drewN ?_ _ | refine blk_drew ?_ | refine blk_alloc ?_ _)); refine blk_far ?_ NB363_361.out _; (with_reducible repeat (first | refine blk_drewN ?_ _ | refine blk_drew ?_ | refine blk_alloc ?_ _)); refine blk_far ?_ NB363_364.out _; (with_reducible repeat (first | refine blk_drewN ?_ _ | refine blk_drew ?_ | refine blk_alloc ?_ _)); refine blk_far ?_ NB363_364.out _; (with_reducible repeat (first | refine blk_drewN ?_ _ | refine blk_drew ?_ | refine blk_alloc ?_ _)); refine blk_far ?_ NB363_364.out _; (with_reducible repeat (first | refine blk_drewN ?_ _ | refine blk_drew ?_ | refine blk_alloc ?_ _)); refine blk_far ?_ NB363_364.out _; (with_reducible repeat (first | refine blk_drewN ?_ _ | refine blk_drew ?_ | refine blk_alloc ?_ _)); refine blk_far ?_ NB363_364.out _; (with_reducible repeat (first | refine blk_drewN ?_ _ | refine blk_drew ?_ | refine blk_alloc ?_ _)); refine blk_put (cs := #[.int .i64 t350, .int .i64 t351, .string t352, .slice Ao14 t353.length co14, .slice none 0 0]) ?_ 4 _ rfl; (with_reducible repeat (first | refine blk_drewN ?_ _ | refine blk_drew ?_ | refine blk_alloc ?_ _)); refine blk_put (cs := #[.int .i64 t350, .int .i64 t351, .string t352, .slice none 0 0, .slice none 0 0]) ?_ 3 _ rfl; (with_reducible repeat (first | refine blk_drewN ?_ _ | refine blk_drew ?_ | refine blk_alloc ?_ _)); refine blk_put (cs := #[.int .i64 t350, .int .i64 t351, .string (⟨#[]⟩ : ByteArray), .slice none 0 0, .slice none 0 0]) ?_ 2 _ rfl; (with_reducible repeat (first | refine blk_drewN ?_ _ | refine blk_drew ?_ | refine blk_alloc ?_ _)); refine blk_put (cs := #[.int .i64 t350, .int .i64 0, .string (⟨#[]⟩ : ByteArray), .slice none 0 0, .slice none 0 0]) ?_ 1 _ rfl; (with_reducible repeat (first | refine blk_drewN ?_ _ | refine blk_drew ?_ | refine blk_alloc ?_ _)); refine blk_put (cs := #[.int .i64 0, .int .i64 0, .string (⟨#[]⟩ : ByteArray), .slice none 0 0, .slice none 0 0]) ?_ 0 _ rfl; (with_reducible repeat (first | refine blk_drewN ?_ _ | refine blk_drew ?_ | refine blk_alloc ?_ _)); refine blk_far ?_ NB363_362.out _; (with_reducible repeat (first | refine blk_drewN ?_ _ | refine blk_drew ?_ | refine blk_alloc ?_ _)); refine blk_far ?_ NB363_362.out _; (with_reducible repeat (first | refine blk_drewN ?_ _ | refine blk_drew ?_ | refine blk_alloc ?_ _)); refine blk_far ?_ NB363_362.out _; (with_reducible repeat (first | refine blk_drewN ?_ _ | refine blk_drew ?_ | refine blk_alloc ?_ _)); refine blk_far ?_ NB363_362.out _; (with_reducible repeat (first | refine blk_drewN ?_ _ | refine blk_drew ?_ | refine blk_alloc ?_ _)); refine blk_far ?_ NB363_362.out _; (with_reducible repeat (first | refine blk_drewN ?_ _ | refine blk_drew ?_ | refine blk_alloc ?_ _)); refine blk_far ?_ NB363_361.out _; (with_reducible repeat (first | refine blk_drewN ?_ _ | refine blk_drew ?_ | refine blk_alloc ?_ _)); refine blk_far ?_ NB363_361.out _; (with_reducible repeat (first | refine blk_drewN ?_ _ | refine blk_drew ?_ | refine blk_alloc ?_ _)); refine blk_far ?_ NB363_361.out _; (with_reducible repeat (first | refine blk_drewN ?_ _ | refine blk_drew ?_ | refine blk_alloc ?_ _)); refine blk_far ?_ NB363_361.out _; (with_reducible repeat (first | refine blk_drewN ?_ _ | refine blk_drew ?_ | refine blk_alloc ?_ _)); refine blk_far ?_ NB363_361.out _; (with_reducible repeat (first | refine blk_drewN ?_ _ | refine blk_drew ?_ | refine blk_alloc ?_ _)); exact BK363.out⟩
         have n6_ : Aside0 (((((((((((((((((((((((((w39.setCell ⟨gb361, 0, none⟩ (.int .i64 t350)).setCell ⟨gb361, 1, none⟩ (.int .i64 t351)).setCell ⟨gb361, 2, none⟩ (.string t352)).setCell ⟨gb361, 3, none⟩ (.slice Ao14 t353.length co14)).setCell ⟨gb361, 4, none⟩ (.slice Ao15 t356.length co15)).setCell ⟨gb362, 0, none⟩ (.int .i64 t350)).setCell ⟨gb362, 1, none⟩ (.int .i64 t351)).setCell ⟨gb362, 2, none⟩ (.string t352)).setCell ⟨gb362, 3, none⟩ (.slice Ao14 t353.length co14)).setCell ⟨gb362, 4, none⟩ (.slice Ao15 t356.length co15)).setCell ⟨gb363, 0, none⟩ (.int .i64 t350)).setCell ⟨gb363, 1, none⟩ (.int .i64 t351)).setCell ⟨gb363, 2, none⟩ (.string t352)).setCell ⟨gb363, 3, none⟩ (.slice Ao14 t353.length co14)).setCell ⟨gb363, 4, none⟩ (.slice Ao15 t356.length co15)).setCell ⟨gb364, 0, none⟩ (.int .i64 t350)).setCell ⟨gb364, 1, none⟩ (.int .i64 t351)).setCell ⟨gb364, 2, none⟩ (.string t352)).setCell ⟨gb364, 3, none⟩ (.slice Ao14 t353.length co14)).setCell ⟨gb364, 4, none⟩ (.slice Ao15 t356.length co15)).setCell ⟨gb361, 0, none⟩ (.int .i64 a1)).setCell ⟨gb362, 1, none⟩ (.int .i64 a2)).setCell ⟨gb363, 2, none⟩ (.string a3)).setCell ⟨gb364, 4, none⟩ (.slice A4 l4.length c4)).heap[gb364]? = some (.cells #[.int .i64 t350, .int .i64 t351, .string t352, .slice Ao14 t353.length co14, .slice A4 l4.length c4] 33 (0, 0))) := ⟨by (with_reducible repeat (first | refine blk_drewN ?_ _ | refine blk_drew ?_ | refine blk_alloc ?_ _)); refine blk_put (cs := #[.int .i64 t350, .int .i64 t351, .string t352, .slice Ao14 t353.length co14, .slice Ao15 t356.length co15]) ?_ 4 _ rfl; (with_reducible repeat (first | refine blk_drewN ?_ _ | refine blk_drew ?_ | refine blk_alloc ?_ _)); refine blk_far ?_ NB364_363.out _; (with_reducible repeat (first | refine blk_drewN ?_ _ | refine blk_drew ?_ | refine blk_alloc ?_ _)); refine blk_far ?_ NB364_362.out _; (with_reducible repeat (first | refine blk_drewN ?_ _ | refine blk_drew ?_ | refine blk_alloc ?_ _)); refine blk_far ?_ NB364_361.out _; (with_reducible repeat (first | refine blk_drewN ?_ _ | refine blk_drew ?_ | refine blk_alloc ?_ _)); refine blk_put (cs := #[.int .i64 t350, .int .i64 t351, .string t352, .slice Ao14 t353.length co14, .slice none 0 0]) ?_ 4 _ rfl; (with_reducible repeat (first | refine blk_drewN ?_ _ | refine blk_drew ?_ | refine blk_alloc ?_ _)); refine blk_put (cs := #[.int .i64 t350, .int .i64 t351, .string t352, .slice none 0 0, .slice none 0 0]) ?_ 3 _ rfl; (with_reducible repeat (first | refine blk_drewN ?_ _ | refine blk_drew ?_ | refine blk_alloc ?_ _)); refine blk_put (cs := #[.int .i64 t350, .int .i64 t351, .string (⟨#[]⟩ : ByteArray), .slice none 0 0, .slice none 0 0]) ?_ 2 _ rfl; (with_reducible repeat (first | refine blk_drewN ?_ _ | refine blk_drew ?_ | refine blk_alloc ?_ _)); refine blk_put (cs := #[.int .i64 t350, .int .i64 0, .string (⟨#[]⟩ : ByteArray), .slice none 0 0, .slice none 0 0]) ?_ 1 _ rfl; (with_reducible repeat (first | refine blk_drewN ?_ _ | refine blk_drew ?_ | refine blk_alloc ?_ _)); refine blk_put (cs := #[.int .i64 0, .int .i64 0, .string (⟨#[]⟩ : ByteArray), .slice none 0 0, .slice none 0 0]) ?_ 0 _ rfl; (with_reducible repeat (first | refine blk_drewN ?_ _ | refine blk_drew ?_ | refine blk_alloc ?_ _)); refine blk_far ?_ NB364_363.out _; (with_reducible repeat (first | refine blk_drewN ?_ _ | refine blk_drew ?_ | refine blk_alloc ?_ _)); refine blk_far ?_ NB364_363.out _; (with_reducible repeat (first | refine blk_drewN ?_ _ | refine blk_drew ?_ | refine blk_alloc ?_ _)); refine blk_far ?_ NB364_363.out _; (with_reducible repeat (first | refine blk_drewN ?_ _ | refine blk_drew ?_ | refine blk_alloc ?_ _)); refine blk_far ?_ NB364_363.out _; (with_reducible repeat (first | refine blk_drewN ?_ _ | refine blk_drew ?_ | refine blk_alloc ?_ _)); refine blk_far ?_ NB364_363.out _; (with_reducible repeat (first | refine blk_drewN ?_ _ | refine blk_drew ?_ | refine blk_alloc ?_ _)); refine blk_far ?_ NB364_362.out _; (with_reducible repeat (first | refine blk_drewN ?_ _ | refine blk_drew ?_ | refine blk_alloc ?_ _)); refine blk_far ?_ NB364_362.out _; (with_reducible repeat (first | refine blk_drewN ?_ _ | refine blk_drew ?_ | refine blk_alloc ?_ _)); refine blk_far ?_ NB364_362.out _; (with_reducible repeat (first | refine blk_drewN ?_ _ | refine blk_drew ?_ | refine blk_alloc ?_ _)); refine blk_far ?_ NB364_362.out _; (with_reducible repeat (first | refine blk_drewN ?_ _ | refine blk_drew ?_ | refine blk_alloc ?_ _)); refine blk_far ?_ NB364_362.out _; (with_reducible repeat (first | refine blk_drewN ?_ _ | refine blk_drew ?_ | refine blk_alloc ?_ _)); refine blk_far ?_ NB364_361.out _; (with_reducible repeat (first | refine blk_drewN ?_ _ | refine blk_drew ?_ | refine blk_alloc ?_ _)); refine blk_far ?_ NB364_361.out _; (with_reducible repeat (first | refine blk_drewN ?_ _ | refine blk_drew ?_ | refine blk_alloc ?_ _)); refine blk_far ?_ NB364_361.out _; (with_reducible repeat (first | refine blk_drewN ?_ _ | refine blk_drew ?_ | refine blk_alloc ?_ _)); refine blk_far ?_ NB364_361.out _; (with_reducible repeat (first | refine blk_drewN ?_ _ | refine blk_drew ?_ | refine blk_alloc ?_ _)); refine blk_far ?_ NB364_361.out _; (with_reducible repeat (first | refine blk_drewN ?_ _ | refine blk_drew ?_ | refine blk_alloc ?_ _)); exact BK364.out⟩
         have n7_ : Aside0 (Below w.heap.size w ((((((((((((((((((((((((w39.setCell ⟨gb361, 0, none⟩ (.int .i64 t350)).setCell ⟨gb361, 1, none⟩ (.int .i64 t351)).setCell ⟨gb361, 2, none⟩ (.string t352)).setCell ⟨gb361, 3, none⟩ (.slice Ao14 t353.length co14)).setCell ⟨gb361, 4, none⟩ (.slice Ao15 t356.length co15)).setCell ⟨gb362, 0, none⟩ (.int .i64 t350)).setCell ⟨gb362, 1, none⟩ (.int .i64 t351)).setCell ⟨gb362, 2, none⟩ (.string t352)).setCell ⟨gb362, 3, none⟩ (.slice Ao14 t353.length co14)).setCell ⟨gb362, 4, none⟩ (.slice Ao15 t356.length co15)).setCell ⟨gb363, 0, none⟩ (.int .i64 t350)).setCell ⟨gb363, 1, none⟩ (.int .i64 t351)).setCell ⟨gb363, 2, none⟩ (.string t352)).setCell ⟨gb363, 3, none⟩ (.slice Ao14 t353.length co14)).setCell ⟨gb363, 4, none⟩ (.slice Ao15 t356.length co15)).setCell ⟨gb364, 0, none⟩ (.int .i64 t350)).setCell ⟨gb364, 1, none⟩ (.int .i64 t351)).setCell ⟨gb364, 2, none⟩ (.string t352)).setCell ⟨gb364, 3, none⟩ (.slice Ao14 t353.length co14)).setCell ⟨gb364, 4, none⟩ (.slice Ao15 t356.length co15)).setCell ⟨gb361, 0, none⟩ (.int .i64 a1)).setCell ⟨gb362, 1, none⟩ (.int .i64 a2)).setCell ⟨gb363, 2, none⟩ (.string a3)).setCell ⟨gb364, 4, none⟩ (.slice A4 l4.length c4))) := ⟨zm HB⟩
         (try clear HO_361003)
         (try clear HO_361004)
         (try clear BK360)
         (try clear BK361)
         (try clear BK362)
         (try clear BK363)
         (try clear BK364)
         (try clear HB)
         generalize ((((((((((((((((((((((((w39.setCell ⟨gb361, 0, none⟩ (.int .i64 t350)).setCell ⟨gb361, 1, none⟩ (.int .i64 t351)).setCell ⟨gb361, 2, none⟩ (.string t352)).setCell ⟨gb361, 3, none⟩ (.slice Ao14 t353.length co14)).setCell ⟨gb361, 4, none⟩ (.slice Ao15 t356.length co15)).setCell ⟨gb362, 0, none⟩ (.int .i64 t350)).setCell ⟨gb362, 1, none⟩ (.int .i64 t351)).setCell ⟨gb362, 2, none⟩ (.string t352)).setCell ⟨gb362, 3, none⟩ (.slice Ao14 t353.length co14)).setCell ⟨gb362, 4, none⟩ (.slice Ao15 t356.length co15)).setCell ⟨gb363, 0, none⟩ (.int .i64 t350)).setCell ⟨gb363, 1, none⟩ (.int .i64 t351)).setCell ⟨gb363, 2, none⟩ (.string t352)).setCell ⟨gb363, 3, none⟩ (.slice Ao14 t353.length co14)).setCell ⟨gb363, 4, none⟩ (.slice Ao15 t356.length co15)).setCell ⟨gb364, 0, none⟩ (.int .i64 t350)).setCell ⟨gb364, 1, none⟩ (.int .i64 t351)).setCell ⟨gb364, 2, none⟩ (.string t352)).setCell ⟨gb364, 3, none⟩ (.slice Ao14 t353.length co14)).setCell ⟨gb364, 4, none⟩ (.slice Ao15 t356.length co15)).setCell ⟨gb361, 0, none⟩ (.int .i64 a1)).setCell ⟨gb362, 1, none⟩ (.int .i64 a2)).setCell ⟨gb363, 2, none⟩ (.string a3)).setCell ⟨gb364, 4, none⟩ (.slice A4 l4.length c4)) = w74 at n0_ n1_ n2_ n3_ n4_ n5_ n6_ n7_ ⊢
         have HO_361003 := n0_; have HO_361004 := n1_; have BK360 := n2_; have BK361 := n3_; have BK362 := n4_; have BK363 := n5_; have BK364 := n6_; have HB := n7_; clear n0_ n1_ n2_ n3_ n4_ n5_ n6_ n7_
         replace HO_361003 := za (Kd.R_drew HO_361003.out)
         replace HO_361004 := za (Kd.R_drew HO_361004.out)
         replace BK360 := za (blk_drew BK360.out)
         replace BK361 := za (blk_drew BK361.out)
         replace BK362 := za (blk_drew BK362.out)
         replace BK363 := za (blk_drew BK363.out)
         replace BK364 := za (blk_drew BK364.out)
         replace HB := za (below_drew1 HB.out)
         refine start_ (n := 37) (S := fun w' => w'.cell? ⟨gb361, 0, none⟩ = some (.int .i64 a1) ∧ w'.cell? ⟨gb361, 1, none⟩ = some (.int .i64 t351) ∧ w'.cell? ⟨gb361, 2, none⟩ = some (.string t352) ∧ w'.cell? ⟨gb361, 3, none⟩ = some (.slice Ao14 t353.length co14) ∧ w'.cell? ⟨gb361, 4, none⟩ = some (.slice Ao15 t356.length co15) ∧ w'.cell? ⟨gb362, 0, none⟩ = some (.int .i64 t350) ∧ w'.cell? ⟨gb362, 1, none⟩ = some (.int .i64 a2) ∧ w'.cell? ⟨gb362, 2, none⟩ = some (.string t352) ∧ w'.cell? ⟨gb362, 3, none⟩ = some (.slice Ao14 t353.length co14) ∧ w'.cell? ⟨gb362, 4, none⟩ = some (.slice Ao15 t356.length co15) ∧ w'.cell? ⟨gb363, 0, none⟩ = some (.int .i64 t350) ∧ w'.cell? ⟨gb363, 1, none⟩ = some (.int .i64 t351) ∧ w'.cell? ⟨gb363, 2, none⟩ = some (.string a3) ∧ w'.cell? ⟨gb363, 3, none⟩ = some (.slice Ao14 t353.length co14) ∧ w'.cell? ⟨gb363, 4, none⟩ = some (.slice Ao15 t356.length co15) ∧ w'.cell? ⟨gb364, 0, none⟩ = some (.int .i64 t350) ∧ w'.cell? ⟨gb364, 1, none⟩ = some (.int .i64 t351) ∧ w'.cell? ⟨gb364, 2, none⟩ = some (.string t352) ∧ w'.cell? ⟨gb364, 3, none⟩ = some (.slice Ao14 t353.length co14) ∧ w'.cell? ⟨gb364, 4, none⟩ = some (.slice A4 l4.length c4)) (ds := []) #[false, false, false, false, false, false, false, false, false, false, false, false, false, false, false, false, false, false, false, false, false, false, false, false, false, false, false, false, false, false, false, false, false, false, false, false, false] (by kernel_rfl) rfl rfl ⟨(blk_cell BK361.out 0).trans rfl, (blk_cell BK361.out 1).trans rfl, (blk_cell BK361.out 2).trans rfl, (blk_cell BK361.out 3).trans rfl, (blk_cell BK361.out 4).trans rfl, (blk_cell BK362.out 0).trans rfl, (blk_cell BK362.out 1).trans rfl, (blk_cell BK362.out 2).trans rfl, (blk_cell BK362.out 3).trans rfl, (blk_cell BK362.out 4).trans rfl, (blk_cell BK363.out 0).trans rfl, (blk_cell BK363.out 1).trans rfl, (blk_cell BK363.out 2).trans rfl, (blk_cell BK363.out 3).trans rfl, (blk_cell BK363.out 4).trans rfl, (blk_cell BK364.out 0).trans rfl, (blk_cell BK364.out 1).trans rfl, (blk_cell BK364.out 2).trans rfl, (blk_cell BK364.out 3).trans rfl, (blk_cell BK364.out 4).trans rfl⟩ (fun hHeld => ?_); refine with_tabW awardingbodylaw06_ItemLoose.tab7 awardingbodylaw06_ItemLoose.bits7 (fun HT_ HW_ => ?_)
         generalize w74.drew = w75 at HO_361003 HO_361004 BK360 BK361 BK362 BK363 BK364 HB hHeld ⊢
         refine take_ (i := 0) (N := some 41) (v := ?_) (a' := ?_) #[true, false, false, false, false, false, false, false, false, false, false, false, false, false, false, false, false, false, false, false, false, false, false, false, false, false, false, false, false, false, false, false, false, false, false, false, false] rfl rfl (take_ofW HT_.out HW_.out (by kernel_rfl)) (fun _ _ _ h => h) (Or.inl ⟨by rfl, ?_⟩) hHeld ?_ ?_
         rotate_left
         ·rintro w' ⟨s0, s1, s2, s3, s4, s5, s6, s7, s8, s9, s10, s11, s12, s13, s14, s15, s16, s17, s18, s19⟩
          go_simp
          with_reducible rfl
         rotate_left
         ·simp only [Act.put, List.setIfInBounds_toArray, List.set_cons_zero, List.set_cons_succ, i64_w, i32_w]
          rfl
         refine take_ (i := 2) (N := some 43) (v := ?_) (a' := ?_) #[true, false, true, false, false, false, false, false, false, false, false, false, false, false, false, false, false, false, false, false, false, false, false, false, false, false, false, false, false, false, false, false, false, false, false, false, false] rfl rfl (take_ofW HT_.out HW_.out (by kernel_rfl)) (fun _ _ _ h => h) (Or.inl ⟨by rfl, ?_⟩) hHeld ?_ ?_
         rotate_left
         ·rintro w' ⟨s0, s1, s2, s3, s4, s5, s6, s7, s8, s9, s10, s11, s12, s13, s14, s15, s16, s17, s18, s19⟩
          go_simp
          with_reducible rfl
         rotate_left
         ·simp only [Act.put, List.setIfInBounds_toArray, List.set_cons_zero, List.set_cons_succ, i64_w, i32_w]
          rfl
         refine one_ (i := 1) (N := some 42) #[true, true, true, false, false, false, false, false, false, false, false, false, false, false, false, false, false, false, false, false, false, false, false, false, false, false, false, false, false, false, false, false, false, false, false, false, false] rfl rfl (one_of HT_.out (by kernel_rfl)) (by decide) (fun K hK => ?_)
         refine goes_ Try.func19 (by kernel_rfl) rfl #[.agg #[.int .i64 a1, .int .i64 t351, .string t352, .slice Ao14 t353.length co14, .slice Ao15 t356.length co15]] (by rfl) rfl rfl q16f ?_
         with_reducible refine (item_Check.calls kj7 a1 t351 t352 _ _ t353 _ _ t356 t365 _ ?side1 ?side2 ?side3 ?side4 A18.out).mono ?_
         (case side1 => exact zD HO_361003)
         (case side2 => exact (Kd.R_reads' HO_361003.out).2.1)
         (case side3 => exact zD HO_361004)
         (case side4 => exact (Kd.R_reads' HO_361004.out).2.1)
         rintro e w76 ⟨rfl, hb⟩
         refine ⟨_, rfl, ?_⟩
         replace HO_361003 := zR HO_361003 hb
         replace HO_361004 := zR HO_361004 hb
         replace BK360 := zb BK360 hb
         replace BK361 := zb BK361 hb
         replace BK362 := zb BK362 hb
         replace BK363 := zb BK363 hb
         replace BK364 := zb BK364 hb
         replace HB := zs HB hb
         (try clear hb)
         (try clear hb2)
         (try clear hk)
         (try clear hi)
         refine hK.out _ _ ⟨(blk_cell BK361.out 0).trans rfl, (blk_cell BK361.out 1).trans rfl, (blk_cell BK361.out 2).trans rfl, (blk_cell BK361.out 3).trans rfl, (blk_cell BK361.out 4).trans rfl, (blk_cell BK362.out 0).trans rfl, (blk_cell BK362.out 1).trans rfl, (blk_cell BK362.out 2).trans rfl, (blk_cell BK362.out 3).trans rfl, (blk_cell BK362.out 4).trans rfl, (blk_cell BK363.out 0).trans rfl, (blk_cell BK363.out 1).trans rfl, (blk_cell BK363.out 2).trans rfl, (blk_cell BK363.out 3).trans rfl, (blk_cell BK363.out 4).trans rfl, (blk_cell BK364.out 0).trans rfl, (blk_cell BK364.out 1).trans rfl, (blk_cell BK364.out 2).trans rfl, (blk_cell BK364.out 3).trans rfl, (blk_cell BK364.out 4).trans rfl⟩ (fun hHeld => ?_)
         clear hK K
         refine norm_ (a' := ?_) ?_ ?_
         rotate_left
         ·show Act.put _ (some 42) _ = _
          simp only [Act.put, List.setIfInBounds_toArray, List.set_cons_zero, List.set_cons_succ, i64_w, i32_w]
          rfl
         refine one_ (i := 3) (N := some 44) #[true, true, true, true, false, false, false, false, false, false, false, false, false, false, false, false, false, false, false, false, false, false, false, false, false, false, false, false, false, false, false, false, false, false, false, false, false] rfl rfl (one_of HT_.out (by kernel_rfl)) (by decide) (fun K hK => ?_)
         refine goes_ Try.func20 (by kernel_rfl) rfl #[.agg #[.int .i64 a1, .int .i64 t351, .string t352, .slice Ao14 t353.length co14, .slice Ao15 t356.length co15]] (by rfl) rfl rfl q16f ?_
         with_reducible refine (awardingbodyref06_Check.calls kj7 a1 t351 t352 _ _ t353 _ _ t356 t366 _ ?side1 ?side2 ?side3 ?side4 A19.out).mono ?_
         (case side1 => exact zD HO_361003)
         (case side2 => exact (Kd.R_reads' HO_361003.out).2.1)
         (case side3 => exact zD HO_361004)
         (case side4 => exact (Kd.R_reads' HO_361004.out).2.1)
         rintro e w77 ⟨rfl, hb⟩
         refine ⟨_, rfl, ?_⟩
         replace HO_361003 := zR HO_361003 hb
         replace HO_361004 := zR HO_361004 hb
         replace BK360 := zb BK360 hb
         replace BK361 := zb BK361 hb
         replace BK362 := zb BK362 hb
         replace BK363 := zb BK363 hb
         replace BK364 := zb BK364 hb
         replace HB := zs HB hb
         (try clear hb)
         (try clear hb2)
         (try clear hk)
         (try clear hi)
         refine hK.out _ _ ⟨(blk_cell BK361.out 0).trans rfl, (blk_cell BK361.out 1).trans rfl, (blk_cell BK361.out 2).trans rfl, (blk_cell BK361.out 3).trans rfl, (blk_cell BK361.out 4).trans rfl, (blk_cell BK362.out 0).trans rfl, (blk_cell BK362.out 1).trans rfl, (blk_cell BK362.out 2).trans rfl, (blk_cell BK362.out 3).trans rfl, (blk_cell BK362.out 4).trans rfl, (blk_cell BK363.out 0).trans rfl, (blk_cell BK363.out 1).trans rfl, (blk_cell BK363.out 2).trans rfl, (blk_cell BK363.out 3).trans rfl, (blk_cell BK363.out 4).trans rfl, (blk_cell BK364.out 0).trans rfl, (blk_cell BK364.out 1).trans rfl, (blk_cell BK364.out 2).trans rfl, (blk_cell BK364.out 3).trans rfl, (blk_cell BK364.out 4).trans rfl⟩ (fun hHeld => ?_)
         clear hK K
         refine norm_ (a' := ?_) ?_ ?_
         rotate_left
         ·show Act.put _ (some 44) _ = _
          simp only [Act.put, List.setIfInBounds_toArray, List.set_cons_zero, List.set_cons_succ, i64_w, i32_w]
          rfl
         refine pure_ (i := 4) (N := some 45) (v := ?_) (a' := ?_) #[true, true, true, true, true, false, false, false, false, false, false, false, false, false, false, false, false, false, false, false, false, false, false, false, false, false, false, false, false, false, false, false, false, false, false, false, false] rfl rfl (any_of HT_.out (by kernel_rfl)) (fun _ _ _ h => h) (Or.inl ⟨by rfl, ?_⟩) ?_ ?_
         rotate_left
         ·intro w'
          go_simp
          with_reducible rfl
         rotate_left
         ·simp only [Act.put, List.setIfInBounds_toArray, List.set_cons_zero, List.set_cons_succ, i64_w, i32_w]
          rfl
         refine pure_ (i := 5) (N := some 46) (v := ?_) (a' := ?_) #[true, true, true, true, true, true, false, false, false, false, false, false, false, false, false, false, false, false, false, false, false, false, false, false, false, false, false, false, false, false, false, false, false, false, false, false, false] rfl rfl (any_of HT_.out (by kernel_rfl)) (fun _ _ _ h => h) (Or.inl ⟨by rfl, ?_⟩) ?_ ?_
         rotate_left
         ·intro w'
          go_simp
          with_reducible rfl
         rotate_left
         ·simp only [Act.put, List.setIfInBounds_toArray, List.set_cons_zero, List.set_cons_succ, i64_w, i32_w]
          rfl
         refine take_ (i := 6) (N := some 47) (v := ?_) (a' := ?_) #[true, true, true, true, true, true, true, false, false, false, false, false, false, false, false, false, false, false, false, false, false, false, false, false, false, false, false, false, false, false, false, false, false, false, false, false, false] rfl rfl (take_ofW HT_.out HW_.out (by kernel_rfl)) (fun _ _ _ h => h) (Or.inl ⟨by rfl, ?_⟩) hHeld ?_ ?_
         rotate_left
         ·rintro w' ⟨s0, s1, s2, s3, s4, s5, s6, s7, s8, s9, s10, s11, s12, s13, s14, s15, s16, s17, s18, s19⟩
          go_simp
          with_reducible rfl
         rotate_left
         ·simp only [Act.put, List.setIfInBounds_toArray, List.set_cons_zero, List.set_cons_succ, i64_w, i32_w]
          rfl
         refine take_ (i := 8) (N := some 49) (v := ?_) (a' := ?_) #[true, true, true, true, true, true, true, false, true, false, false, false, false, false, false, false, false, false, false, false, false, false, false, false, false, false, false, false, false, false, false, false, false, false, false, false, false] rfl rfl (take_ofW HT_.out HW_.out (by kernel_rfl)) (fun _ _ _ h => h) (Or.inl ⟨by rfl, ?_⟩) hHeld ?_ ?_
         rotate_left
         ·rintro w' ⟨s0, s1, s2, s3, s4, s5, s6, s7, s8, s9, s10, s11, s12, s13, s14, s15, s16, s17, s18, s19⟩
          go_simp
          with_reducible rfl
         rotate_left
         ·simp only [Act.put, List.setIfInBounds_toArray, List.set_cons_zero, List.set_cons_succ, i64_w, i32_w]
          rfl
         refine one_ (i := 7) (N := some 48) #[true, true, true, true, true, true, true, true, true, false, false, false, false, false, false, false, false, false, false, false, false, false, false, false, false, false, false, false, false, false, false, false, false, false, false, false, false] rfl rfl (one_of HT_.out (by kernel_rfl)) (by decide) (fun K hK => ?_)
         refine goes_ Try.func19 (by kernel_rfl) rfl #[.agg #[.int .i64 t350, .int .i64 a2, .string t352, .slice Ao14 t353.length co14, .slice Ao15 t356.length co15]] (by rfl) rfl rfl q16f ?_
         with_reducible refine (item_Check.calls kj7 t350 a2 t352 _ _ t353 _ _ t356 t367 _ ?side1 ?side2 ?side3 ?side4 A21.out).mono ?_
         (case side1 => exact zD HO_361003)
         (case side2 => exact (Kd.R_reads' HO_361003.out).2.1)
         (case side3 => exact zD HO_361004)
         (case side4 => exact (Kd.R_reads' HO_361004.out).2.1)
         rintro e w78 ⟨rfl, hb⟩
         refine ⟨_, rfl, ?_⟩
         replace HO_361003 := zR HO_361003 hb
         replace HO_361004 := zR HO_361004 hb
         replace BK360 := zb BK360 hb
         replace BK361 := zb BK361 hb
         replace BK362 := zb BK362 hb
         replace BK363 := zb BK363 hb
         replace BK364 := zb BK364 hb
         replace HB := zs HB hb
         (try clear hb)
         (try clear hb2)
         (try clear hk)
         (try clear hi)
         refine hK.out _ _ ⟨(blk_cell BK361.out 0).trans rfl, (blk_cell BK361.out 1).trans rfl, (blk_cell BK361.out 2).trans rfl, (blk_cell BK361.out 3).trans rfl, (blk_cell BK361.out 4).trans rfl, (blk_cell BK362.out 0).trans rfl, (blk_cell BK362.out 1).trans rfl, (blk_cell BK362.out 2).trans rfl, (blk_cell BK362.out 3).trans rfl, (blk_cell BK362.out 4).trans rfl, (blk_cell BK363.out 0).trans rfl, (blk_cell BK363.out 1).trans rfl, (blk_cell BK363.out 2).trans rfl, (blk_cell BK363.out 3).trans rfl, (blk_cell BK363.out 4).trans rfl, (blk_cell BK364.out 0).trans rfl, (blk_cell BK364.out 1).trans rfl, (blk_cell BK364.out 2).trans rfl, (blk_cell BK364.out 3).trans rfl, (blk_cell BK364.out 4).trans rfl⟩ (fun hHeld => ?_)
         clear hK K
         refine norm_ (a' := ?_) ?_ ?_
         rotate_left
         ·show Act.put _ (some 48) _ = _
          simp only [Act.put, List.setIfInBounds_toArray, List.set_cons_zero, List.set_cons_succ, i64_w, i32_w]
          rfl
         refine one_ (i := 9) (N := some 50) #[true, true, true, true, true, true, true, true, true, true, false, false, false, false, false, false, false, false, false, false, false, false, false, false, false, false, false, false, false, false, false, false, false, false, false, false, false] rfl rfl (one_of HT_.out (by kernel_rfl)) (by decide) (fun K hK => ?_)
         refine goes_ Try.func20 (by kernel_rfl) rfl #[.agg #[.int .i64 t350, .int .i64 a2, .string t352, .slice Ao14 t353.length co14, .slice Ao15 t356.length co15]] (by rfl) rfl rfl q16f ?_
         with_reducible refine (awardingbodyref06_Check.calls kj7 t350 a2 t352 _ _ t353 _ _ t356 t368 _ ?side1 ?side2 ?side3 ?side4 A22.out).mono ?_
         (case side1 => exact zD HO_361003)
         (case side2 => exact (Kd.R_reads' HO_361003.out).2.1)
         (case side3 => exact zD HO_361004)
         (case side4 => exact (Kd.R_reads' HO_361004.out).2.1)
         rintro e w79 ⟨rfl, hb⟩
         refine ⟨_, rfl, ?_⟩
         replace HO_361003 := zR HO_361003 hb
         replace HO_361004 := zR HO_361004 hb
         replace BK360 := zb BK360 hb
         replace BK361 := zb BK361 hb
         replace BK362 := zb BK362 hb
         replace BK363 := zb BK363 hb
         replace BK364 := zb BK364 hb
         replace HB := zs HB hb
         (try clear hb)
         (try clear hb2)
         (try clear hk)
         (try clear hi)
         refine hK.out _ _ ⟨(blk_cell BK361.out 0).trans rfl, (blk_cell BK361.out 1).trans rfl, (blk_cell BK361.out 2).trans rfl, (blk_cell BK361.out 3).trans rfl, (blk_cell BK361.out 4).trans rfl, (blk_cell BK362.out 0).trans rfl, (blk_cell BK362.out 1).trans rfl, (blk_cell BK362.out 2).trans rfl, (blk_cell BK362.out 3).trans rfl, (blk_cell BK362.out 4).trans rfl, (blk_cell BK363.out 0).trans rfl, (blk_cell BK363.out 1).trans rfl, (blk_cell BK363.out 2).trans rfl, (blk_cell BK363.out 3).trans rfl, (blk_cell BK363.out 4).trans rfl, (blk_cell BK364.out 0).trans rfl, (blk_cell BK364.out 1).trans rfl, (blk_cell BK364.out 2).trans rfl, (blk_cell BK364.out 3).trans rfl, (blk_cell BK364.out 4).trans rfl⟩ (fun hHeld => ?_)
         clear hK K
         refine norm_ (a' := ?_) ?_ ?_
         rotate_left
         ·show Act.put _ (some 50) _ = _
          simp only [Act.put, List.setIfInBounds_toArray, List.set_cons_zero, List.set_cons_succ, i64_w, i32_w]
          rfl
         refine pure_ (i := 10) (N := some 51) (v := ?_) (a' := ?_) #[true, true, true, true, true, true, true, true, true, true, true, false, false, false, false, false, false, false, false, false, false, false, false, false, false, false, false, false, false, false, false, false, false, false, false, false, false] rfl rfl (any_of HT_.out (by kernel_rfl)) (fun _ _ _ h => h) (Or.inl ⟨by rfl, ?_⟩) ?_ ?_
         rotate_left
         ·intro w'
          go_simp
          with_reducible rfl
         rotate_left
         ·simp only [Act.put, List.setIfInBounds_toArray, List.set_cons_zero, List.set_cons_succ, i64_w, i32_w]
          rfl
         refine pure_ (i := 11) (N := some 52) (v := ?_) (a' := ?_) #[true, true, true, true, true, true, true, true, true, true, true, true, false, false, false, false, false, false, false, false, false, false, false, false, false, false, false, false, false, false, false, false, false, false, false, false, false] rfl rfl (any_of HT_.out (by kernel_rfl)) (fun _ _ _ h => h) (Or.inl ⟨by rfl, ?_⟩) ?_ ?_
         rotate_left
         ·intro w'
          go_simp
          with_reducible rfl
         rotate_left
         ·simp only [Act.put, List.setIfInBounds_toArray, List.set_cons_zero, List.set_cons_succ, i64_w, i32_w]
          rfl
         refine pure_ (i := 12) (N := some 53) (v := ?_) (a' := ?_) #[true, true, true, true, true, true, true, true, true, true, true, true, true, false, false, false, false, false, false, false, false, false, false, false, false, false, false, false, false, false, false, false, false, false, false, false, false] rfl rfl (any_of HT_.out (by kernel_rfl)) (fun _ _ _ h => h) (Or.inl ⟨by rfl, ?_⟩) ?_ ?_
         rotate_left
         ·intro w'
          go_simp
          with_reducible rfl
         rotate_left
         ·simp only [Act.put, List.setIfInBounds_toArray, List.set_cons_zero, List.set_cons_succ, i64_w, i32_w]
          rfl
         refine take_ (i := 13) (N := some 54) (v := ?_) (a' := ?_) #[true, true, true, true, true, true, true, true, true, true, true, true, true, true, false, false, false, false, false, false, false, false, false, false, false, false, false, false, false, false, false, false, false, false, false, false, false] rfl rfl (take_ofW HT_.out HW_.out (by kernel_rfl)) (fun _ _ _ h => h) (Or.inl ⟨by rfl, ?_⟩) hHeld ?_ ?_
         rotate_left
         ·rintro w' ⟨s0, s1, s2, s3, s4, s5, s6, s7, s8, s9, s10, s11, s12, s13, s14, s15, s16, s17, s18, s19⟩
          go_simp
          with_reducible rfl
         rotate_left
         ·simp only [Act.put, List.setIfInBounds_toArray, List.set_cons_zero, List.set_cons_succ, i64_w, i32_w]
          rfl
         refine take_ (i := 15) (N := some 56) (v := ?_) (a' := ?_) #[true, true, true, true, true, true, true, true, true, true, true, true, true, true, false, true, false, false, false, false, false, false, false, false, false, false, false, false, false, false, false, false, false, false, false, false, false] rfl rfl (take_ofW HT_.out HW_.out (by kernel_rfl)) (fun _ _ _ h => h) (Or.inl ⟨by rfl, ?_⟩) hHeld ?_ ?_
         rotate_left
         ·rintro w' ⟨s0, s1, s2, s3, s4, s5, s6, s7, s8, s9, s10, s11, s12, s13, s14, s15, s16, s17, s18, s19⟩
          go_simp
          with_reducible rfl
         rotate_left
         ·simp only [Act.put, List.setIfInBounds_toArray, List.set_cons_zero, List.set_cons_succ, i64_w, i32_w]
          rfl
         refine one_ (i := 14) (N := some 55) #[true, true, true, true, true, true, true, true, true, true, true, true, true, true, true, true, false, false, false, false, false, false, false, false, false, false, false, false, false, false, false, false, false, false, false, false, false] rfl rfl (one_of HT_.out (by kernel_rfl)) (by decide) (fun K hK => ?_)
         refine goes_ Try.func19 (by kernel_rfl) rfl #[.agg #[.int .i64 t350, .int .i64 t351, .string a3, .slice Ao14 t353.length co14, .slice Ao15 t356.length co15]] (by rfl) rfl rfl q16f ?_
         with_reducible refine (item_Check.calls kj7 t350 t351 a3 _ _ t353 _ _ t356 t369 _ ?side1 ?side2 ?side3 ?side4 A24.out).mono ?_
         (case side1 => exact zD HO_361003)
         (case side2 => exact (Kd.R_reads' HO_361003.out).2.1)
         (case side3 => exact zD HO_361004)
         (case side4 => exact (Kd.R_reads' HO_361004.out).2.1)
         rintro e w80 ⟨rfl, hb⟩
         refine ⟨_, rfl, ?_⟩
         replace HO_361003 := zR HO_361003 hb
         replace HO_361004 := zR HO_361004 hb
         replace BK360 := zb BK360 hb
         replace BK361 := zb BK361 hb
         replace BK362 := zb BK362 hb
         replace BK363 := zb BK363 hb
         replace BK364 := zb BK364 hb
         replace HB := zs HB hb
         (try clear hb)
         (try clear hb2)
         (try clear hk)
         (try clear hi)
         refine hK.out _ _ ⟨(blk_cell BK361.out 0).trans rfl, (blk_cell BK361.out 1).trans rfl, (blk_cell BK361.out 2).trans rfl, (blk_cell BK361.out 3).trans rfl, (blk_cell BK361.out 4).trans rfl, (blk_cell BK362.out 0).trans rfl, (blk_cell BK362.out 1).trans rfl, (blk_cell BK362.out 2).trans rfl, (blk_cell BK362.out 3).trans rfl, (blk_cell BK362.out 4).trans rfl, (blk_cell BK363.out 0).trans rfl, (blk_cell BK363.out 1).trans rfl, (blk_cell BK363.out 2).trans rfl, (blk_cell BK363.out 3).trans rfl, (blk_cell BK363.out 4).trans rfl, (blk_cell BK364.out 0).trans rfl, (blk_cell BK364.out 1).trans rfl, (blk_cell BK364.out 2).trans rfl, (blk_cell BK364.out 3).trans rfl, (blk_cell BK364.out 4).trans rfl⟩ (fun hHeld => ?_)
         clear hK K
         refine norm_ (a' := ?_) ?_ ?_
         rotate_left
         ·show Act.put _ (some 55) _ = _
          simp only [Act.put, List.setIfInBounds_toArray, List.set_cons_zero, List.set_cons_succ, i64_w, i32_w]
          rfl
         refine one_ (i := 16) (N := some 57) #[true, true, true, true, true, true, true, true, true, true, true, true, true, true, true, true, true, false, false, false, false, false, false, false, false, false, false, false, false, false, false, false, false, false, false, false, false] rfl rfl (one_of HT_.out (by kernel_rfl)) (by decide) (fun K hK => ?_)
         refine goes_ Try.func20 (by kernel_rfl) rfl #[.agg #[.int .i64 t350, .int .i64 t351, .string a3, .slice Ao14 t353.length co14, .slice Ao15 t356.length co15]] (by rfl) rfl rfl q16f ?_
         with_reducible refine (awardingbodyref06_Check.calls kj7 t350 t351 a3 _ _ t353 _ _ t356 t370 _ ?side1 ?side2 ?side3 ?side4 A25.out).mono ?_
         (case side1 => exact zD HO_361003)
         (case side2 => exact (Kd.R_reads' HO_361003.out).2.1)
         (case side3 => exact zD HO_361004)
         (case side4 => exact (Kd.R_reads' HO_361004.out).2.1)
         rintro e w81 ⟨rfl, hb⟩
         refine ⟨_, rfl, ?_⟩
         replace HO_361003 := zR HO_361003 hb
         replace HO_361004 := zR HO_361004 hb
         replace BK360 := zb BK360 hb
         replace BK361 := zb BK361 hb
         replace BK362 := zb BK362 hb
         replace BK363 := zb BK363 hb
         replace BK364 := zb BK364 hb
         replace HB := zs HB hb
         (try clear hb)
         (try clear hb2)
         (try clear hk)
         (try clear hi)
         refine hK.out _ _ ⟨(blk_cell BK361.out 0).trans rfl, (blk_cell BK361.out 1).trans rfl, (blk_cell BK361.out 2).trans rfl, (blk_cell BK361.out 3).trans rfl, (blk_cell BK361.out 4).trans rfl, (blk_cell BK362.out 0).trans rfl, (blk_cell BK362.out 1).trans rfl, (blk_cell BK362.out 2).trans rfl, (blk_cell BK362.out 3).trans rfl, (blk_cell BK362.out 4).trans rfl, (blk_cell BK363.out 0).trans rfl, (blk_cell BK363.out 1).trans rfl, (blk_cell BK363.out 2).trans rfl, (blk_cell BK363.out 3).trans rfl, (blk_cell BK363.out 4).trans rfl, (blk_cell BK364.out 0).trans rfl, (blk_cell BK364.out 1).trans rfl, (blk_cell BK364.out 2).trans rfl, (blk_cell BK364.out 3).trans rfl, (blk_cell BK364.out 4).trans rfl⟩ (fun hHeld => ?_)
         clear hK K
         refine norm_ (a' := ?_) ?_ ?_
         rotate_left
         ·show Act.put _ (some 57) _ = _
          simp only [Act.put, List.setIfInBounds_toArray, List.set_cons_zero, List.set_cons_succ, i64_w, i32_w]
          rfl
         refine pure_ (i := 17) (N := some 58) (v := ?_) (a' := ?_) #[true, true, true, true, true, true, true, true, true, true, true, true, true, true, true, true, true, true, false, false, false, false, false, false, false, false, false, false, false, false, false, false, false, false, false, false, false] rfl rfl (any_of HT_.out (by kernel_rfl)) (fun _ _ _ h => h) (Or.inl ⟨by rfl, ?_⟩) ?_ ?_
         rotate_left
         ·intro w'
          go_simp
          with_reducible rfl
         rotate_left
         ·simp only [Act.put, List.setIfInBounds_toArray, List.set_cons_zero, List.set_cons_succ, i64_w, i32_w]
          rfl
         refine pure_ (i := 18) (N := some 59) (v := ?_) (a' := ?_) #[true, true, true, true, true, true, true, true, true, true, true, true, true, true, true, true, true, true, true, false, false, false, false, false, false, false, false, false, false, false, false, false, false, false, false, false, false] rfl rfl (any_of HT_.out (by kernel_rfl)) (fun _ _ _ h => h) (Or.inl ⟨by rfl, ?_⟩) ?_ ?_
         rotate_left
         ·intro w'
          go_simp
          with_reducible rfl
         rotate_left
         ·simp only [Act.put, List.setIfInBounds_toArray, List.set_cons_zero, List.set_cons_succ, i64_w, i32_w]
          rfl
         refine pure_ (i := 19) (N := some 60) (v := ?_) (a' := ?_) #[true, true, true, true, true, true, true, true, true, true, true, true, true, true, true, true, true, true, true, true, false, false, false, false, false, false, false, false, false, false, false, false, false, false, false, false, false] rfl rfl (any_of HT_.out (by kernel_rfl)) (fun _ _ _ h => h) (Or.inl ⟨by rfl, ?_⟩) ?_ ?_
         rotate_left
         ·intro w'
          go_simp
          with_reducible rfl
         rotate_left
         ·simp only [Act.put, List.setIfInBounds_toArray, List.set_cons_zero, List.set_cons_succ, i64_w, i32_w]
          rfl
         refine take_ (i := 20) (N := some 61) (v := ?_) (a' := ?_) #[true, true, true, true, true, true, true, true, true, true, true, true, true, true, true, true, true, true, true, true, true, false, false, false, false, false, false, false, false, false, false, false, false, false, false, false, false] rfl rfl (take_ofW HT_.out HW_.out (by kernel_rfl)) (fun _ _ _ h => h) (Or.inl ⟨by rfl, ?_⟩) hHeld ?_ ?_
         rotate_left
         ·rintro w' ⟨s0, s1, s2, s3, s4, s5, s6, s7, s8, s9, s10, s11, s12, s13, s14, s15, s16, s17, s18, s19⟩
          go_simp
          with_reducible rfl
         rotate_left
         ·simp only [Act.put, List.setIfInBounds_toArray, List.set_cons_zero, List.set_cons_succ, i64_w, i32_w]
          rfl
         refine take_ (i := 22) (N := some 63) (v := ?_) (a' := ?_) #[true, true, true, true, true, true, true, true, true, true, true, true, true, true, true, true, true, true, true, true, true, false, true, false, false, false, false, false, false, false, false, false, false, false, false, false, false] rfl rfl (take_ofW HT_.out HW_.out (by kernel_rfl)) (fun _ _ _ h => h) (Or.inl ⟨by rfl, ?_⟩) hHeld ?_ ?_
         rotate_left
         ·rintro w' ⟨s0, s1, s2, s3, s4, s5, s6, s7, s8, s9, s10, s11, s12, s13, s14, s15, s16, s17, s18, s19⟩
          go_simp
          with_reducible rfl
         rotate_left
         ·simp only [Act.put, List.setIfInBounds_toArray, List.set_cons_zero, List.set_cons_succ, i64_w, i32_w]
          rfl
         refine one_ (i := 21) (N := some 62) #[true, true, true, true, true, true, true, true, true, true, true, true, true, true, true, true, true, true, true, true, true, true, true, false, false, false, false, false, false, false, false, false, false, false, false, false, false] rfl rfl (one_of HT_.out (by kernel_rfl)) (by decide) (fun K hK => ?_)
         refine goes_ Try.func19 (by kernel_rfl) rfl #[.agg #[.int .i64 t350, .int .i64 t351, .string t352, .slice Ao14 t353.length co14, .slice A4 l4.length c4]] (by rfl) rfl rfl q16f ?_
         with_reducible refine (item_Check.calls kj7 t350 t351 t352 _ _ t353 _ _ l4 t371 _ ?side1 ?side2 ?side3 ?side4 A27.out).mono ?_
         (case side1 => exact zD HO_361003)
         (case side2 => exact (Kd.R_reads' HO_361003.out).2.1)
         (case side3 => exact zC HR4 HB)
         (case side4 => exact HC4.out)
         rintro e w82 ⟨rfl, hb⟩
         refine ⟨_, rfl, ?_⟩
         replace HO_361003 := zR HO_361003 hb
         replace HO_361004 := zR HO_361004 hb
         replace BK360 := zb BK360 hb
         replace BK361 := zb BK361 hb
         replace BK362 := zb BK362 hb
         replace BK363 := zb BK363 hb
         replace BK364 := zb BK364 hb
         replace HB := zs HB hb
         (try clear hb)
         (try clear hb2)
         (try clear hk)
         (try clear hi)
         refine hK.out _ _ ⟨(blk_cell BK361.out 0).trans rfl, (blk_cell BK361.out 1).trans rfl, (blk_cell BK361.out 2).trans rfl, (blk_cell BK361.out 3).trans rfl, (blk_cell BK361.out 4).trans rfl, (blk_cell BK362.out 0).trans rfl, (blk_cell BK362.out 1).trans rfl, (blk_cell BK362.out 2).trans rfl, (blk_cell BK362.out 3).trans rfl, (blk_cell BK362.out 4).trans rfl, (blk_cell BK363.out 0).trans rfl, (blk_cell BK363.out 1).trans rfl, (blk_cell BK363.out 2).trans rfl, (blk_cell BK363.out 3).trans rfl, (blk_cell BK363.out 4).trans rfl, (blk_cell BK364.out 0).trans rfl, (blk_cell BK364.out 1).trans rfl, (blk_cell BK364.out 2).trans rfl, (blk_cell BK364.out 3).trans rfl, (blk_cell BK364.out 4).trans rfl⟩ (fun hHeld => ?_)
         clear hK K
         refine norm_ (a' := ?_) ?_ ?_
         rotate_left
         ·show Act.put _ (some 62) _ = _
          simp only [Act.put, List.setIfInBounds_toArray, List.set_cons_zero, List.set_cons_succ, i64_w, i32_w]
          rfl
         refine one_ (i := 23) (N := some 64) #[true, true, true, true, true, true, true, true, true, true, true, true, true, true, true, true, true, true, true, true, true, true, true, true, false, false, false, false, false, false, false, false, false, false, false, false, false] rfl rfl (one_of HT_.out (by kernel_rfl)) (by decide) (fun K hK => ?_)
         refine goes_ Try.func20 (by kernel_rfl) rfl #[.agg #[.int .i64 t350, .int .i64 t351, .string t352, .slice Ao14 t353.length co14, .slice A4 l4.length c4]] (by rfl) rfl rfl q16f ?_
         with_reducible refine (awardingbodyref06_Check.calls kj7 t350 t351 t352 _ _ t353 _ _ l4 t372 _ ?side1 ?side2 ?side3 ?side4 A28.out).mono ?_
         (case side1 => exact zD HO_361003)
         (case side2 => exact (Kd.R_reads' HO_361003.out).2.1)
         (case side3 => exact zC HR4 HB)
         (case side4 => exact HC4.out)
         rintro e w83 ⟨rfl, hb⟩
         refine ⟨_, rfl, ?_⟩
         replace HO_361003 := zR HO_361003 hb
         replace HO_361004 := zR HO_361004 hb
         replace BK360 := zb BK360 hb
         replace BK361 := zb BK361 hb
         replace BK362 := zb BK362 hb
         replace BK363 := zb BK363 hb
         replace BK364 := zb BK364 hb
         replace HB := zs HB hb
         (try clear hb)
         (try clear hb2)
         (try clear hk)
         (try clear hi)
         refine hK.out _ _ ⟨(blk_cell BK361.out 0).trans rfl, (blk_cell BK361.out 1).trans rfl, (blk_cell BK361.out 2).trans rfl, (blk_cell BK361.out 3).trans rfl, (blk_cell BK361.out 4).trans rfl, (blk_cell BK362.out 0).trans rfl, (blk_cell BK362.out 1).trans rfl, (blk_cell BK362.out 2).trans rfl, (blk_cell BK362.out 3).trans rfl, (blk_cell BK362.out 4).trans rfl, (blk_cell BK363.out 0).trans rfl, (blk_cell BK363.out 1).trans rfl, (blk_cell BK363.out 2).trans rfl, (blk_cell BK363.out 3).trans rfl, (blk_cell BK363.out 4).trans rfl, (blk_cell BK364.out 0).trans rfl, (blk_cell BK364.out 1).trans rfl, (blk_cell BK364.out 2).trans rfl, (blk_cell BK364.out 3).trans rfl, (blk_cell BK364.out 4).trans rfl⟩ (fun hHeld => ?_)
         clear hK K
         refine norm_ (a' := ?_) ?_ ?_
         rotate_left
         ·show Act.put _ (some 64) _ = _
          simp only [Act.put, List.setIfInBounds_toArray, List.set_cons_zero, List.set_cons_succ, i64_w, i32_w]
          rfl
         refine pure_ (i := 24) (N := some 65) (v := ?_) (a' := ?_) #[true, true, true, true, true, true, true, true, true, true, true, true, true, true, true, true, true, true, true, true, true, true, true, true, true, false, false, false, false, false, false, false, false, false, false, false, false] rfl rfl (any_of HT_.out (by kernel_rfl)) (fun _ _ _ h => h) (Or.inl ⟨by rfl, ?_⟩) ?_ ?_
         rotate_left
         ·intro w'
          go_simp
          with_reducible rfl
         rotate_left
         ·simp only [Act.put, List.setIfInBounds_toArray, List.set_cons_zero, List.set_cons_succ, i64_w, i32_w]
          rfl
         refine pure_ (i := 25) (N := some 66) (v := ?_) (a' := ?_) #[true, true, true, true, true, true, true, true, true, true, true, true, true, true, true, true, true, true, true, true, true, true, true, true, true, true, false, false, false, false, false, false, false, false, false, false, false] rfl rfl (any_of HT_.out (by kernel_rfl)) (fun _ _ _ h => h) (Or.inl ⟨by rfl, ?_⟩) ?_ ?_
         rotate_left
         ·intro w'
          go_simp
          with_reducible rfl
         rotate_left
         ·simp only [Act.put, List.setIfInBounds_toArray, List.set_cons_zero, List.set_cons_succ, i64_w, i32_w]
          rfl
         refine pure_ (i := 26) (N := some 67) (v := ?_) (a' := ?_) #[true, true, true, true, true, true, true, true, true, true, true, true, true, true, true, true, true, true, true, true, true, true, true, true, true, true, true, false, false, false, false, false, false, false, false, false, false] rfl rfl (any_of HT_.out (by kernel_rfl)) (fun _ _ _ h => h) (Or.inl ⟨by rfl, ?_⟩) ?_ ?_
         rotate_left
         ·intro w'
          go_simp
          with_reducible rfl
         rotate_left
         ·simp only [Act.put, List.setIfInBounds_toArray, List.set_cons_zero, List.set_cons_succ, i64_w, i32_w]
          rfl
         refine take_ (i := 27) (N := some 68) (v := ?_) (a' := ?_) #[true, true, true, true, true, true, true, true, true, true, true, true, true, true, true, true, true, true, true, true, true, true, true, true, true, true, true, true, false, false, false, false, false, false, false, false, false] rfl rfl (take_ofW HT_.out HW_.out (by kernel_rfl)) (fun _ _ _ h => h) (Or.inl ⟨by rfl, ?_⟩) hHeld ?_ ?_
         rotate_left
         ·rintro w' ⟨s0, s1, s2, s3, s4, s5, s6, s7, s8, s9, s10, s11, s12, s13, s14, s15, s16, s17, s18, s19⟩
          go_simp
          with_reducible rfl
         rotate_left
         ·simp only [Act.put, List.setIfInBounds_toArray, List.set_cons_zero, List.set_cons_succ, i64_w, i32_w]
          rfl
         refine take_ (i := 29) (N := some 70) (v := ?_) (a' := ?_) #[true, true, true, true, true, true, true, true, true, true, true, true, true, true, true, true, true, true, true, true, true, true, true, true, true, true, true, true, false, true, false, false, false, false, false, false, false] rfl rfl (take_ofW HT_.out HW_.out (by kernel_rfl)) (fun _ _ _ h => h) (Or.inl ⟨by rfl, ?_⟩) hHeld ?_ ?_
         rotate_left
         ·rintro w' ⟨s0, s1, s2, s3, s4, s5, s6, s7, s8, s9, s10, s11, s12, s13, s14, s15, s16, s17, s18, s19⟩
          go_simp
          with_reducible rfl
         rotate_left
         ·simp only [Act.put, List.setIfInBounds_toArray, List.set_cons_zero, List.set_cons_succ, i64_w, i32_w]
          rfl
         refine one_ (i := 28) (N := some 69) #[true, true, true, true, true, true, true, true, true, true, true, true, true, true, true, true, true, true, true, true, true, true, true, true, true, true, true, true, true, true, false, false, false, false, false, false, false] rfl rfl (one_of HT_.out (by kernel_rfl)) (by decide) (fun K hK => ?_)
         refine goes_ Try.func21 (by kernel_rfl) rfl #[.agg #[.int .i64 t350, .int .i64 t351, .string t352, .slice Ao14 t353.length co14, .slice A4 l4.length c4]] (by rfl) rfl rfl q16f ?_
         with_reducible refine (item_Total.calls kj7 t350 t351 t352 _ _ t353 _ _ l4 t373 _ ?side1 ?side2 ?side3 ?side4 A30.out).mono ?_
         (case side1 => exact zD HO_361003)
         (case side2 => exact (Kd.R_reads' HO_361003.out).2.1)
         (case side3 => exact zC HR4 HB)
         (case side4 => exact HC4.out)
         rintro e w84 ⟨rfl, hb⟩
         refine ⟨_, rfl, ?_⟩
         replace HO_361003 := zR HO_361003 hb
         replace HO_361004 := zR HO_361004 hb
         replace BK360 := zb BK360 hb
         replace BK361 := zb BK361 hb
         replace BK362 := zb BK362 hb
         replace BK363 := zb BK363 hb
         replace BK364 := zb BK364 hb
         replace HB := zs HB hb
         (try clear hb)
         (try clear hb2)
         (try clear hk)
         (try clear hi)
         refine hK.out _ _ ⟨(blk_cell BK361.out 0).trans rfl, (blk_cell BK361.out 1).trans rfl, (blk_cell BK361.out 2).trans rfl, (blk_cell BK361.out 3).trans rfl, (blk_cell BK361.out 4).trans rfl, (blk_cell BK362.out 0).trans rfl, (blk_cell BK362.out 1).trans rfl, (blk_cell BK362.out 2).trans rfl, (blk_cell BK362.out 3).trans rfl, (blk_cell BK362.out 4).trans rfl, (blk_cell BK363.out 0).trans rfl, (blk_cell BK363.out 1).trans rfl, (blk_cell BK363.out 2).trans rfl, (blk_cell BK363.out 3).trans rfl, (blk_cell BK363.out 4).trans rfl, (blk_cell BK364.out 0).trans rfl, (blk_cell BK364.out 1).trans rfl, (blk_cell BK364.out 2).trans rfl, (blk_cell BK364.out 3).trans rfl, (blk_cell BK364.out 4).trans rfl⟩ (fun hHeld => ?_)
         clear hK K
         refine norm_ (a' := ?_) ?_ ?_
         rotate_left
         ·show Act.put _ (some 69) _ = _
          simp only [Act.put, List.setIfInBounds_toArray, List.set_cons_zero, List.set_cons_succ, i64_w, i32_w]
          rfl
         refine one_ (i := 30) (N := some 71) #[true, true, true, true, true, true, true, true, true, true, true, true, true, true, true, true, true, true, true, true, true, true, true, true, true, true, true, true, true, true, true, false, false, false, false, false, false] rfl rfl (one_of HT_.out (by kernel_rfl)) (by decide) (fun K hK => ?_)
         refine goes_ Try.func22 (by kernel_rfl) rfl #[.agg #[.int .i64 t350, .int .i64 t351, .string t352, .slice Ao14 t353.length co14, .slice A4 l4.length c4]] (by rfl) rfl rfl q16f ?_
         with_reducible refine (awardingbodyref06_Total.calls kj7 t350 t351 t352 _ _ t353 _ _ l4 t374 _ ?side1 ?side2 ?side3 ?side4 A31.out).mono ?_
         (case side1 => exact zD HO_361003)
         (case side2 => exact (Kd.R_reads' HO_361003.out).2.1)
         (case side3 => exact zC HR4 HB)
         (case side4 => exact HC4.out)
         rintro e w85 ⟨rfl, hb⟩
         refine ⟨_, rfl, ?_⟩
         replace HO_361003 := zR HO_361003 hb
         replace HO_361004 := zR HO_361004 hb
         replace BK360 := zb BK360 hb
         replace BK361 := zb BK361 hb
         replace BK362 := zb BK362 hb
         replace BK363 := zb BK363 hb
         replace BK364 := zb BK364 hb
         replace HB := zs HB hb
         (try clear hb)
         (try clear hb2)
         (try clear hk)
         (try clear hi)
         refine hK.out _ _ ⟨(blk_cell BK361.out 0).trans rfl, (blk_cell BK361.out 1).trans rfl, (blk_cell BK361.out 2).trans rfl, (blk_cell BK361.out 3).trans rfl, (blk_cell BK361.out 4).trans rfl, (blk_cell BK362.out 0).trans rfl, (blk_cell BK362.out 1).trans rfl, (blk_cell BK362.out 2).trans rfl, (blk_cell BK362.out 3).trans rfl, (blk_cell BK362.out 4).trans rfl, (blk_cell BK363.out 0).trans rfl, (blk_cell BK363.out 1).trans rfl, (blk_cell BK363.out 2).trans rfl, (blk_cell BK363.out 3).trans rfl, (blk_cell BK363.out 4).trans rfl, (blk_cell BK364.out 0).trans rfl, (blk_cell BK364.out 1).trans rfl, (blk_cell BK364.out 2).trans rfl, (blk_cell BK364.out 3).trans rfl, (blk_cell BK364.out 4).trans rfl⟩ (fun hHeld => ?_)
         clear hK K
         refine norm_ (a' := ?_) ?_ ?_
         rotate_left
         ·show Act.put _ (some 71) _ = _
          simp only [Act.put, List.setIfInBounds_toArray, List.set_cons_zero, List.set_cons_succ, i64_w, i32_w]
          rfl
         refine pure_ (i := 31) (N := some 72) (v := ?_) (a' := ?_) #[true, true, true, true, true, true, true, true, true, true, true, true, true, true, true, true, true, true, true, true, true, true, true, true, true, true, true, true, true, true, true, true, false, false, false, false, false] rfl rfl (any_of HT_.out (by kernel_rfl)) (fun _ _ _ h => h) (Or.inl ⟨by rfl, ?_⟩) ?_ ?_
         rotate_left
         ·intro w'
          go_simp
          with_reducible rfl
         rotate_left
         ·simp only [Act.put, List.setIfInBounds_toArray, List.set_cons_zero, List.set_cons_succ, i64_w, i32_w]
          rfl
         refine pure_ (i := 32) (N := some 73) (v := ?_) (a' := ?_) #[true, true, true, true, true, true, true, true, true, true, true, true, true, true, true, true, true, true, true, true, true, true, true, true, true, true, true, true, true, true, true, true, true, false, false, false, false] rfl rfl (any_of HT_.out (by kernel_rfl)) (fun _ _ _ h => h) (Or.inl ⟨by rfl, ?_⟩) ?_ ?_
         rotate_left
         ·intro w'
          go_simp
          with_reducible rfl
         rotate_left
         ·simp only [Act.put, List.setIfInBounds_toArray, List.set_cons_zero, List.set_cons_succ, i64_w, i32_w]
          rfl
         refine pure_ (i := 33) (N := some 74) (v := ?_) (a' := ?_) #[true, true, true, true, true, true, true, true, true, true, true, true, true, true, true, true, true, true, true, true, true, true, true, true, true, true, true, true, true, true, true, true, true, true, false, false, false] rfl rfl (any_of HT_.out (by kernel_rfl)) (fun _ _ _ h => h) (Or.inl ⟨by rfl, ?_⟩) ?_ ?_
         rotate_left
         ·intro w'
          go_simp
          with_reducible rfl
         rotate_left
         ·simp only [Act.put, List.setIfInBounds_toArray, List.set_cons_zero, List.set_cons_succ, i64_w, i32_w]
          rfl
         refine one_ (i := 34) (N := some 75) #[true, true, true, true, true, true, true, true, true, true, true, true, true, true, true, true, true, true, true, true, true, true, true, true, true, true, true, true, true, true, true, true, true, true, true, false, false] rfl rfl (one_of HT_.out (by kernel_rfl)) (by decide) (fun K hK => ?_)
         refine goes_ Try.func14 (by kernel_rfl) rfl #[] (by rfl) rfl rfl q16f ?_
         with_reducible refine (awardingbodylaw06_awake.calls kj7  t375 _ A33.out).mono ?_
         rintro e w86 ⟨rfl, hb⟩
         refine ⟨_, rfl, ?_⟩
         replace HO_361003 := zR HO_361003 hb
         replace HO_361004 := zR HO_361004 hb
         replace BK360 := zb BK360 hb
         replace BK361 := zb BK361 hb
         replace BK362 := zb BK362 hb
         replace BK363 := zb BK363 hb
         replace BK364 := zb BK364 hb
         replace HB := zs HB hb
         (try clear hb)
         (try clear hb2)
         (try clear hk)
         (try clear hi)
         refine hK.out _ _ ⟨(blk_cell BK361.out 0).trans rfl, (blk_cell BK361.out 1).trans rfl, (blk_cell BK361.out 2).trans rfl, (blk_cell BK361.out 3).trans rfl, (blk_cell BK361.out 4).trans rfl, (blk_cell BK362.out 0).trans rfl, (blk_cell BK362.out 1).trans rfl, (blk_cell BK362.out 2).trans rfl, (blk_cell BK362.out 3).trans rfl, (blk_cell BK362.out 4).trans rfl, (blk_cell BK363.out 0).trans rfl, (blk_cell BK363.out 1).trans rfl, (blk_cell BK363.out 2).trans rfl, (blk_cell BK363.out 3).trans rfl, (blk_cell BK363.out 4).trans rfl, (blk_cell BK364.out 0).trans rfl, (blk_cell BK364.out 1).trans rfl, (blk_cell BK364.out 2).trans rfl, (blk_cell BK364.out 3).trans rfl, (blk_cell BK364.out 4).trans rfl⟩ (fun hHeld => ?_)
         clear hK K
         refine norm_ (a' := ?_) ?_ ?_
         rotate_left
         ·show Act.put _ (some 75) _ = _
          simp only [Act.put, List.setIfInBounds_toArray, List.set_cons_zero, List.set_cons_succ, i64_w, i32_w]
          rfl
         refine pure_ (i := 35) (N := some 76) (v := ?_) (a' := ?_) #[true, true, true, true, true, true, true, true, true, true, true, true, true, true, true, true, true, true, true, true, true, true, true, true, true, true, true, true, true, true, true, true, true, true, true, true, false] rfl rfl (any_of HT_.out (by kernel_rfl)) (fun _ _ _ h => h) (Or.inl ⟨by rfl, ?_⟩) ?_ ?_
         rotate_left
         ·intro w'
          go_simp
          with_reducible rfl
         rotate_left
         ·simp only [Act.put, List.setIfInBounds_toArray, List.set_cons_zero, List.set_cons_succ, i64_w, i32_w]
          rfl
         refine pure_ (i := 36) (N := some 10) (v := ?_) (a' := ?_) #[true, true, true, true, true, true, true, true, true, true, true, true, true, true, true, true, true, true, true, true, true, true, true, true, true, true, true, true, true, true, true, true, true, true, true, true, true] rfl rfl (any_of HT_.out (by kernel_rfl)) (fun _ _ _ h => h) (Or.inl ⟨by rfl, ?_⟩) ?_ ?_
         rotate_left
         ·intro w'
          go_simp
          with_reducible rfl
         rotate_left
         ·simp only [Act.put, List.setIfInBounds_toArray, List.set_cons_zero, List.set_cons_succ, i64_w, i32_w]
          rfl
         refine done_ (done_of HT_.out (by kernel_rfl)) ?_
         try go_wp2
         go_ret
         exact ⟨zf, zm HB⟩
        ·rw [if_neg c32] at H
         have c32b0 : (t373 == t374) = false := beq_eq_false_iff_ne.mpr c32
         have c32b1 : (t373 != t374) = true := bne_iff_ne.mpr c32
         exact absurd H (by simp)
       ·rw [if_neg c29] at H
        have c29b0 : (t371 == t372) = false := beq_eq_false_iff_ne.mpr c29
        have c29b1 : (t371 != t372) = true := bne_iff_ne.mpr c29
        exact absurd H (by simp)
      ·rw [if_neg c26] at H
       have c26b0 : (t369 == t370) = false := beq_eq_false_iff_ne.mpr c26
       have c26b1 : (t369 != t370) = true := bne_iff_ne.mpr c26
       exact absurd H (by simp)
     ·rw [if_neg c23] at H
      have c23b0 : (t367 == t368) = false := beq_eq_false_iff_ne.mpr c23
      have c23b1 : (t367 != t368) = true := bne_iff_ne.mpr c23
      exact absurd H (by simp)
    ·rw [if_neg c20] at H
     have c20b0 : (t365 == t366) = false := beq_eq_false_iff_ne.mpr c20
     have c20b1 : (t365 != t366) = true := bne_iff_ne.mpr c20
     exact absurd H (by simp)

/-- THE ONE PURE STATEMENT of awardingbodylaw06_ItemLoose: yours. -/
def awardingbodylaw06_ItemLoose.Pure : Prop := ∀ (l0 : List Int) (a1 : Int) (a2 : Int) (a3 : ByteArray) (l4 : List Int), l0.length ≤ maxLen → l0.length * 8 ≤ 140737488351232 → (∀ x ∈ l0, (Lit.int .i64 x).wf = true) → (Lit.int .i64 a1).wf = true → (Lit.int .i64 a2).wf = true → a3.size ≤ 140737488351232 → l4.length ≤ maxLen → l4.length * 8 ≤ 140737488351232 → (∀ x ∈ l4, (Lit.int .i64 x).wf = true) → ∃ k, awardingbodylaw06_ItemLoose.f k l0 a1 a2 a3 l4 = some true
theorem awardingbodylaw06_ItemLoose.walk (P : awardingbodylaw06_ItemLoose.Pure) (a0 : Option Addr) (len0 cap0 : Nat) (z0 : List Int) (a1 : Int) (a2 : Int) (a3 : ByteArray) (a4 : Option Addr) (len4 cap4 : Nat) (z4 : List Int) (w : World) (w0 : (a0 = none ∧ len0 = 0 ∧ cap0 = 0 ∧ z0 = []) ∨ ∃ x, a0 = some x ∧ len0 ≤ cap0 ∧ cap0 ≤ maxLen ∧ z0.length = cap0 ∧ (∀ i, i < z0.length → w.cell? (x.add i) = some (.int .i64 (z0.getD i 0))) ∧ ∀ n ∈ z0, (Lit.int .i64 n).wf = true) (y0 : len0 * 8 ≤ 140737488351232) (w1 : (Lit.int .i64 a1).wf = true) (w2 : (Lit.int .i64 a2).wf = true) (w3 : a3.size ≤ 140737488351232) (w4 : (a4 = none ∧ len4 = 0 ∧ cap4 = 0 ∧ z4 = []) ∨ ∃ x, a4 = some x ∧ len4 ≤ cap4 ∧ cap4 ≤ maxLen ∧ z4.length = cap4 ∧ (∀ i, i < z4.length → w.cell? (x.add i) = some (.int .i64 (z4.getD i 0))) ∧ ∀ n ∈ z4, (Lit.int .i64 n).wf = true) (y4 : len4 * 8 ≤ 140737488351232) :
  Calls Try.prog 5 #[.slice a0 len0 cap0, .int .i64 a1, .int .i64 a2, .string a3, .slice a4 len4 cap4] w fun e w' => e = .returned (.bool true) ∧ Below w.heap.size w w' := by
 obtain ⟨l0, rfl, hr0, hm0, hw0, hc0⟩ := ReadsInt.ofRowC w0
 obtain ⟨l4, rfl, hr4, hm4, hw4, hc4⟩ := ReadsInt.ofRowC w4
 obtain ⟨k, h⟩ := P l0 a1 a2 a3 l4 hm0 y0 hw0 w1 w2 w3 hm4 y4 hw4
 refine (awardingbodylaw06_ItemLoose.calls k _ _ l0 a1 a2 a3 _ _ l4 true w (Kd.C_of_reads (d := (0 : Int)) (h1 := fun _ => rfl) hr0) hc0 (Kd.C_of_reads (d := (0 : Int)) (h1 := fun _ => rfl) hr4) hc4 h).mono ?_
 rintro e w' ⟨rfl, hd⟩
 exact ⟨rfl, hd⟩

end Go.Proofs.Ytinmdoemkejanaa.Print
