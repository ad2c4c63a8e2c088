-- Printed by a program of this session (wip/own_print.py) out of the translation; Lean checks it.
import Derived.Test.YthbmpjglkbhhgaaPrint0
import Derived.Test.YthbmpjglkbhhgaaPrint2
import Derived.Test.YthbmpjglkbhhgaaPrint4
import Derived.Test.YthbmpjglkbhhgaaPrint5
namespace Go.Proofs.Ythbmpjglkbhhgaa.Print
open Go.RowKit Go.Proofs.YthbmpjglkbhhgaaW.PrintWords Go.Proofs.YthbmpjglkbhhgaaW.PrintLast Go.Proofs.YthbmpjglkbhhgaaW.PrintMore
attribute [local go_sem] max2_int min2_int max_two min_two max_three min_three max_four min_four   -- for this text's walks alone
set_option linter.unusedVariables false
set_option linter.unusedSimpArgs false

/-! ### awardingbodylaw20_BubbleJudges: function 4 -/
mutual
def awardingbodylaw20_BubbleJudges.j0 : Nat → List Int → List Int → Bool → List Int → Int → Int → Int → Int → Option (Bool)
  | 0, _, _, _, _, _, _, _, _ => none
  | k + 1, x1, x7, x28, x208000, x208001, x213000, x213001, x213002 => if x28 = true then ((awardingbodymake_Tape_Next.f x208000 x208001 (x7.length : Int)).bind fun bt219 => ((awardingbodymake_Tape_Pick.f x208000 bt219.2 (([(-1), 10] : List Int))).bind fun bt224 => (if 0 ≤ bt219.1 then (if bt219.1 < (x7.length : Int) then (awardingbodylaw20_BubbleJudges.j1 k x1 (x7.set (bt219.1 : Int).toNat bt224.1) x213000 x213001 x213002) else (none)) else (none)))) else (awardingbodylaw20_BubbleJudges.j1 k x1 x7 x213000 x213001 x213002)
def awardingbodylaw20_BubbleJudges.j1 : Nat → List Int → List Int → Int → Int → Int → Option (Bool)
  | 0, _, _, _, _, _ => none
  | k + 1, x1, x7, x213000, x213001, x213002 => if (x1.length : Int) > 20 then (some true) else ((bubble_Judge.f k x213000 x213001 x213002 x7).bind fun bt227 => ((awardingbodyref20_Judge.f k x213000 x213001 x213002 x7).bind fun bt229 => ((bubble_Judge.f k x213000 x213001 x213002 x1).bind fun bt231 => ((awardingbodyref20_Judge.f k x213000 x213001 x213002 x1).bind fun bt233 => (if bt227.1 = bt229.1 then (if bt227.2 = bt229.2 then (if bt231.1 = bt233.1 then (if bt231.2 = bt233.2 then ((awardingbodylaw20_awake.f k).bind fun t235 => (some t235)) else (none)) else (none)) else (none)) else (none))))))
end
def awardingbodylaw20_BubbleJudges.f (k : Nat) (l0 : List Int) (l1 : List Int) : Option (Bool) := (awardingbodymake_New.f l0).bind fun bt205 => ((awardingbodymake_Tape_Threshold.f bt205.1 bt205.2 10).bind fun bt208 => ((awardingbodymake_Tape_Ints.f k bt205.1 bt208.2.2.2 6 0 9).bind fun bt213 => (if (bt213.1.length : Int) > 0 then ((awardingbodymake_Tape_One.f bt205.1 bt213.2 10).bind fun bt217 => (awardingbodylaw20_BubbleJudges.j0 k l1 bt213.1 bt217.1 bt205.1 bt217.2 bt208.1 bt208.2.1 bt208.2.2.1)) else (awardingbodylaw20_BubbleJudges.j0 k l1 bt213.1 false bt205.1 bt213.2 bt208.1 bt208.2.1 bt208.2.2.1))))
theorem awardingbodylaw20_BubbleJudges.mono_l : ∀ k, (∀ y0 y1 y2 y3 y4 y5 y6 y7, LeO (awardingbodylaw20_BubbleJudges.j0 k y0 y1 y2 y3 y4 y5 y6 y7) (awardingbodylaw20_BubbleJudges.j0 (k + 1) y0 y1 y2 y3 y4 y5 y6 y7)) ∧ (∀ y0 y1 y2 y3 y4, LeO (awardingbodylaw20_BubbleJudges.j1 k y0 y1 y2 y3 y4) (awardingbodylaw20_BubbleJudges.j1 (k + 1) y0 y1 y2 y3 y4))
  | 0 => ⟨fun _ _ _ _ _ _ _ _ r h => by simp [awardingbodylaw20_BubbleJudges.j0] at h, fun _ _ _ _ _ r h => by simp [awardingbodylaw20_BubbleJudges.j1] at h⟩
  | k + 1 => by
    obtain ⟨ih0, ih1⟩ := awardingbodylaw20_BubbleJudges.mono_l k
    refine ⟨?_, ?_⟩
    · intro y0 y1 y2 y3 y4 y5 y6 y7
      unfold awardingbodylaw20_BubbleJudges.j0
      repeat' first
      | (with_reducible exact ih0 _ _ _ _ _ _ _ _)
      | (with_reducible exact ih1 _ _ _ _ _)
      | (with_reducible exact awardingbodylaw20_awake.mono _)
      | (with_reducible exact awardingbodymake_Tape_Ints.mono _ _ _ _ _ _)
      | (with_reducible exact awardingbodyref20_Judge.mono _ _ _ _ _)
      | (with_reducible exact bubble_Judge.mono _ _ _ _ _)
      | (with_reducible exact LeO.refl _)
      | (with_reducible exact LeO.none _)
      | (with_reducible refine LeO.ite ?_ ?_)
      | (with_reducible refine LeO.bind ?_ (fun _ => ?_))
      | exact ih0 _ _ _ _ _ _ _ _
      | exact ih1 _ _ _ _ _
      | exact awardingbodylaw20_awake.mono _
      | exact awardingbodymake_Tape_Ints.mono _ _ _ _ _ _
      | exact awardingbodyref20_Judge.mono _ _ _ _ _
      | exact bubble_Judge.mono _ _ _ _ _
      | exact LeO.none _
      | refine LeO.ite ?_ ?_
      | refine LeO.bind ?_ (fun _ => ?_)
    · intro y0 y1 y2 y3 y4
      unfold awardingbodylaw20_BubbleJudges.j1
      repeat' first
      | (with_reducible exact ih0 _ _ _ _ _ _ _ _)
      | (with_reducible exact ih1 _ _ _ _ _)
      | (with_reducible exact awardingbodylaw20_awake.mono _)
      | (with_reducible exact awardingbodymake_Tape_Ints.mono _ _ _ _ _ _)
      | (with_reducible exact awardingbodyref20_Judge.mono _ _ _ _ _)
      | (with_reducible exact bubble_Judge.mono _ _ _ _ _)
      | (with_reducible exact LeO.refl _)
      | (with_reducible exact LeO.none _)
      | (with_reducible refine LeO.ite ?_ ?_)
      | (with_reducible refine LeO.bind ?_ (fun _ => ?_))
      | exact ih0 _ _ _ _ _ _ _ _
      | exact ih1 _ _ _ _ _
      | exact awardingbodylaw20_awake.mono _
      | exact awardingbodymake_Tape_Ints.mono _ _ _ _ _ _
      | exact awardingbodyref20_Judge.mono _ _ _ _ _
      | exact bubble_Judge.mono _ _ _ _ _
      | exact LeO.none _
      | refine LeO.ite ?_ ?_
      | refine LeO.bind ?_ (fun _ => ?_)
theorem awardingbodylaw20_BubbleJudges.mono : ∀ a0 a1 k, LeO (awardingbodylaw20_BubbleJudges.f k a0 a1) (awardingbodylaw20_BubbleJudges.f (k + 1) a0 a1) := by
  intro a0 a1 k
  obtain ⟨ih0, ih1⟩ := awardingbodylaw20_BubbleJudges.mono_l k
  unfold awardingbodylaw20_BubbleJudges.f
  repeat' first
      | (with_reducible exact ih0 _ _ _ _ _ _ _ _)
      | (with_reducible exact ih1 _ _ _ _ _)
      | (with_reducible exact awardingbodylaw20_awake.mono _)
      | (with_reducible exact awardingbodymake_Tape_Ints.mono _ _ _ _ _ _)
      | (with_reducible exact awardingbodyref20_Judge.mono _ _ _ _ _)
      | (with_reducible exact bubble_Judge.mono _ _ _ _ _)
      | (with_reducible exact LeO.refl _)
      | (with_reducible exact LeO.none _)
      | (with_reducible refine LeO.ite ?_ ?_)
      | (with_reducible refine LeO.bind ?_ (fun _ => ?_))
      | exact ih0 _ _ _ _ _ _ _ _
      | exact ih1 _ _ _ _ _
      | exact awardingbodylaw20_awake.mono _
      | exact awardingbodymake_Tape_Ints.mono _ _ _ _ _ _
      | exact awardingbodyref20_Judge.mono _ _ _ _ _
      | exact bubble_Judge.mono _ _ _ _ _
      | exact LeO.none _
      | refine LeO.ite ?_ ?_
      | refine LeO.bind ?_ (fun _ => ?_)
set_option maxHeartbeats 8000000 in
set_option maxRecDepth 100000 in
theorem awardingbodylaw20_BubbleJudges.calls (k : Nat) (A0 : Option Addr) (c0 : Nat) (l0 : List Int) (A1 : Option Addr) (c1 : Nat) (l1 : List Int) (r : Bool) (w : World) (hr0 : Kd.C (Kd.int .i64) w A0 l0.length l0) (hc0 : l0.length ≤ c0) (hr1 : Kd.C (Kd.int .i64) w A1 l1.length l1) (hc1 : l1.length ≤ c1) (h : awardingbodylaw20_BubbleJudges.f k l0 l1 = some r) :
    Calls Try.prog 4 #[.slice A0 l0.length c0, .slice A1 l1.length c1] w fun e w' => e = .returned (.bool r) ∧ Below w.heap.size w w' := by
 have hu23 := Try.underlying23
 have HR0 := Aside0.mk hr0
 have HC0 := Aside0.mk hc0
 clear hr0 hc0
 have HR1 := Aside0.mk hr1
 have HC1 := Aside0.mk hc1
 clear hr1 hc1
 have HB := Aside0.mk (Below.refl w.heap.size w)
 have H : ((awardingbodymake_New.f l0).bind fun bt205 => ((awardingbodymake_Tape_Threshold.f bt205.1 bt205.2 10).bind fun bt208 => ((awardingbodymake_Tape_Ints.f k bt205.1 bt208.2.2.2 6 0 9).bind fun bt213 => (if (bt213.1.length : Int) > 0 then ((awardingbodymake_Tape_One.f bt205.1 bt213.2 10).bind fun bt217 => (awardingbodylaw20_BubbleJudges.j0 k l1 bt213.1 bt217.1 bt205.1 bt217.2 bt208.1 bt208.2.1 bt208.2.2.1)) else (awardingbodylaw20_BubbleJudges.j0 k l1 bt213.1 false bt205.1 bt213.2 bt208.1 bt208.2.1 bt208.2.2.1))))) = some r := h
 clear h
 replace H := Option.bind_eq_some_iff.mp H
 obtain ⟨⟨t205, t206⟩, A30, H⟩ := H
 replace H : ((awardingbodymake_Tape_Threshold.f t205 t206 10).bind fun bt208 => ((awardingbodymake_Tape_Ints.f k t205 bt208.2.2.2 6 0 9).bind fun bt213 => (if (bt213.1.length : Int) > 0 then ((awardingbodymake_Tape_One.f t205 bt213.2 10).bind fun bt217 => (awardingbodylaw20_BubbleJudges.j0 k l1 bt213.1 bt217.1 t205 bt217.2 bt208.1 bt208.2.1 bt208.2.2.1)) else (awardingbodylaw20_BubbleJudges.j0 k l1 bt213.1 false t205 bt213.2 bt208.1 bt208.2.1 bt208.2.2.1)))) = some r := H
 have A3 := Aside0.mk A30
 clear A30
 replace H := Option.bind_eq_some_iff.mp H
 obtain ⟨⟨t208, t209, t210, t211⟩, A40, H⟩ := H
 replace H : ((awardingbodymake_Tape_Ints.f k t205 t211 6 0 9).bind fun bt213 => (if (bt213.1.length : Int) > 0 then ((awardingbodymake_Tape_One.f t205 bt213.2 10).bind fun bt217 => (awardingbodylaw20_BubbleJudges.j0 k l1 bt213.1 bt217.1 t205 bt217.2 t208 t209 t210)) else (awardingbodylaw20_BubbleJudges.j0 k l1 bt213.1 false t205 bt213.2 t208 t209 t210))) = some r := H
 have A4 := Aside0.mk A40
 clear A40
 replace H := Option.bind_eq_some_iff.mp H
 obtain ⟨⟨t213, t216⟩, A50, H⟩ := H
 replace H : (if (t213.length : Int) > 0 then ((awardingbodymake_Tape_One.f t205 t216 10).bind fun bt217 => (awardingbodylaw20_BubbleJudges.j0 k l1 t213 bt217.1 t205 bt217.2 t208 t209 t210)) else (awardingbodylaw20_BubbleJudges.j0 k l1 t213 false t205 t216 t208 t209 t210)) = some r := H
 have A5 := Aside0.mk A50
 clear A50
 have HC6 := Aside0.mk H
 clear H
 go_enter Try.func4, Try.ntmps4
 go_upto_region 4 with (first | ((with_reducible refine gate_callee (f := 15) rfl ?_); refine goesL_ (some 17) rfl rfl Try.func15 (by kernel_rfl) rfl #[.slice A0 l0.length c0] rfl (by (try simp only [List.map_toArray, List.map_cons, List.map_nil]); first | done | rfl | (simp only [List.length_drop, List.length_take]; rfl)) ?_; (with_reducible refine (awardingbodymake_New.calls _ _ l0 t205 t206 w _ ?side1 ?side2 ?side3 A3.out).mono ?_); (case side1 => repeat (first | (with_reducible first | exact HB.out | apply below_alloc | apply pw_below_drewN | apply below_drew1) | exact HB.out)); (case side2 => exact HR0.out); (case side3 => exact HC0.out); rintro e w7 ⟨g207, rfl, hi, hb, hb2⟩; refine ⟨_, rfl, ?_⟩; have n0_ := Aside0.mk (hb); have n1_ := Aside0.mk (hi); clear HB; have HB := n0_; have HI207 := n1_; clear n0_ n1_; (try clear hb); (try clear hb2); (try clear hk); (try clear hi)) | ((with_reducible refine gate_callee (f := 16) rfl ?_); refine goesL_ (some 19) rfl rfl Try.func16 (by kernel_rfl) rfl #[.pointer (some ⟨g207, 0, none⟩), .int .i64 10] rfl (by (try simp only [List.map_toArray, List.map_cons, List.map_nil]); first | done | rfl | (simp only [List.length_drop, List.length_take]; rfl)) ?_; (with_reducible refine (awardingbodymake_Tape_Threshold.calls g207 t205 t206 10 t208 t209 t210 t211 w _ ?side1 ?side2 A4.out).mono ?_); (case side1 => repeat (first | (with_reducible first | exact HI207.out | apply IsS68.alloc | apply IsS68.drewN | apply IsS68.drew | apply IsS68.set_1) | exact HI207.out)); (case side2 => repeat (first | (with_reducible first | exact HB.out | apply below_alloc | apply pw_below_drewN | apply below_drew1 | refine below_set ?_ (IsS68.ge HI207.out)) | exact HB.out)); rintro e w8 ⟨rfl, hi, hb, hk⟩; refine ⟨_, rfl, ?_⟩; have n0_ := Aside0.mk (hb); have n1_ := Aside0.mk (hi); clear HB; clear HI207; have HB := n0_; have HI207 := n1_; clear n0_ n1_; (try clear hb); (try clear hb2); (try clear hk); (try clear hi)) | ((with_reducible refine gate_dst (N := 6) rfl ?_); refine box_event ?hg (N := 6) ?hd (cs := #[.int .i64 0, .int .i64 0, .int .i64 0]) (t := 23) ?hr ?_; (case hd => rfl); (case hg => rfl); (case hr => first | (go_simp; done) | (go_simp; rfl)); intro gb212 hg w9 hbox hb; have n0_ := Aside0.mk (IsS68.below (by repeat (first | (with_reducible first | exact HI207.out | apply IsS68.alloc | apply IsS68.drewN | apply IsS68.drew | apply IsS68.set_1) | exact HI207.out)) hb); have n1_ := Aside0.mk (below_step (by repeat (first | (with_reducible first | exact HB.out | apply below_alloc | apply pw_below_drewN | apply below_drew1 | refine below_set ?_ (IsS68.ge HI207.out)) | exact HB.out)) hb); have n2_ := Aside0.mk (hbox); have n3_ := Aside0.mk ((by rw [hg]; exact (below_size (by repeat (first | (with_reducible first | exact HB.out | apply below_alloc | apply pw_below_drewN | apply below_drew1 | refine below_set ?_ (IsS68.ge HI207.out)) | exact HB.out))) : w.heap.size ≤ gb212)); have n4_ := Aside0.mk ((by rw [hg]; exact (below_size (by repeat (first | (with_reducible first | exact HB.out | apply below_alloc | apply pw_below_drewN | apply below_drew1 | refine below_set ?_ (IsS68.ge HI207.out)) | exact HB.out))) : w.heap.size ≤ gb212)); have n5_ := Aside0.mk ((by rw [hg]; exact Nat.ne_of_lt (IsS68.lt (show IsS68 w _ g207 t205 t211 from by repeat (first | (with_reducible first | exact HI207.out | apply IsS68.alloc | apply IsS68.drewN | apply IsS68.drew | apply IsS68.set_1) | exact HI207.out))) : g207 ≠ gb212)); have n6_ := Aside0.mk ((by rw [hg]; exact Nat.ne_of_gt (IsS68.lt (show IsS68 w _ g207 t205 t211 from by repeat (first | (with_reducible first | exact HI207.out | apply IsS68.alloc | apply IsS68.drewN | apply IsS68.drew | apply IsS68.set_1) | exact HI207.out))) : gb212 ≠ g207)); clear HI207; clear HB; have HI207 := n0_; have HB := n1_; have BK212 := n2_; have GW212 := n3_; have GE212 := n4_; have NB207_212 := n5_; have NB212_207 := n6_; clear n0_ n1_ n2_ n3_ n4_ n5_ n6_; clear hb hbox hg; have hnb10 := NB212_207.out; have hnc10 := NB207_212.out; have hcz11_0 : w9.cell? ⟨gb212, 0, none⟩ = some (.int .i64 0) := (blk_cell BK212.out 0).trans rfl; have hcz11_1 : w9.cell? ⟨gb212, 1, none⟩ = some (.int .i64 0) := (blk_cell BK212.out 1).trans rfl; have hcz11_2 : w9.cell? ⟨gb212, 2, none⟩ = some (.int .i64 0) := (blk_cell BK212.out 2).trans rfl; have hfz11_0 := blk_frozen BK212.out 0; have hfz11_1 := blk_frozen BK212.out 1; have hfz11_2 := blk_frozen BK212.out 2) | ((with_reducible refine gate_callee (f := 17) rfl ?_); refine goesL_ (some 21) rfl rfl Try.func17 (by kernel_rfl) rfl #[.pointer (some ⟨g207, 0, none⟩), .int .i64 6, .int .i64 0, .int .i64 9] rfl (by (try simp only [List.map_toArray, List.map_cons, List.map_nil]); first | done | rfl | (simp only [List.length_drop, List.length_take]; rfl)) ?_; (with_reducible refine (awardingbodymake_Tape_Ints.calls k g207 t205 t211 6 0 9 t213 t216 w _ ?side1 ?side2 A5.out).mono ?_); (case side1 => repeat (first | (with_reducible first | exact HI207.out | apply IsS68.alloc | apply IsS68.drewN | apply IsS68.drew | apply IsS68.set_1 | refine IsS68.far ?_ NB207_212.out _) | exact HI207.out)); (case side2 => repeat (first | (with_reducible first | exact HB.out | apply below_alloc | apply pw_below_drewN | apply below_drew1 | refine below_set ?_ (IsS68.ge HI207.out) | refine below_set ?_ GE212.out) | exact HB.out)); rintro e w12 ⟨v214, rfl, ho0, hi, hb, hk⟩; refine ⟨_, rfl, ?_⟩; have n0_ := Aside0.mk (KeepBut.blk hk (g' := gb212) (o := .cells #[.int .i64 t208, .int .i64 t209, .int .i64 t210] 23 (0, 0)) (by (with_reducible repeat (first | refine blk_drewN ?_ _ | refine blk_drew ?_ | refine blk_alloc ?_ _)); refine blk_put (cs := #[.int .i64 t208, .int .i64 t209, .int .i64 0]) ?_ 2 _ rfl; (with_reducible repeat (first | refine blk_drewN ?_ _ | refine blk_drew ?_ | refine blk_alloc ?_ _)); refine blk_put (cs := #[.int .i64 t208, .int .i64 0, .int .i64 0]) ?_ 1 _ rfl; (with_reducible repeat (first | refine blk_drewN ?_ _ | refine blk_drew ?_ | refine blk_alloc ?_ _)); refine blk_put (cs := #[.int .i64 0, .int .i64 0, .int .i64 0]) ?_ 0 _ rfl; (with_reducible repeat (first | refine blk_drewN ?_ _ | refine blk_drew ?_ | refine blk_alloc ?_ _)); exact BK212.out) NB212_207.out (by simp)); have n1_ := Aside0.mk (Kd.R_lower ho0 (below_size (by repeat (first | (with_reducible first | exact HB.out | apply below_alloc | apply pw_below_drewN | apply below_drew1 | refine below_set ?_ (IsS68.ge HI207.out) | refine below_set ?_ GE212.out) | exact HB.out)))); have n2_ := Aside0.mk (hb); have n3_ := Aside0.mk (hi); clear BK212; clear HB; clear HI207; have BK212 := n0_; have HO215 := n1_; have HB := n2_; have HI207 := n3_; clear n0_ n1_ n2_ n3_; (try clear hb); (try clear hb2); (try clear hk); (try clear hi); (try clear ho0)))
 (try simp only [Act.put, List.setIfInBounds_toArray, List.set_cons_zero, List.set_cons_succ])
 go_cut [28] (fun v28 wc => ∃ (kq : Nat) (x28_5 : Bool) (x208001_5 : Int), v28 = .bool x28_5 ∧ Aside0 (awardingbodylaw20_BubbleJudges.j0 kq l1 t213 x28_5 t205 x208001_5 t208 t209 t210 = some r) ∧ Aside0 (kq ≤ k) ∧ Aside0 (Kd.R (Kd.int .i64) 3 wc w.heap.size (fun _ => True) v214 t213) ∧ Aside0 (wc.heap[gb212]? = some (.cells #[.int .i64 t208, .int .i64 t209, .int .i64 t210] 23 (0, 0))) ∧ Aside0 (IsS68 w wc g207 t205 x208001_5) ∧ Aside0 (Below w.heap.size w wc))
 case first =>
  have H := HC6.out
  clear HC6
  by_cases c13 : (t213.length : Int) > 0
  ·rw [if_pos c13] at H
   have c13b0 : decide (0 < (t213.length : Int)) = true := decide_eq_true c13
   have c13b1 : decide (0 < t213.length) = true := decide_eq_true (by omega)
   clear c13
   (first | rw [c13b0] | (simp only [i64_w, i32_w]; rw [c13b0]) | skip)
   replace H := Option.bind_eq_some_iff.mp H
   obtain ⟨⟨t217, t218⟩, A140, H⟩ := H
   replace H : (awardingbodylaw20_BubbleJudges.j0 k l1 t213 t217 t205 t218 t208 t209 t210) = some r := H
   have A14 := Aside0.mk A140
   clear A140
   have H' := Aside0.mk H
   clear H
   obtain ⟨Ao15, co15, eo15⟩ := Kd.R_slice HO215.out
   subst eo15
   go_wp2_with (first | (go_at_call 18; (with_reducible refine (awardingbodymake_Tape_One.calls g207 t205 t216 10 t217 t218 w _ ?side1 ?side2 A14.out).mono ?_); (case side1 => repeat (first | (with_reducible first | exact HI207.out | apply IsS68.alloc | apply IsS68.drewN | apply IsS68.drew | apply IsS68.set_1 | refine IsS68.far ?_ NB207_212.out _) | exact HI207.out)); (case side2 => repeat (first | (with_reducible first | exact HB.out | apply below_alloc | apply pw_below_drewN | apply below_drew1 | refine below_set ?_ (IsS68.ge HI207.out) | refine below_set ?_ GE212.out) | exact HB.out)); rintro e w16 ⟨rfl, hi, hb, hk⟩; have n0_ := Aside0.mk (KeepBut.blk hk (g' := gb212) (o := .cells #[.int .i64 t208, .int .i64 t209, .int .i64 t210] 23 (0, 0)) (by (with_reducible repeat (first | refine blk_drewN ?_ _ | refine blk_drew ?_ | refine blk_alloc ?_ _)); exact BK212.out) NB212_207.out (by simp)); have n1_ := Aside0.mk (Kd.R_mono (Kd.R_keep (IsS68.apart (show IsS68 w _ g207 t205 t216 from by repeat (first | (with_reducible first | exact HI207.out | apply IsS68.alloc | apply IsS68.drewN | apply IsS68.drew | apply IsS68.set_1 | refine IsS68.far ?_ NB207_212.out _) | exact HI207.out)) (by (with_reducible repeat (first | apply Kd.R_alloc | apply Kd.R_drewN | apply Kd.R_drew)); exact HO215.out) (by decide)) hk (fun _ h => h.2)) (fun _ h => h.1)); have n2_ := Aside0.mk (hb); have n3_ := Aside0.mk (hi); clear BK212; clear HO215; clear HB; clear HI207; have BK212 := n0_; have HO215 := n1_; have HB := n2_; have HI207 := n3_; clear n0_ n1_ n2_ n3_; (try clear hb); (try clear hb2); (try clear hk); (try clear hi)))
   go_meet
   case rel => exact ⟨_, (t217), (t218), (by first | rfl | (simp; done) | (simp [*]; done)), H', ⟨by first | omega | exact Nat.le_refl _⟩, ⟨by (with_reducible repeat (first | apply Kd.R_alloc | apply Kd.R_drewN | apply Kd.R_drew)); exact HO215.out⟩, ⟨by (with_reducible repeat (first | refine blk_drewN ?_ _ | refine blk_drew ?_ | refine blk_alloc ?_ _)); exact BK212.out⟩, ⟨by repeat (first | (with_reducible first | exact HI207.out | apply IsS68.alloc | apply IsS68.drewN | apply IsS68.drew | apply IsS68.set_1 | refine IsS68.far ?_ NB207_212.out _) | exact HI207.out)⟩, ⟨by repeat (first | (with_reducible first | exact HB.out | apply below_alloc | apply pw_below_drewN | apply below_drew1 | refine below_set ?_ (IsS68.ge HI207.out) | refine below_set ?_ GE212.out) | exact HB.out)⟩⟩
  ·rw [if_neg c13] at H
   have c13b0 : decide (0 < (t213.length : Int)) = false := decide_eq_false c13
   have c13b1 : decide (0 < t213.length) = false := decide_eq_false (by omega)
   clear c13
   (first | rw [c13b0] | (simp only [i64_w, i32_w]; rw [c13b0]) | skip)
   have H' := Aside0.mk H
   clear H
   obtain ⟨Ao17, co17, eo17⟩ := Kd.R_slice HO215.out
   subst eo17
   go_wp2
   go_meet
   case rel => exact ⟨_, (false), (t216), (by first | rfl | (simp; done) | (simp [*]; done)), H', ⟨by first | omega | exact Nat.le_refl _⟩, ⟨by (with_reducible repeat (first | apply Kd.R_alloc | apply Kd.R_drewN | apply Kd.R_drew)); exact HO215.out⟩, ⟨by (with_reducible repeat (first | refine blk_drewN ?_ _ | refine blk_drew ?_ | refine blk_alloc ?_ _)); exact BK212.out⟩, ⟨by repeat (first | (with_reducible first | exact HI207.out | apply IsS68.alloc | apply IsS68.drewN | apply IsS68.drew | apply IsS68.set_1 | refine IsS68.far ?_ NB207_212.out _) | exact HI207.out)⟩, ⟨by repeat (first | (with_reducible first | exact HB.out | apply below_alloc | apply pw_below_drewN | apply below_drew1 | refine below_set ?_ (IsS68.ge HI207.out) | refine below_set ?_ GE212.out) | exact HB.out)⟩⟩
 case rest =>
  clear HC6
  try clear c1
  try clear p2
  try clear c4
  try clear c10
  try clear c13
  try clear c13b0
  try clear c13b1
  try clear c15
  try clear c16
  try clear c17
  try clear hcz11_0
  try clear hcz11_1
  try clear hcz11_2
  try clear hfz11_0
  try clear hfz11_1
  try clear hfz11_2
  obtain ⟨kq, x28_5, x208001_5, rfl, HA, HJ5, HO_7, BK212, HI207, HB⟩ := hcut
  cases kq with
  | zero => exact absurd HA.out (by simp [awardingbodylaw20_BubbleJudges.j0])
  | succ kj5 =>
   have H := HA.out
   clear HA
   simp only [awardingbodylaw20_BubbleJudges.j0] at H
   have HC18 := Aside0.mk H
   clear H
   go_upto_if 28 with (fail)
   go_cut [] (fun wc => ∃ (kq : Nat) (x7_17 : List Int), Aside0 (awardingbodylaw20_BubbleJudges.j1 kq l1 x7_17 t208 t209 t210 = some r) ∧ Aside0 (kq ≤ kj5) ∧ Aside0 (Kd.R (Kd.int .i64) 3 wc w.heap.size (fun _ => True) v214 x7_17) ∧ Aside0 (wc.heap[gb212]? = some (.cells #[.int .i64 t208, .int .i64 t209, .int .i64 t210] 23 (0, 0))) ∧ Aside0 (Below w.heap.size w wc))
   case first =>
    have H := HC18.out
    clear HC18
    by_cases c19 : x28_5 = true
    ·subst c19
     have H1 : ((awardingbodymake_Tape_Next.f t205 x208001_5 (t213.length : Int)).bind fun bt219 => ((awardingbodymake_Tape_Pick.f t205 bt219.2 (([(-1), 10] : List Int))).bind fun bt224 => (if 0 ≤ bt219.1 then (if bt219.1 < (t213.length : Int) then (awardingbodylaw20_BubbleJudges.j1 kj5 l1 (t213.set (bt219.1 : Int).toNat bt224.1) t208 t209 t210) else (none)) else (none)))) = some r := by rw [if_pos rfl] at H; exact H
     clear H
     have H := H1
     clear H1
     replace H := Option.bind_eq_some_iff.mp H
     obtain ⟨⟨t219, t220⟩, A200, H⟩ := H
     replace H : ((awardingbodymake_Tape_Pick.f t205 t220 (([(-1), 10] : List Int))).bind fun bt224 => (if 0 ≤ t219 then (if t219 < (t213.length : Int) then (awardingbodylaw20_BubbleJudges.j1 kj5 l1 (t213.set (t219 : Int).toNat bt224.1) t208 t209 t210) else (none)) else (none))) = some r := H
     have A20 := Aside0.mk A200
     clear A200
     obtain ⟨y221, hy221⟩ : ∃ y_ : List Int, y_ = (([(-1), 10] : List Int)) := ⟨_, rfl⟩
     replace H : ((awardingbodymake_Tape_Pick.f t205 t220 y221).bind fun bt224 => (if 0 ≤ t219 then (if t219 < (t213.length : Int) then (awardingbodylaw20_BubbleJudges.j1 kj5 l1 (t213.set (t219 : Int).toNat bt224.1) t208 t209 t210) else (none)) else (none))) = some r := by first | (rw [hy221]; with_reducible exact H) | (have H2_ := (Option.bind_some _ _).symm.trans H; rw [hy221]; with_reducible exact H2_) | (have H2_ := (Option.bind_some _ _).symm.trans H; with_reducible exact H2_) | with_reducible exact H | (rw [hy221]; exact H) | exact H
     have Ny221 := Aside0.mk hy221
     clear hy221
     replace H := Option.bind_eq_some_iff.mp H
     obtain ⟨⟨t224, t225⟩, A210, H⟩ := H
     replace H : (if 0 ≤ t219 then (if t219 < (t213.length : Int) then (awardingbodylaw20_BubbleJudges.j1 kj5 l1 (t213.set (t219 : Int).toNat t224) t208 t209 t210) else (none)) else (none)) = some r := H
     have A21 := Aside0.mk A210
     clear A210
     by_cases c22 : 0 ≤ t219
     ·rw [if_pos c22] at H
      have c22b0 : decide (0 ≤ t219) = true := decide_eq_true c22
      clear c22
      (first | rw [c22b0] | (simp only [i64_w, i32_w]; rw [c22b0]) | skip)
      by_cases c23 : t219 < (t213.length : Int)
      ·rw [if_pos c23] at H
       have c23b0 : decide (t219 < (t213.length : Int)) = true := decide_eq_true c23
       clear c23
       obtain ⟨y226, hy226⟩ : ∃ y_ : List Int, y_ = (t213.set (t219 : Int).toNat t224) := ⟨_, rfl⟩
       replace H : (awardingbodylaw20_BubbleJudges.j1 kj5 l1 y226 t208 t209 t210) = some r := by first | (rw [hy226]; with_reducible exact H) | (have H2_ := (Option.bind_some _ _).symm.trans H; rw [hy226]; with_reducible exact H2_) | (have H2_ := (Option.bind_some _ _).symm.trans H; with_reducible exact H2_) | with_reducible exact H | (rw [hy226]; exact H) | exact H
       have Ny226 := Aside0.mk hy226
       clear hy226
       have H' := Aside0.mk H
       clear H
       obtain ⟨Ao25, co25, eo25⟩ := Kd.R_slice HO_7.out
       subst eo25
       go_wp2_with (first | ((with_reducible refine gate_callee (f := 20) rfl ?_); refine goesL_ (some 33) rfl rfl Try.func20 (by kernel_rfl) rfl #[.pointer (some ⟨g207, 0, none⟩), .int .i64 (t213.length : Int)] rfl (by (try simp only [List.map_toArray, List.map_cons, List.map_nil]); first | done | rfl | (simp only [List.length_drop, List.length_take]; rfl)) ?_; (with_reducible refine (awardingbodymake_Tape_Next.calls g207 t205 x208001_5 (t213.length : Int) t219 t220 w _ ?side1 ?side2 A20.out).mono ?_); (case side1 => repeat (first | (with_reducible first | exact HI207.out | apply IsS68.alloc | apply IsS68.drewN | apply IsS68.drew | apply IsS68.set_1 | refine IsS68.far ?_ NB207_212.out _) | exact HI207.out)); (case side2 => repeat (first | (with_reducible first | exact HB.out | apply below_alloc | apply pw_below_drewN | apply below_drew1 | refine below_set ?_ (IsS68.ge HI207.out) | refine below_set ?_ GE212.out) | exact HB.out)); rintro e w26 ⟨rfl, hi, hb, hk⟩; refine ⟨_, rfl, ?_⟩; have n0_ := Aside0.mk (Kd.R_mono (Kd.R_keep (IsS68.apart (show IsS68 w _ g207 t205 x208001_5 from by repeat (first | (with_reducible first | exact HI207.out | apply IsS68.alloc | apply IsS68.drewN | apply IsS68.drew | apply IsS68.set_1 | refine IsS68.far ?_ NB207_212.out _) | exact HI207.out)) (by (with_reducible repeat (first | apply Kd.R_alloc | apply Kd.R_drewN | apply Kd.R_drew)); exact HO_7.out) (by decide)) hk (fun _ h => h.2)) (fun _ h => h.1)); have n1_ := Aside0.mk (KeepBut.blk hk (g' := gb212) (o := .cells #[.int .i64 t208, .int .i64 t209, .int .i64 t210] 23 (0, 0)) (by (with_reducible repeat (first | refine blk_drewN ?_ _ | refine blk_drew ?_ | refine blk_alloc ?_ _)); exact BK212.out) NB212_207.out (by simp)); have n2_ := Aside0.mk (hb); have n3_ := Aside0.mk (hi); clear HO_7; clear BK212; clear HB; clear HI207; have HO_7 := n0_; have BK212 := n1_; have HB := n2_; have HI207 := n3_; clear n0_ n1_ n2_ n3_; (try clear hb); (try clear hb2); (try clear hk); (try clear hi)) | ((with_reducible refine gate_dst (N := 35) rfl ?_); refine Kd.R_lit (Kd.int .i64) _ 3 ?hg (N := 35) ?hd (xs := ([(-1), 10] : List Int)) (inner := [.int .i64 (-1), .int .i64 10]) (ok := fun _ => True) (okp := fun _ => True) ?hr ?hp (fun _ hk => hk) trivial (Below.refl _ _) (Nat.le_refl _) (by simp) ?_; (case hd => rfl); (case hg => rfl); (case hr => first | (go_simp; done) | (go_simp; rfl)); (case hp => exact (Reps.one (show Kd.M (Kd.int .i64) _ _ _ (-1) [.int .i64 (-1)] from rfl) (Reps.one (show Kd.M (Kd.int .i64) _ _ _ 10 [.int .i64 10] from rfl) (Reps.none _ _)))); intro v222 w27 ho28 hb hg_ hnew_; clear hg_ hnew_; (first | rw [← Ny221.out] at ho28 | (simp only [Int.reduceToNat] at ho28; rw [← Ny221.out] at ho28)); have n0_ := Aside0.mk (Kd.R_elder' (by (with_reducible repeat (first | apply Kd.R_alloc | apply Kd.R_drewN | apply Kd.R_drew)); exact HO_7.out) (Kd.R_base ho28) hb); have n1_ := Aside0.mk (Kd.R_lower (Kd.R_new' ho28 (Kd.R_lt (by (with_reducible repeat (first | apply Kd.R_alloc | apply Kd.R_drewN | apply Kd.R_drew)); exact HO_7.out))) (below_size (by repeat (first | (with_reducible first | exact HB.out | apply below_alloc | apply pw_below_drewN | apply below_drew1 | refine below_set ?_ (IsS68.ge HI207.out) | refine below_set ?_ GE212.out) | exact HB.out)))); have n2_ := Aside0.mk (blk_below (g := gb212) (o := .cells #[.int .i64 t208, .int .i64 t209, .int .i64 t210] 23 (0, 0)) (by (with_reducible repeat (first | refine blk_drewN ?_ _ | refine blk_drew ?_ | refine blk_alloc ?_ _)); exact BK212.out) hb); have n3_ := Aside0.mk (IsS68.below (by repeat (first | (with_reducible first | exact HI207.out | apply IsS68.alloc | apply IsS68.drewN | apply IsS68.drew | apply IsS68.set_1 | refine IsS68.far ?_ NB207_212.out _) | exact HI207.out)) hb); have n4_ := Aside0.mk (below_step (by repeat (first | (with_reducible first | exact HB.out | apply below_alloc | apply pw_below_drewN | apply below_drew1 | refine below_set ?_ (IsS68.ge HI207.out) | refine below_set ?_ GE212.out) | exact HB.out)) hb); clear HO_7; clear BK212; clear HI207; clear HB; have HO_7 := n0_; have HO223 := n1_; have BK212 := n2_; have HI207 := n3_; have HB := n4_; clear n0_ n1_ n2_ n3_ n4_; clear hb ho28; obtain ⟨Ao29, co29, eo29⟩ := Kd.R_slice HO223.out; subst eo29) | ((with_reducible refine gate_callee (f := 19) rfl ?_); refine goesL_ (some 36) rfl rfl Try.func19 (by kernel_rfl) rfl #[.pointer (some ⟨g207, 0, none⟩), .slice Ao29 y221.length co29] rfl (by (try simp only [List.map_toArray, List.map_cons, List.map_nil]); first | done | rfl | (simp only [List.length_drop, List.length_take]; rfl)) ?_; (with_reducible refine (awardingbodymake_Tape_Pick.calls g207 t205 t220 _ _ y221 t224 t225 w _ ?side1 ?side2 ?side3 ?side4 ?side5 A21.out).mono ?_); (case side1 => repeat (first | (with_reducible first | exact HI207.out | apply IsS68.alloc | apply IsS68.drewN | apply IsS68.drew | apply IsS68.set_1 | refine IsS68.far ?_ NB207_212.out _) | exact HI207.out)); (case side2 => repeat (first | (with_reducible first | exact HB.out | apply below_alloc | apply pw_below_drewN | apply below_drew1 | refine below_set ?_ (IsS68.ge HI207.out) | refine below_set ?_ GE212.out) | exact HB.out)); (case side3 => repeat (first | exact (Kd.R_reads' HO223.out).2.2 | (with_reducible refine Kd.C_alloc ?_ _) | (with_reducible refine Kd.C_drewN ?_ _) | (with_reducible refine Kd.C_drew ?_))); (case side4 => exact (Kd.R_reads' HO223.out).2.1); (case side5 => exact far_slice (IsS68.own_ne HI207.out HO223.out (by decide))); rintro e w30 ⟨rfl, hi, hb, hk⟩; refine ⟨_, rfl, ?_⟩; have n0_ := Aside0.mk (Kd.R_mono (Kd.R_keep (IsS68.apart (show IsS68 w _ g207 t205 t220 from by repeat (first | (with_reducible first | exact HI207.out | apply IsS68.alloc | apply IsS68.drewN | apply IsS68.drew | apply IsS68.set_1 | refine IsS68.far ?_ NB207_212.out _) | exact HI207.out)) (by (with_reducible repeat (first | apply Kd.R_alloc | apply Kd.R_drewN | apply Kd.R_drew)); exact HO_7.out) (by decide)) hk (fun _ h => h.2)) (fun _ h => h.1)); have n1_ := Aside0.mk (KeepBut.blk hk (g' := gb212) (o := .cells #[.int .i64 t208, .int .i64 t209, .int .i64 t210] 23 (0, 0)) (by (with_reducible repeat (first | refine blk_drewN ?_ _ | refine blk_drew ?_ | refine blk_alloc ?_ _)); exact BK212.out) NB212_207.out (by simp)); have n2_ := Aside0.mk (Kd.R_mono (Kd.R_keep (IsS68.apart (show IsS68 w _ g207 t205 t220 from by repeat (first | (with_reducible first | exact HI207.out | apply IsS68.alloc | apply IsS68.drewN | apply IsS68.drew | apply IsS68.set_1 | refine IsS68.far ?_ NB207_212.out _) | exact HI207.out)) (by (with_reducible repeat (first | apply Kd.R_alloc | apply Kd.R_drewN | apply Kd.R_drew)); exact HO223.out) (by decide)) hk (fun _ h => h.2)) (fun _ h => h.1)); have n3_ := Aside0.mk (hb); have n4_ := Aside0.mk (hi); clear HO_7; clear BK212; clear HO223; clear HB; clear HI207; have HO_7 := n0_; have BK212 := n1_; have HO223 := n2_; have HB := n3_; have HI207 := n4_; clear n0_ n1_ n2_ n3_ n4_; (try clear hb); (try clear hb2); (try clear hk); (try clear hi); have p24 : 0 ≤ (t219 : Int) := of_decide_eq_true (by first | (with_reducible assumption) | assumption); have q24 : (t219 : Int) < ((t213.length : Int) : Int) := of_decide_eq_true (by first | (with_reducible assumption) | assumption); obtain ⟨go24, co24, eo24, gb24, gl24, cl24, HG24⟩ := Kd.R_form HO_7.out (by omega); (first | cases eo24 | (injection eo24 with ea_ en_ ec_; (first | subst ea_ | (injection ea_ with ea_; subst ea_)); subst ec_; clear en_)); have GB24 := Aside0.mk gb24; have GG24 := Aside0.mk HG24; clear gb24 gl24 HG24; obtain ⟨hx24_0, hf24_0⟩ := Kd.R_celln 0 HO_7.out (t219 : Int) p24 q24; replace p24 := eq_true p24; replace q24 := eq_true q24; have n_ := Aside0.mk (Kd.R_mono (ok' := (fun k_ => some k_ ≠ (.slice Ao29 y221.length co29 : Value).ownBlock)) HO_7.out (fun k_ hk => hk.2)); clear HO_7; have HO_7 := n_; clear n_; obtain ⟨hy31_, hz31_⟩ := Kd.R_celln 0 HO_7.out (t219 : Int) (of_decide_eq_true (by first | (with_reducible assumption) | assumption)) (of_decide_eq_true (by first | (with_reducible assumption) | assumption)); have HP31 := Kd.R_putg HO_7.out (t219 : Int) t224) | ((with_reducible refine gate_store (t := 3) (p := 37) rfl ?_); refine store_event (t := 3) (p := 37) (v := ?vo_w32) (w1 := (w30.setCell ⟨go24, (t219 : Int).toNat, none⟩ (.int .i64 t224))) ?hg ?ho ?hn ?hr ?_; (case ho => rfl); (case hg => rfl); (case hn => rfl); (case hr => first | (go_simp; done) | (go_simp; rfl)); intro w32 hw; have hg : w30.grownBy w32 (some go24) := (by rw [hw]; exact HP31.2); have hp_ : Kd.R (Kd.int .i64) 3 w32 w.heap.size (fun k_ => some k_ ≠ (.slice Ao29 y221.length co29 : Value).ownBlock) (.slice (some ⟨go24, 0, none⟩) t213.length co25) y226 := (by rw [hw, Ny226.out]; exact HP31.1); clear HP31; have n0_ := Aside0.mk (hp_); have n1_ := Aside0.mk (blk_grown (g := gb212) (o := .cells #[.int .i64 t208, .int .i64 t209, .int .i64 t210] 23 (0, 0)) (by (with_reducible repeat (first | refine blk_drewN ?_ _ | refine blk_drew ?_ | refine blk_alloc ?_ _)); exact BK212.out) hg (Kd.R_ne HO_7.out BK212.out (by decide))); have n2_ := Aside0.mk (IsS68.grown (by repeat (first | (with_reducible first | exact HI207.out | apply IsS68.alloc | apply IsS68.drewN | apply IsS68.drew | apply IsS68.set_1 | refine IsS68.far ?_ NB207_212.out _) | exact HI207.out)) hg (IsS68.own_ne HI207.out HO_7.out (by decide))); have n3_ := Aside0.mk (Kd.R_after (v := (.slice (some ⟨go24, 0, none⟩) t213.length co25)) (v1 := (.slice (some ⟨go24, 0, none⟩) t213.length co25)) (ok := (fun _ => True)) (by (with_reducible repeat (first | apply Kd.R_alloc | apply Kd.R_drewN | apply Kd.R_drew)); exact HO223.out) hg (.inl rfl)); have n4_ := Aside0.mk ((by rw [hw]; exact below_set (HB.out) GB24.out : Below w.heap.size w w32)); clear HO_7; clear BK212; clear HI207; clear HO223; clear HB; have HO_7 := n0_; have BK212 := n1_; have HI207 := n2_; have HO223 := n3_; have HB := n4_; clear n0_ n1_ n2_ n3_ n4_; clear hg hw hp_))
       go_meet
       case rel => exact ⟨_, (y226), H', ⟨by have := HJ5.out; first | omega | exact Nat.le_refl _⟩, ⟨by (with_reducible repeat (first | apply Kd.R_alloc | apply Kd.R_drewN | apply Kd.R_drew)); exact Kd.R_mono HO_7.out (fun _ hk => trivial)⟩, ⟨by (with_reducible repeat (first | refine blk_drewN ?_ _ | refine blk_drew ?_ | refine blk_alloc ?_ _)); exact BK212.out⟩, ⟨by repeat (first | (with_reducible first | exact HB.out | apply below_alloc | apply pw_below_drewN | apply below_drew1 | refine below_set ?_ (IsS68.ge HI207.out) | refine below_set ?_ GE212.out) | exact HB.out)⟩⟩
      ·rw [if_neg c23] at H
       exact absurd H (by simp)
     ·rw [if_neg c22] at H
      exact absurd H (by simp)
    ·replace c19 := Bool.eq_false_iff.mpr c19
     subst c19
     have H1 : (awardingbodylaw20_BubbleJudges.j1 kj5 l1 t213 t208 t209 t210) = some r := by rw [if_neg (show ¬ (false = true) by decide)] at H; exact H
     clear H
     have H := H1
     clear H1
     have H' := Aside0.mk H
     clear H
     go_wp2
     go_meet
     case rel => exact ⟨_, (t213), H', ⟨by have := HJ5.out; first | omega | exact Nat.le_refl _⟩, ⟨by (with_reducible repeat (first | apply Kd.R_alloc | apply Kd.R_drewN | apply Kd.R_drew)); exact HO_7.out⟩, ⟨by (with_reducible repeat (first | refine blk_drewN ?_ _ | refine blk_drew ?_ | refine blk_alloc ?_ _)); exact BK212.out⟩, ⟨by repeat (first | (with_reducible first | exact HB.out | apply below_alloc | apply pw_below_drewN | apply below_drew1 | refine below_set ?_ (IsS68.ge HI207.out) | refine below_set ?_ GE212.out) | exact HB.out)⟩⟩
   case rest =>
    clear HC18
    try clear c1
    try clear c2
    try clear p2
    try clear q2
    try clear hx2
    try clear hf2
    try clear c4
    try clear c10
    try clear c13
    try clear c13b0
    try clear c13b1
    try clear c15
    try clear c16
    try clear c17
    try clear c19
    try clear c20
    try clear c22
    try clear c22b0
    try clear c23
    try clear c23b0
    try clear p24
    try clear q24
    try clear hx24
    try clear hf24
    try clear hcz11_0
    try clear hcz11_1
    try clear hcz11_2
    try clear hfz11_0
    try clear hfz11_1
    try clear hfz11_2
    try clear hx24_0
    try clear p2
    try clear p24
    try clear q24
    obtain ⟨kq, x7_17, HA, HJ17, HO_7, BK212, HB⟩ := hcut
    cases kq with
    | zero => exact absurd HA.out (by simp [awardingbodylaw20_BubbleJudges.j1])
    | succ kj17 =>
     have H := HA.out
     clear HA
     simp only [awardingbodylaw20_BubbleJudges.j1] at H
     by_cases c33 : (l1.length : Int) > 20
     ·rw [if_pos c33] at H
      have c33b0 : decide (20 < (l1.length : Int)) = true := decide_eq_true c33
      have c33b1 : decide (20 < l1.length) = true := decide_eq_true (by omega)
      clear c33
      obtain rfl := Option.some.inj H
      go_wp2
      go_ret
      exact ⟨by first | rfl | (simp [errW_none, errW_some] <;> rfl) | (simp [*, errW_none, errW_some] <;> rfl), by repeat (first | (with_reducible first | exact HB.out | apply below_alloc | apply pw_below_drewN | apply below_drew1 | refine below_set ?_ GE212.out) | exact HB.out)⟩
     ·rw [if_neg c33] at H
      have c33b0 : decide (20 < (l1.length : Int)) = false := decide_eq_false c33
      have c33b1 : decide (20 < l1.length) = false := decide_eq_false (by omega)
      clear c33
      replace H := Option.bind_eq_some_iff.mp H
      obtain ⟨⟨t227, t228⟩, A340, H⟩ := H
      replace H : ((awardingbodyref20_Judge.f kj17 t208 t209 t210 x7_17).bind fun bt229 => ((bubble_Judge.f kj17 t208 t209 t210 l1).bind fun bt231 => ((awardingbodyref20_Judge.f kj17 t208 t209 t210 l1).bind fun bt233 => (if t227 = bt229.1 then (if t228 = bt229.2 then (if bt231.1 = bt233.1 then (if bt231.2 = bt233.2 then ((awardingbodylaw20_awake.f kj17).bind fun t235 => (some t235)) else (none)) else (none)) else (none)) else (none))))) = some r := H
      have A34 := Aside0.mk A340
      clear A340
      replace H := Option.bind_eq_some_iff.mp H
      obtain ⟨⟨t229, t230⟩, A350, H⟩ := H
      replace H : ((bubble_Judge.f kj17 t208 t209 t210 l1).bind fun bt231 => ((awardingbodyref20_Judge.f kj17 t208 t209 t210 l1).bind fun bt233 => (if t227 = t229 then (if t228 = t230 then (if bt231.1 = bt233.1 then (if bt231.2 = bt233.2 then ((awardingbodylaw20_awake.f kj17).bind fun t235 => (some t235)) else (none)) else (none)) else (none)) else (none)))) = some r := H
      have A35 := Aside0.mk A350
      clear A350
      replace H := Option.bind_eq_some_iff.mp H
      obtain ⟨⟨t231, t232⟩, A360, H⟩ := H
      replace H : ((awardingbodyref20_Judge.f kj17 t208 t209 t210 l1).bind fun bt233 => (if t227 = t229 then (if t228 = t230 then (if t231 = bt233.1 then (if t232 = bt233.2 then ((awardingbodylaw20_awake.f kj17).bind fun t235 => (some t235)) else (none)) else (none)) else (none)) else (none))) = some r := H
      have A36 := Aside0.mk A360
      clear A360
      replace H := Option.bind_eq_some_iff.mp H
      obtain ⟨⟨t233, t234⟩, A370, H⟩ := H
      replace H : (if t227 = t229 then (if t228 = t230 then (if t231 = t233 then (if t232 = t234 then ((awardingbodylaw20_awake.f kj17).bind fun t235 => (some t235)) else (none)) else (none)) else (none)) else (none)) = some r := H
      have A37 := Aside0.mk A370
      clear A370
      by_cases c38 : t227 = t229
      ·rw [if_pos c38] at H
       have c38b0 : (t227 == t229) = true := beq_iff_eq.mpr c38
       have c38b1 : (t227 != t229) = false := bne_eq_false_iff_eq.mpr c38
       clear c38
       by_cases c39 : t228 = t230
       ·rw [if_pos c39] at H
        have c39b0 : (t228 == t230) = true := beq_iff_eq.mpr c39
        have c39b1 : (t228 != t230) = false := bne_eq_false_iff_eq.mpr c39
        clear c39
        by_cases c40 : t231 = t233
        ·rw [if_pos c40] at H
         have c40b0 : (t231 == t233) = true := beq_iff_eq.mpr c40
         have c40b1 : (t231 != t233) = false := bne_eq_false_iff_eq.mpr c40
         clear c40
         by_cases c41 : t232 = t234
         ·rw [if_pos c41] at H
          have c41b0 : (t232 == t234) = true := beq_iff_eq.mpr c41
          have c41b1 : (t232 != t234) = false := bne_eq_false_iff_eq.mpr c41
          clear c41
          replace H := Option.bind_eq_some_iff.mp H
          obtain ⟨t235, A420, H⟩ := H
          replace H : (some t235) = some r := H
          have A42 := Aside0.mk A420
          clear A420
          obtain rfl := Option.some.inj H
          have hcz43_0 : wc.cell? ⟨gb212, 0, none⟩ = some (.int .i64 t208) := (blk_cell BK212.out 0).trans rfl
          have hcz43_1 : wc.cell? ⟨gb212, 1, none⟩ = some (.int .i64 t209) := (blk_cell BK212.out 1).trans rfl
          have hcz43_2 : wc.cell? ⟨gb212, 2, none⟩ = some (.int .i64 t210) := (blk_cell BK212.out 2).trans rfl
          have hfz43_0 := blk_frozen BK212.out 0
          have hfz43_1 := blk_frozen BK212.out 1
          have hfz43_2 := blk_frozen BK212.out 2
          obtain ⟨Ao44, co44, eo44⟩ := Kd.R_slice HO_7.out
          subst eo44
          go_wp2_with (first | ((with_reducible refine gate_callee (f := 21) rfl ?_); refine goesL_ (some 44) rfl rfl Try.func21 (by kernel_rfl) rfl #[.agg #[.int .i64 t208, .int .i64 t209, .int .i64 t210], .slice Ao44 x7_17.length co44] rfl (by (try simp only [List.map_toArray, List.map_cons, List.map_nil]); first | done | rfl | (simp only [List.length_drop, List.length_take]; rfl)) ?_; (with_reducible refine (bubble_Judge.calls kj17 t208 t209 t210 _ _ x7_17 t227 t228 _ ?side1 ?side2 A34.out).mono ?_); (case side1 => repeat (first | exact (Kd.R_reads' HO_7.out).2.2 | (with_reducible refine Kd.C_alloc ?_ _) | (with_reducible refine Kd.C_drewN ?_ _) | (with_reducible refine Kd.C_drew ?_))); (case side2 => exact (Kd.R_reads' HO_7.out).2.1); rintro e w45 ⟨rfl, hb⟩; refine ⟨_, rfl, ?_⟩; have n0_ := Aside0.mk (Kd.R_below (by (with_reducible repeat (first | apply Kd.R_alloc | apply Kd.R_drewN | apply Kd.R_drew)); exact HO_7.out) hb); have n1_ := Aside0.mk (blk_below (g := gb212) (o := .cells #[.int .i64 t208, .int .i64 t209, .int .i64 t210] 23 (0, 0)) (by (with_reducible repeat (first | refine blk_drewN ?_ _ | refine blk_drew ?_ | refine blk_alloc ?_ _)); exact BK212.out) hb); have n2_ := Aside0.mk (below_step (by repeat (first | (with_reducible first | exact HB.out | apply below_alloc | apply pw_below_drewN | apply below_drew1 | refine below_set ?_ GE212.out) | exact HB.out)) hb); clear HO_7; clear BK212; clear HB; have HO_7 := n0_; have BK212 := n1_; have HB := n2_; clear n0_ n1_ n2_; (try clear hb); (try clear hb2); (try clear hk); (try clear hi); have hcz46_0 : w45.cell? ⟨gb212, 0, none⟩ = some (.int .i64 t208) := (blk_cell BK212.out 0).trans rfl; have hcz46_1 : w45.cell? ⟨gb212, 1, none⟩ = some (.int .i64 t209) := (blk_cell BK212.out 1).trans rfl; have hcz46_2 : w45.cell? ⟨gb212, 2, none⟩ = some (.int .i64 t210) := (blk_cell BK212.out 2).trans rfl; have hfz46_0 := blk_frozen BK212.out 0; have hfz46_1 := blk_frozen BK212.out 1; have hfz46_2 := blk_frozen BK212.out 2) | ((with_reducible refine gate_callee (f := 22) rfl ?_); refine goesL_ (some 50) rfl rfl Try.func22 (by kernel_rfl) rfl #[.agg #[.int .i64 t208, .int .i64 t209, .int .i64 t210], .slice Ao44 x7_17.length co44] rfl (by (try simp only [List.map_toArray, List.map_cons, List.map_nil]); first | done | rfl | (simp only [List.length_drop, List.length_take]; rfl)) ?_; (with_reducible refine (awardingbodyref20_Judge.calls kj17 t208 t209 t210 _ _ x7_17 t229 t230 _ ?side1 ?side2 A35.out).mono ?_); (case side1 => repeat (first | exact (Kd.R_reads' HO_7.out).2.2 | (with_reducible refine Kd.C_alloc ?_ _) | (with_reducible refine Kd.C_drewN ?_ _) | (with_reducible refine Kd.C_drew ?_))); (case side2 => exact (Kd.R_reads' HO_7.out).2.1); rintro e w47 ⟨rfl, hb⟩; refine ⟨_, rfl, ?_⟩; have n0_ := Aside0.mk (Kd.R_below (by (with_reducible repeat (first | apply Kd.R_alloc | apply Kd.R_drewN | apply Kd.R_drew)); exact HO_7.out) hb); have n1_ := Aside0.mk (blk_below (g := gb212) (o := .cells #[.int .i64 t208, .int .i64 t209, .int .i64 t210] 23 (0, 0)) (by (with_reducible repeat (first | refine blk_drewN ?_ _ | refine blk_drew ?_ | refine blk_alloc ?_ _)); exact BK212.out) hb); have n2_ := Aside0.mk (below_step (by repeat (first | (with_reducible first | exact HB.out | apply below_alloc | apply pw_below_drewN | apply below_drew1 | refine below_set ?_ GE212.out) | exact HB.out)) hb); clear HO_7; clear BK212; clear HB; have HO_7 := n0_; have BK212 := n1_; have HB := n2_; clear n0_ n1_ n2_; (try clear hb); (try clear hb2); (try clear hk); (try clear hi); have hcz48_0 : w47.cell? ⟨gb212, 0, none⟩ = some (.int .i64 t208) := (blk_cell BK212.out 0).trans rfl; have hcz48_1 : w47.cell? ⟨gb212, 1, none⟩ = some (.int .i64 t209) := (blk_cell BK212.out 1).trans rfl; have hcz48_2 : w47.cell? ⟨gb212, 2, none⟩ = some (.int .i64 t210) := (blk_cell BK212.out 2).trans rfl; have hfz48_0 := blk_frozen BK212.out 0; have hfz48_1 := blk_frozen BK212.out 1; have hfz48_2 := blk_frozen BK212.out 2) | ((with_reducible refine gate_callee (f := 21) rfl ?_); refine goesL_ (some 56) rfl rfl Try.func21 (by kernel_rfl) rfl #[.agg #[.int .i64 t208, .int .i64 t209, .int .i64 t210], .slice A1 l1.length c1] rfl (by (try simp only [List.map_toArray, List.map_cons, List.map_nil]); first | done | rfl | (simp only [List.length_drop, List.length_take]; rfl)) ?_; (with_reducible refine (bubble_Judge.calls kj17 t208 t209 t210 _ _ l1 t231 t232 _ ?side1 ?side2 A36.out).mono ?_); (case side1 => repeat (first | exact (Kd.C_below HR1.out HB.out) | (with_reducible refine Kd.C_alloc ?_ _) | (with_reducible refine Kd.C_drewN ?_ _) | (with_reducible refine Kd.C_drew ?_))); (case side2 => exact HC1.out); rintro e w49 ⟨rfl, hb⟩; refine ⟨_, rfl, ?_⟩; have n0_ := Aside0.mk (Kd.R_below (by (with_reducible repeat (first | apply Kd.R_alloc | apply Kd.R_drewN | apply Kd.R_drew)); exact HO_7.out) hb); have n1_ := Aside0.mk (blk_below (g := gb212) (o := .cells #[.int .i64 t208, .int .i64 t209, .int .i64 t210] 23 (0, 0)) (by (with_reducible repeat (first | refine blk_drewN ?_ _ | refine blk_drew ?_ | refine blk_alloc ?_ _)); exact BK212.out) hb); have n2_ := Aside0.mk (below_step (by repeat (first | (with_reducible first | exact HB.out | apply below_alloc | apply pw_below_drewN | apply below_drew1 | refine below_set ?_ GE212.out) | exact HB.out)) hb); clear HO_7; clear BK212; clear HB; have HO_7 := n0_; have BK212 := n1_; have HB := n2_; clear n0_ n1_ n2_; (try clear hb); (try clear hb2); (try clear hk); (try clear hi); have hcz50_0 : w49.cell? ⟨gb212, 0, none⟩ = some (.int .i64 t208) := (blk_cell BK212.out 0).trans rfl; have hcz50_1 : w49.cell? ⟨gb212, 1, none⟩ = some (.int .i64 t209) := (blk_cell BK212.out 1).trans rfl; have hcz50_2 : w49.cell? ⟨gb212, 2, none⟩ = some (.int .i64 t210) := (blk_cell BK212.out 2).trans rfl; have hfz50_0 := blk_frozen BK212.out 0; have hfz50_1 := blk_frozen BK212.out 1; have hfz50_2 := blk_frozen BK212.out 2) | ((with_reducible refine gate_callee (f := 22) rfl ?_); refine goesL_ (some 62) rfl rfl Try.func22 (by kernel_rfl) rfl #[.agg #[.int .i64 t208, .int .i64 t209, .int .i64 t210], .slice A1 l1.length c1] rfl (by (try simp only [List.map_toArray, List.map_cons, List.map_nil]); first | done | rfl | (simp only [List.length_drop, List.length_take]; rfl)) ?_; (with_reducible refine (awardingbodyref20_Judge.calls kj17 t208 t209 t210 _ _ l1 t233 t234 _ ?side1 ?side2 A37.out).mono ?_); (case side1 => repeat (first | exact (Kd.C_below HR1.out HB.out) | (with_reducible refine Kd.C_alloc ?_ _) | (with_reducible refine Kd.C_drewN ?_ _) | (with_reducible refine Kd.C_drew ?_))); (case side2 => exact HC1.out); rintro e w51 ⟨rfl, hb⟩; refine ⟨_, rfl, ?_⟩; have n0_ := Aside0.mk (Kd.R_below (by (with_reducible repeat (first | apply Kd.R_alloc | apply Kd.R_drewN | apply Kd.R_drew)); exact HO_7.out) hb); have n1_ := Aside0.mk (blk_below (g := gb212) (o := .cells #[.int .i64 t208, .int .i64 t209, .int .i64 t210] 23 (0, 0)) (by (with_reducible repeat (first | refine blk_drewN ?_ _ | refine blk_drew ?_ | refine blk_alloc ?_ _)); exact BK212.out) hb); have n2_ := Aside0.mk (below_step (by repeat (first | (with_reducible first | exact HB.out | apply below_alloc | apply pw_below_drewN | apply below_drew1 | refine below_set ?_ GE212.out) | exact HB.out)) hb); clear HO_7; clear BK212; clear HB; have HO_7 := n0_; have BK212 := n1_; have HB := n2_; clear n0_ n1_ n2_; (try clear hb); (try clear hb2); (try clear hk); (try clear hi)) | (go_at_call 14; (with_reducible refine (awardingbodylaw20_awake.calls kj17  t235 _ A42.out).mono ?_); rintro e w52 ⟨rfl, hb⟩; have n0_ := Aside0.mk (Kd.R_below (by (with_reducible repeat (first | apply Kd.R_alloc | apply Kd.R_drewN | apply Kd.R_drew)); exact HO_7.out) hb); have n1_ := Aside0.mk (blk_below (g := gb212) (o := .cells #[.int .i64 t208, .int .i64 t209, .int .i64 t210] 23 (0, 0)) (by (with_reducible repeat (first | refine blk_drewN ?_ _ | refine blk_drew ?_ | refine blk_alloc ?_ _)); exact BK212.out) hb); have n2_ := Aside0.mk (below_step (by repeat (first | (with_reducible first | exact HB.out | apply below_alloc | apply pw_below_drewN | apply below_drew1 | refine below_set ?_ GE212.out) | exact HB.out)) hb); clear HO_7; clear BK212; clear HB; have HO_7 := n0_; have BK212 := n1_; have HB := n2_; clear n0_ n1_ n2_; (try clear hb); (try clear hb2); (try clear hk); (try clear hi)))
          go_ret
          exact ⟨by first | rfl | (simp [errW_none, errW_some] <;> rfl) | (simp [*, errW_none, errW_some] <;> rfl), by repeat (first | (with_reducible first | exact HB.out | apply below_alloc | apply pw_below_drewN | apply below_drew1 | refine below_set ?_ GE212.out) | exact HB.out)⟩
         ·rw [if_neg c41] at H
          exact absurd H (by simp)
        ·rw [if_neg c40] at H
         exact absurd H (by simp)
       ·rw [if_neg c39] at H
        exact absurd H (by simp)
      ·rw [if_neg c38] at H
       exact absurd H (by simp)

/-- THE ONE PURE STATEMENT of awardingbodylaw20_BubbleJudges: yours. -/
def awardingbodylaw20_BubbleJudges.Pure : Prop := ∀ (l0 : List Int) (l1 : List Int), l0.length ≤ maxLen → l0.length * 8 ≤ 140737488351232 → (∀ x ∈ l0, (Lit.int .i64 x).wf = true) → l1.length ≤ maxLen → l1.length * 8 ≤ 140737488351232 → (∀ x ∈ l1, (Lit.int .i64 x).wf = true) → ∃ k, awardingbodylaw20_BubbleJudges.f k l0 l1 = some true
theorem awardingbodylaw20_BubbleJudges.walk (P : awardingbodylaw20_BubbleJudges.Pure) (a0 : Option Addr) (len0 cap0 : Nat) (z0 : List Int) (a1 : Option Addr) (len1 cap1 : Nat) (z1 : List Int) (w : World) (w0 : (a0 = none ∧ len0 = 0 ∧ cap0 = 0 ∧ z0 = []) ∨ ∃ x, a0 = some x ∧ len0 ≤ cap0 ∧ cap0 ≤ maxLen ∧ z0.length = cap0 ∧ (∀ i, i < z0.length → w.cell? (x.add i) = some (.int .i64 (z0.getD i 0))) ∧ ∀ n ∈ z0, (Lit.int .i64 n).wf = true) (y0 : len0 * 8 ≤ 140737488351232) (w1 : (a1 = none ∧ len1 = 0 ∧ cap1 = 0 ∧ z1 = []) ∨ ∃ x, a1 = some x ∧ len1 ≤ cap1 ∧ cap1 ≤ maxLen ∧ z1.length = cap1 ∧ (∀ i, i < z1.length → w.cell? (x.add i) = some (.int .i64 (z1.getD i 0))) ∧ ∀ n ∈ z1, (Lit.int .i64 n).wf = true) (y1 : len1 * 8 ≤ 140737488351232) :
  Calls Try.prog 4 #[.slice a0 len0 cap0, .slice a1 len1 cap1] w fun e w' => e = .returned (.bool true) ∧ Below w.heap.size w w' := by
 obtain ⟨l0, rfl, hr0, hm0, hw0, hc0⟩ := ReadsInt.ofRowC w0
 obtain ⟨l1, rfl, hr1, hm1, hw1, hc1⟩ := ReadsInt.ofRowC w1
 obtain ⟨k, h⟩ := P l0 l1 hm0 y0 hw0 hm1 y1 hw1
 refine (awardingbodylaw20_BubbleJudges.calls k _ _ l0 _ _ l1 true w (Kd.C_of_reads (d := (0 : Int)) (h1 := fun _ => rfl) hr0) hc0 (Kd.C_of_reads (d := (0 : Int)) (h1 := fun _ => rfl) hr1) hc1 h).mono ?_
 rintro e w' ⟨rfl, hd⟩
 exact ⟨rfl, hd⟩

end Go.Proofs.Ythbmpjglkbhhgaa.Print
