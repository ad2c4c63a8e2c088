-- Printed by a program of this session (wip/own_print.py) out of the translation; Lean checks it.
import Derived.Test.YtinmdoemkejanaaPrint0
import Derived.Test.YtinmdoemkejanaaPrint9
import Derived.Test.YtinmdoemkejanaaPrint10
import Derived.Test.YtinmdoemkejanaaPrint26
namespace Go.Proofs.Ytinmdoemkejanaa.Print
open Go.RowKit Go.Proofs.YtinmdoemkejanaaW.PrintWords Go.Proofs.YtinmdoemkejanaaW.PrintLast Go.Proofs.YtinmdoemkejanaaW.PrintMore
attribute [local go_sem] max2_int min2_int max_two min_two max_three min_three max_four min_four   -- for this text's walks alone
set_option linter.unusedVariables false
set_option linter.unusedSimpArgs false

/-! ### awardingbodymake_Tape_LoosePaper: function 33 -/
mutual
def awardingbodymake_Tape_LoosePaper.j0 : Nat → Bool → List Int → Int → Int → Int → List (S23) → Option (Int × Int × (List (S23)) × Int)
  | 0, _, _, _, _, _, _ => none
  | k + 1, x19, x1000, x1001, x558000, x558001, x558002 => if x19 = true then ((awardingbodymake_Tape_Next.f x1000 x1001 5).bind fun bt560 => (if bt560.1 = 0 then ((awardingbodymake_Tape_Wild.f x1000 bt560.2).bind fun bt562 => (some (bt562.1, x558001, x558002, bt562.2))) else (if bt560.1 = 1 then ((awardingbodymake_Tape_Range.f x1000 bt560.2 (-1) 5).bind fun bt564 => (some (x558000, bt564.1, x558002, bt564.2))) else (if bt560.1 = 2 then (some (x558000, x558001, ([] : List (S23)), bt560.2)) else (if bt560.1 = 3 then ((awardingbodymake_Tape_Part.f k x1000 bt560.2 1).bind fun bt566 => (if x558002.length < 2932031007402 then (some (x558000, x558001, (x558002 ++ [(⟨bt566.1, bt566.2.1, bt566.2.2.1, bt566.2.2.2.1, bt566.2.2.2.2.1, bt566.2.2.2.2.2.1⟩ : S23)]), bt566.2.2.2.2.2.2)) else (none))) else (awardingbodymake_Tape_LoosePaper.l0 k 0 x1000 bt560.2 x558000 x558001 x558002)))))) else (some (x558000, x558001, x558002, x1001))
def awardingbodymake_Tape_LoosePaper.l0 : Nat → Int → List Int → Int → Int → Int → List (S23) → Option (Int × Int × (List (S23)) × Int)
  | 0, _, _, _, _, _, _ => none
  | k + 1, x6, x1000, x1001, x558000, x558001, x558002 => if x6 < 6 then (if x558002.length < 2932031007402 then (awardingbodymake_Tape_LoosePaper.l0 k (wrap64 (x6 + 1)) x1000 x1001 x558000 x558001 (x558002 ++ [(⟨1, 40, 0, 0, 0, 0⟩ : S23)])) else (none)) else (some (x558000, x558001, x558002, x1001))
end
def awardingbodymake_Tape_LoosePaper.f (k : Nat) (s0_0 : List Int) (s0_1 : Int) (a1 : Int) : Option (Int × Int × (List (S23)) × Int) := (awardingbodymake_Tape_Range.f s0_0 s0_1 0 3).bind fun bt547 => ((awardingbodymake_Tape_Next.f s0_0 bt547.2 3).bind fun bt549 => ((awardingbodymake_Tape_Paper.f k s0_0 bt549.2 bt547.1 bt549.1).bind fun bt551 => (if a1 > 0 then ((awardingbodymake_Tape_One.f s0_0 bt551.2.2.2 a1).bind fun bt558 => (awardingbodymake_Tape_LoosePaper.j0 k bt558.1 s0_0 bt558.2 bt551.1 bt551.2.1 bt551.2.2.1)) else (awardingbodymake_Tape_LoosePaper.j0 k false s0_0 bt551.2.2.2 bt551.1 bt551.2.1 bt551.2.2.1))))
theorem awardingbodymake_Tape_LoosePaper.mono_l : ∀ k, (∀ y0 y1 y2 y3 y4 y5, LeO (awardingbodymake_Tape_LoosePaper.j0 k y0 y1 y2 y3 y4 y5) (awardingbodymake_Tape_LoosePaper.j0 (k + 1) y0 y1 y2 y3 y4 y5)) ∧ (∀ y0 y1 y2 y3 y4 y5, LeO (awardingbodymake_Tape_LoosePaper.l0 k y0 y1 y2 y3 y4 y5) (awardingbodymake_Tape_LoosePaper.l0 (k + 1) y0 y1 y2 y3 y4 y5))
  | 0 => ⟨fun _ _ _ _ _ _ r h => by simp [awardingbodymake_Tape_LoosePaper.j0] at h, fun _ _ _ _ _ _ r h => by simp [awardingbodymake_Tape_LoosePaper.l0] at h⟩
  | k + 1 => by
    obtain ⟨ih0, ih1⟩ := awardingbodymake_Tape_LoosePaper.mono_l k
    refine ⟨?_, ?_⟩
    · intro y0 y1 y2 y3 y4 y5
      unfold awardingbodymake_Tape_LoosePaper.j0
      repeat' first
      | (with_reducible exact ih0 _ _ _ _ _ _)
      | (with_reducible exact ih1 _ _ _ _ _ _)
      | (with_reducible exact awardingbodymake_Tape_Paper.mono _ _ _ _ _)
      | (with_reducible exact awardingbodymake_Tape_Part.mono _ _ _ _)
      | (with_reducible exact LeO.refl _)
      | (with_reducible exact LeO.none _)
      | (with_reducible refine LeO.ite ?_ ?_)
      | (with_reducible refine LeO.bind ?_ (fun _ => ?_))
      | exact ih0 _ _ _ _ _ _
      | exact ih1 _ _ _ _ _ _
      | exact awardingbodymake_Tape_Paper.mono _ _ _ _ _
      | exact awardingbodymake_Tape_Part.mono _ _ _ _
      | exact LeO.none _
      | refine LeO.ite ?_ ?_
      | refine LeO.bind ?_ (fun _ => ?_)
    · intro y0 y1 y2 y3 y4 y5
      unfold awardingbodymake_Tape_LoosePaper.l0
      repeat' first
      | (with_reducible exact ih0 _ _ _ _ _ _)
      | (with_reducible exact ih1 _ _ _ _ _ _)
      | (with_reducible exact awardingbodymake_Tape_Paper.mono _ _ _ _ _)
      | (with_reducible exact awardingbodymake_Tape_Part.mono _ _ _ _)
      | (with_reducible exact LeO.refl _)
      | (with_reducible exact LeO.none _)
      | (with_reducible refine LeO.ite ?_ ?_)
      | (with_reducible refine LeO.bind ?_ (fun _ => ?_))
      | exact ih0 _ _ _ _ _ _
      | exact ih1 _ _ _ _ _ _
      | exact awardingbodymake_Tape_Paper.mono _ _ _ _ _
      | exact awardingbodymake_Tape_Part.mono _ _ _ _
      | exact LeO.none _
      | refine LeO.ite ?_ ?_
      | refine LeO.bind ?_ (fun _ => ?_)
theorem awardingbodymake_Tape_LoosePaper.mono : ∀ a0 a1 a2 k, LeO (awardingbodymake_Tape_LoosePaper.f k a0 a1 a2) (awardingbodymake_Tape_LoosePaper.f (k + 1) a0 a1 a2) := by
  intro a0 a1 a2 k
  obtain ⟨ih0, ih1⟩ := awardingbodymake_Tape_LoosePaper.mono_l k
  unfold awardingbodymake_Tape_LoosePaper.f
  repeat' first
      | (with_reducible exact ih0 _ _ _ _ _ _)
      | (with_reducible exact ih1 _ _ _ _ _ _)
      | (with_reducible exact awardingbodymake_Tape_Paper.mono _ _ _ _ _)
      | (with_reducible exact awardingbodymake_Tape_Part.mono _ _ _ _)
      | (with_reducible exact LeO.refl _)
      | (with_reducible exact LeO.none _)
      | (with_reducible refine LeO.ite ?_ ?_)
      | (with_reducible refine LeO.bind ?_ (fun _ => ?_))
      | exact ih0 _ _ _ _ _ _
      | exact ih1 _ _ _ _ _ _
      | exact awardingbodymake_Tape_Paper.mono _ _ _ _ _
      | exact awardingbodymake_Tape_Part.mono _ _ _ _
      | exact LeO.none _
      | refine LeO.ite ?_ ?_
      | refine LeO.bind ?_ (fun _ => ?_)
def awardingbodymake_Tape_LoosePaper.T15 : Bool × List (List Nat × List Nat) := (true, [([], []), ([0], [0]), ([], []), ([2], [2]), ([3], [3]), ([1, 4, 3], [1, 4]), ([0, 1, 2, 3, 4, 5], []), ([6, 5, 5, 0, 1, 2, 3, 4, 5], [5, 6])])
def awardingbodymake_Tape_LoosePaper.B15 : List Nat := [0, 1, 0, 4, 12, 31, 63, 127]
theorem awardingbodymake_Tape_LoosePaper.tab15 : rtab .any (opsOf Try.f33 15) = awardingbodymake_Tape_LoosePaper.T15 := by kernel_rfl
theorem awardingbodymake_Tape_LoosePaper.bits15 : waitsOk awardingbodymake_Tape_LoosePaper.T15.2 awardingbodymake_Tape_LoosePaper.B15 = true := by kernel_rfl
set_option maxHeartbeats 8000000 in
set_option maxRecDepth 100000 in
theorem awardingbodymake_Tape_LoosePaper.calls (k : Nat) (g : Nat) (s0_0 : List Int) (s0_1 : Int) (a1 : Int) (r1 : Int) (r2 : Int) (r3 : List (S23)) (r4 : Int) (w0 w : World) (hI : IsS54 w0 w g s0_0 s0_1) (hB : Below w0.heap.size w0 w) (h : awardingbodymake_Tape_LoosePaper.f k s0_0 s0_1 a1 = some (r1, r2, r3, r4)) :
    Calls Try.prog 33 #[.pointer (some ⟨g, 0, none⟩), .int .i64 a1] w fun e w' => ∃ v2_ : Value, e = .returned (.agg #[.int .i64 r1, .int .i64 r2, v2_]) ∧ Kd.R k23 23 w' w.heap.size (fun _ => True) v2_ r3 ∧ IsS54 w0 w' g s0_0 r4 ∧ Below w0.heap.size w0 w' ∧ KeepBut w w' g none := by
 have hu45 := Try.underlying45
 have hu23 := Try.underlying23
 have HI0 := Aside0.mk hI
 have HK := Aside0.mk (KeepBut.refl w g none)
 have HL := Aside0.mk hB.size
 clear hI
 have HW0 := Aside0.mk hB.size
 have HB := Aside0.mk hB
 clear hB
 have H : ((awardingbodymake_Tape_Range.f s0_0 s0_1 0 3).bind fun bt547 => ((awardingbodymake_Tape_Next.f s0_0 bt547.2 3).bind fun bt549 => ((awardingbodymake_Tape_Paper.f k s0_0 bt549.2 bt547.1 bt549.1).bind fun bt551 => (if a1 > 0 then ((awardingbodymake_Tape_One.f s0_0 bt551.2.2.2 a1).bind fun bt558 => (awardingbodymake_Tape_LoosePaper.j0 k bt558.1 s0_0 bt558.2 bt551.1 bt551.2.1 bt551.2.2.1)) else (awardingbodymake_Tape_LoosePaper.j0 k false s0_0 bt551.2.2.2 bt551.1 bt551.2.1 bt551.2.2.1))))) = some (r1, r2, r3, r4) := h
 clear h
 replace H := Option.bind_eq_some_iff.mp H
 obtain ⟨⟨t547, t548⟩, A30, H⟩ := H
 replace H : ((awardingbodymake_Tape_Next.f s0_0 t548 3).bind fun bt549 => ((awardingbodymake_Tape_Paper.f k s0_0 bt549.2 t547 bt549.1).bind fun bt551 => (if a1 > 0 then ((awardingbodymake_Tape_One.f s0_0 bt551.2.2.2 a1).bind fun bt558 => (awardingbodymake_Tape_LoosePaper.j0 k bt558.1 s0_0 bt558.2 bt551.1 bt551.2.1 bt551.2.2.1)) else (awardingbodymake_Tape_LoosePaper.j0 k false s0_0 bt551.2.2.2 bt551.1 bt551.2.1 bt551.2.2.1)))) = some (r1, r2, r3, r4) := H
 have A3 := Aside0.mk A30
 clear A30
 replace H := Option.bind_eq_some_iff.mp H
 obtain ⟨⟨t549, t550⟩, A40, H⟩ := H
 replace H : ((awardingbodymake_Tape_Paper.f k s0_0 t550 t547 t549).bind fun bt551 => (if a1 > 0 then ((awardingbodymake_Tape_One.f s0_0 bt551.2.2.2 a1).bind fun bt558 => (awardingbodymake_Tape_LoosePaper.j0 k bt558.1 s0_0 bt558.2 bt551.1 bt551.2.1 bt551.2.2.1)) else (awardingbodymake_Tape_LoosePaper.j0 k false s0_0 bt551.2.2.2 bt551.1 bt551.2.1 bt551.2.2.1))) = some (r1, r2, r3, r4) := H
 have A4 := Aside0.mk A40
 clear A40
 replace H := Option.bind_eq_some_iff.mp H
 obtain ⟨⟨t551, t552, t553, t556⟩, A50, H⟩ := H
 replace H : (if a1 > 0 then ((awardingbodymake_Tape_One.f s0_0 t556 a1).bind fun bt558 => (awardingbodymake_Tape_LoosePaper.j0 k bt558.1 s0_0 bt558.2 t551 t552 t553)) else (awardingbodymake_Tape_LoosePaper.j0 k false s0_0 t556 t551 t552 t553)) = some (r1, r2, r3, r4) := H
 have A5 := Aside0.mk A50
 clear A50
 have HC6 := Aside0.mk H
 clear H
 go_enter Try.func33, Try.ntmps33
 go_upto_region 2 with (first | ((with_reducible refine gate_dst (N := 4) rfl ?_); refine box_event ?hg (N := 4) ?hd (cs := #[.int .i64 0, .int .i64 0, .slice none 0 0]) (t := 45) ?hr ?_; (case hd => rfl); (case hg => rfl); (case hr => first | (go_simp; done) | (go_simp; rfl)); intro gb546 hg w7 hbox hb; have n0_ := Aside0.mk (IsS54.below (by repeat (first | (with_reducible first | exact HI0.out | apply IsS54.alloc | apply IsS54.drewN | apply IsS54.drew | apply IsS54.set_1) | exact HI0.out)) hb); have n1_ := Aside0.mk (KeepBut.trans (by repeat (first | (with_reducible first | exact HK.out | apply KeepBut.set_ | apply keep_drewN | apply keep_drew | apply keep_alloc) | exact HK.out)) (KeepBut.of_below hb g none) (.inl rfl)); have n2_ := Aside0.mk (below_step (by repeat (first | (with_reducible first | exact HB.out | apply below_alloc | apply pw_below_drewN | apply below_drew1 | refine below_set ?_ (IsS54.ge HI0.out)) | exact HB.out)) hb); have n3_ := Aside0.mk (hbox); have n4_ := Aside0.mk ((by rw [hg]; exact (keep_size (w := w) (g := g) (row := none) (by repeat (first | (with_reducible first | exact HK.out | apply KeepBut.set_ | apply keep_drewN | apply keep_drew | apply keep_alloc) | exact HK.out))) : w.heap.size ≤ gb546)); have n5_ := Aside0.mk ((Nat.le_trans HW0.out (by rw [hg]; exact (keep_size (w := w) (g := g) (row := none) (by repeat (first | (with_reducible first | exact HK.out | apply KeepBut.set_ | apply keep_drewN | apply keep_drew | apply keep_alloc) | exact HK.out))) : w.heap.size ≤ gb546) : w0.heap.size ≤ gb546)); have n6_ := Aside0.mk ((by rw [hg]; exact Nat.ne_of_lt (IsS54.lt (show IsS54 w0 _ g s0_0 s0_1 from by repeat (first | (with_reducible first | exact HI0.out | apply IsS54.alloc | apply IsS54.drewN | apply IsS54.drew | apply IsS54.set_1) | exact HI0.out))) : g ≠ gb546)); have n7_ := Aside0.mk ((by rw [hg]; exact Nat.ne_of_gt (IsS54.lt (show IsS54 w0 _ g s0_0 s0_1 from by repeat (first | (with_reducible first | exact HI0.out | apply IsS54.alloc | apply IsS54.drewN | apply IsS54.drew | apply IsS54.set_1) | exact HI0.out))) : gb546 ≠ g)); clear HI0 HK HB; have HI0 := n0_; have HK := n1_; have HB := n2_; have BK546 := n3_; have GW546 := n4_; have GE546 := n5_; have NB0_546 := n6_; have NB546_0 := n7_; clear n0_ n1_ n2_ n3_ n4_ n5_ n6_ n7_ hb hbox hg) | ((with_reducible refine gate_callee (f := 18) rfl ?_); refine goesL_ (some 9) rfl rfl Try.func18 (by kernel_rfl) rfl #[.pointer (some ⟨g, 0, none⟩), .int .i64 0, .int .i64 3] rfl (by (try simp only [List.map_toArray, List.map_cons, List.map_nil]); first | done | rfl | (simp only [List.length_drop, List.length_take]; rfl)) ?_; (with_reducible refine (awardingbodymake_Tape_Range.calls g s0_0 s0_1 0 3 t547 t548 w0 _ ?side1 ?side2 A3.out).mono ?_); (case side1 => repeat (first | (with_reducible first | exact HI0.out | apply IsS54.alloc | apply IsS54.drewN | apply IsS54.drew | apply IsS54.set_1 | refine IsS54.far ?_ NB0_546.out _) | exact HI0.out)); (case side2 => repeat (first | (with_reducible first | exact HB.out | apply below_alloc | apply pw_below_drewN | apply below_drew1 | refine below_set ?_ (IsS54.ge HI0.out) | refine below_set ?_ GE546.out) | exact HB.out)); rintro e w8 ⟨rfl, hi, hb, hk⟩; refine ⟨_, rfl, ?_⟩; have n0_ := Aside0.mk (KeepBut.blk hk (g' := gb546) (o := .cells #[.int .i64 0, .int .i64 0, .slice none 0 0] 45 (0, 0)) (by (with_reducible repeat (first | refine blk_drewN ?_ _ | refine blk_drew ?_ | refine blk_alloc ?_ _)); exact BK546.out) NB546_0.out (by simp)); have n1_ := Aside0.mk (KeepBut.trans (by repeat (first | (with_reducible first | exact HK.out | apply KeepBut.set_ | apply keep_drewN | apply keep_drew | apply keep_alloc | refine keep_far ?_ GW546.out _) | exact HK.out)) hk (.inl rfl)); have n2_ := Aside0.mk (hb); have n3_ := Aside0.mk (hi); clear BK546 HK HB HI0; have BK546 := n0_; have HK := n1_; have HB := n2_; have HI0 := n3_; clear n0_ n1_ n2_ n3_; (try clear hb); (try clear hb2); (try clear hk); (try clear hi)) | ((with_reducible refine gate_callee (f := 17) rfl ?_); refine goesL_ (some 11) rfl rfl Try.func17 (by kernel_rfl) rfl #[.pointer (some ⟨g, 0, none⟩), .int .i64 3] rfl (by (try simp only [List.map_toArray, List.map_cons, List.map_nil]); first | done | rfl | (simp only [List.length_drop, List.length_take]; rfl)) ?_; (with_reducible refine (awardingbodymake_Tape_Next.calls g s0_0 t548 3 t549 t550 w0 _ ?side1 ?side2 A4.out).mono ?_); (case side1 => repeat (first | (with_reducible first | exact HI0.out | apply IsS54.alloc | apply IsS54.drewN | apply IsS54.drew | apply IsS54.set_1 | refine IsS54.far ?_ NB0_546.out _) | exact HI0.out)); (case side2 => repeat (first | (with_reducible first | exact HB.out | apply below_alloc | apply pw_below_drewN | apply below_drew1 | refine below_set ?_ (IsS54.ge HI0.out) | refine below_set ?_ GE546.out) | exact HB.out)); rintro e w9 ⟨rfl, hi, hb, hk⟩; refine ⟨_, rfl, ?_⟩; have n0_ := Aside0.mk (KeepBut.blk hk (g' := gb546) (o := .cells #[.int .i64 0, .int .i64 0, .slice none 0 0] 45 (0, 0)) (by (with_reducible repeat (first | refine blk_drewN ?_ _ | refine blk_drew ?_ | refine blk_alloc ?_ _)); exact BK546.out) NB546_0.out (by simp)); have n1_ := Aside0.mk (KeepBut.trans (by repeat (first | (with_reducible first | exact HK.out | apply KeepBut.set_ | apply keep_drewN | apply keep_drew | apply keep_alloc | refine keep_far ?_ GW546.out _) | exact HK.out)) hk (.inl rfl)); have n2_ := Aside0.mk (hb); have n3_ := Aside0.mk (hi); clear BK546 HK HB HI0; have BK546 := n0_; have HK := n1_; have HB := n2_; have HI0 := n3_; clear n0_ n1_ n2_ n3_; (try clear hb); (try clear hb2); (try clear hk); (try clear hi)) | ((with_reducible refine gate_callee (f := 52) rfl ?_); refine goesL_ (some 12) rfl rfl Try.func52 (by kernel_rfl) rfl #[.pointer (some ⟨g, 0, none⟩), .int .i64 t547, .int .i64 t549] rfl (by (try simp only [List.map_toArray, List.map_cons, List.map_nil]); first | done | rfl | (simp only [List.length_drop, List.length_take]; rfl)) ?_; (with_reducible refine (awardingbodymake_Tape_Paper.calls k g s0_0 t550 t547 t549 t551 t552 t553 t556 w0 _ ?side1 ?side2 A5.out).mono ?_); (case side1 => repeat (first | (with_reducible first | exact HI0.out | apply IsS54.alloc | apply IsS54.drewN | apply IsS54.drew | apply IsS54.set_1 | refine IsS54.far ?_ NB0_546.out _) | exact HI0.out)); (case side2 => repeat (first | (with_reducible first | exact HB.out | apply below_alloc | apply pw_below_drewN | apply below_drew1 | refine below_set ?_ (IsS54.ge HI0.out) | refine below_set ?_ GE546.out) | exact HB.out)); rintro e w10 ⟨v554, rfl, ho0, hi, hb, hk⟩; refine ⟨_, rfl, ?_⟩; have n0_ := Aside0.mk (KeepBut.blk hk (g' := gb546) (o := .cells #[.int .i64 0, .int .i64 0, .slice none 0 0] 45 (0, 0)) (by (with_reducible repeat (first | refine blk_drewN ?_ _ | refine blk_drew ?_ | refine blk_alloc ?_ _)); exact BK546.out) NB546_0.out (by simp)); have n1_ := Aside0.mk (Kd.R_lower ho0 (keep_size (w := w) (g := g) (row := none) (by repeat (first | (with_reducible first | exact HK.out | apply KeepBut.set_ | apply keep_drewN | apply keep_drew | apply keep_alloc | refine keep_far ?_ GW546.out _) | exact HK.out)))); have n2_ := Aside0.mk (KeepBut.trans (by repeat (first | (with_reducible first | exact HK.out | apply KeepBut.set_ | apply keep_drewN | apply keep_drew | apply keep_alloc | refine keep_far ?_ GW546.out _) | exact HK.out)) hk (.inl rfl)); have n3_ := Aside0.mk (hb); have n4_ := Aside0.mk (hi); clear BK546 HK HB HI0; have BK546 := n0_; have HO555 := n1_; have HK := n2_; have HB := n3_; have HI0 := n4_; clear n0_ n1_ n2_ n3_ n4_; (try clear hb); (try clear hb2); (try clear hk); (try clear hi); (try clear ho0)) | ((with_reducible refine gate_dst (N := 5) rfl ?_); refine box_event ?hg (N := 5) ?hd (cs := #[.int .i64 0, .int .i64 0, .slice none 0 0]) (t := 45) ?hr ?_; (case hd => rfl); (case hg => rfl); (case hr => first | (go_simp; done) | (go_simp; rfl)); intro gb557 hg w11 hbox hb; have n0_ := Aside0.mk (Kd.R_below (by (with_reducible repeat (first | apply Kd.R_alloc | apply Kd.R_drewN | apply Kd.R_drew)); exact HO555.out) hb); have n1_ := Aside0.mk (IsS54.below (by repeat (first | (with_reducible first | exact HI0.out | apply IsS54.alloc | apply IsS54.drewN | apply IsS54.drew | apply IsS54.set_1 | refine IsS54.far ?_ NB0_546.out _) | exact HI0.out)) hb); have n2_ := Aside0.mk (blk_below (g := gb546) (o := .cells #[.int .i64 0, .int .i64 0, .slice none 0 0] 45 (0, 0)) (by (with_reducible repeat (first | refine blk_drewN ?_ _ | refine blk_drew ?_ | refine blk_alloc ?_ _)); exact BK546.out) hb); have n3_ := Aside0.mk (KeepBut.trans (by repeat (first | (with_reducible first | exact HK.out | apply KeepBut.set_ | apply keep_drewN | apply keep_drew | apply keep_alloc | refine keep_far ?_ GW546.out _) | exact HK.out)) (KeepBut.of_below hb g none) (.inl rfl)); have n4_ := Aside0.mk (below_step (by repeat (first | (with_reducible first | exact HB.out | apply below_alloc | apply pw_below_drewN | apply below_drew1 | refine below_set ?_ (IsS54.ge HI0.out) | refine below_set ?_ GE546.out) | exact HB.out)) hb); have n5_ := Aside0.mk (hbox); have n6_ := Aside0.mk ((by rw [hg]; exact (keep_size (w := w) (g := g) (row := none) (by repeat (first | (with_reducible first | exact HK.out | apply KeepBut.set_ | apply keep_drewN | apply keep_drew | apply keep_alloc | refine keep_far ?_ GW546.out _) | exact HK.out))) : w.heap.size ≤ gb557)); have n7_ := Aside0.mk ((Nat.le_trans HW0.out (by rw [hg]; exact (keep_size (w := w) (g := g) (row := none) (by repeat (first | (with_reducible first | exact HK.out | apply KeepBut.set_ | apply keep_drewN | apply keep_drew | apply keep_alloc | refine keep_far ?_ GW546.out _) | exact HK.out))) : w.heap.size ≤ gb557) : w0.heap.size ≤ gb557)); have n8_ := Aside0.mk ((by rw [hg]; exact Nat.ne_of_lt (blk_lt (g := gb546) (o := .cells #[.int .i64 0, .int .i64 0, .slice none 0 0] 45 (0, 0)) (by (with_reducible repeat (first | refine blk_drewN ?_ _ | refine blk_drew ?_ | refine blk_alloc ?_ _)); exact BK546.out)) : gb546 ≠ gb557)); have n9_ := Aside0.mk ((by rw [hg]; exact Nat.ne_of_gt (blk_lt (g := gb546) (o := .cells #[.int .i64 0, .int .i64 0, .slice none 0 0] 45 (0, 0)) (by (with_reducible repeat (first | refine blk_drewN ?_ _ | refine blk_drew ?_ | refine blk_alloc ?_ _)); exact BK546.out)) : gb557 ≠ gb546)); have n10_ := Aside0.mk ((by rw [hg]; exact Nat.ne_of_lt (IsS54.lt (show IsS54 w0 _ g s0_0 t556 from by repeat (first | (with_reducible first | exact HI0.out | apply IsS54.alloc | apply IsS54.drewN | apply IsS54.drew | apply IsS54.set_1 | refine IsS54.far ?_ NB0_546.out _) | exact HI0.out))) : g ≠ gb557)); have n11_ := Aside0.mk ((by rw [hg]; exact Nat.ne_of_gt (IsS54.lt (show IsS54 w0 _ g s0_0 t556 from by repeat (first | (with_reducible first | exact HI0.out | apply IsS54.alloc | apply IsS54.drewN | apply IsS54.drew | apply IsS54.set_1 | refine IsS54.far ?_ NB0_546.out _) | exact HI0.out))) : gb557 ≠ g)); clear HO555 HI0 BK546 HK HB; have HO555 := n0_; have HI0 := n1_; have BK546 := n2_; have HK := n3_; have HB := n4_; have BK557 := n5_; have GW557 := n6_; have GE557 := n7_; have NB546_557 := n8_; have NB557_546 := n9_; have NB0_557 := n10_; have NB557_0 := n11_; clear n0_ n1_ n2_ n3_ n4_ n5_ n6_ n7_ n8_ n9_ n10_ n11_ hb hbox hg; have hnb12 := NB557_546.out; have hnc12 := NB546_557.out; have hnb13 := NB557_0.out; have hnc13 := NB0_557.out; have hcz14_0 : w11.cell? ⟨gb557, 0, none⟩ = some (.int .i64 0) := (blk_cell BK557.out 0).trans rfl; have hcz14_1 : w11.cell? ⟨gb557, 1, none⟩ = some (.int .i64 0) := (blk_cell BK557.out 1).trans rfl; have hcz14_2 : w11.cell? ⟨gb557, 2, none⟩ = some (.slice none 0 0) := (blk_cell BK557.out 2).trans rfl; have hfz14_0 := blk_frozen BK557.out 0; have hfz14_1 := blk_frozen BK557.out 1; have hfz14_2 := blk_frozen BK557.out 2; obtain ⟨Ao15, co15, eo15⟩ := Kd.R_slice HO555.out; subst eo15))
 (try simp only [Act.put, List.setIfInBounds_toArray, List.set_cons_zero, List.set_cons_succ])
 go_cut [19] (fun v19 wc => ∃ (kq : Nat) (x19_5 : Bool) (x1001_5 : Int), v19 = .bool x19_5 ∧ Aside0 (awardingbodymake_Tape_LoosePaper.j0 kq x19_5 s0_0 x1001_5 t551 t552 t553 = some (r1, r2, r3, r4)) ∧ Aside0 (kq ≤ k) ∧ Aside0 (Kd.R k23 23 wc w.heap.size (fun _ => True) (.slice Ao15 t553.length co15) t553) ∧ Aside0 (wc.heap[gb546]? = some (.cells #[.int .i64 0, .int .i64 0, (.slice none 0 0)] 45 (0, 0))) ∧ Aside0 (wc.heap[gb557]? = some (.cells #[.int .i64 t551, .int .i64 t552, (.slice Ao15 t553.length co15)] 45 (0, 0))) ∧ Aside0 (IsS54 w0 wc g s0_0 x1001_5) ∧ Aside0 (KeepBut w wc g none) ∧ Aside0 (Below w0.heap.size w0 wc))
 case first =>
  have H := HC6.out
  clear HC6
  by_cases c16 : a1 > 0
  ·rw [if_pos c16] at H
   have c16b0 : decide (0 < a1) = true := decide_eq_true c16
   clear c16
   (first | rw [c16b0] | (simp only [i64_w, i32_w]; rw [c16b0]) | skip)
   replace H := Option.bind_eq_some_iff.mp H
   obtain ⟨⟨t558, t559⟩, A170, H⟩ := H
   replace H : (awardingbodymake_Tape_LoosePaper.j0 k t558 s0_0 t559 t551 t552 t553) = some (r1, r2, r3, r4) := H
   have A17 := Aside0.mk A170
   clear A170
   have H' := Aside0.mk H
   clear H
   go_wp2_with (first | (go_at_call 38; (with_reducible refine (awardingbodymake_Tape_One.calls g s0_0 t556 a1 t558 t559 w0 _ ?side1 ?side2 A17.out).mono ?_); (case side1 => repeat (first | (with_reducible first | exact HI0.out | apply IsS54.alloc | apply IsS54.drewN | apply IsS54.drew | apply IsS54.set_1 | refine IsS54.far ?_ NB0_546.out _ | refine IsS54.far ?_ NB0_557.out _) | exact HI0.out)); (case side2 => repeat (first | (with_reducible first | exact HB.out | apply below_alloc | apply pw_below_drewN | apply below_drew1 | refine below_set ?_ (IsS54.ge HI0.out) | refine below_set ?_ GE546.out | refine below_set ?_ GE557.out) | exact HB.out)); rintro e w18 ⟨rfl, hi, hb, hk⟩; have n0_ := Aside0.mk (KeepBut.blk hk (g' := gb546) (o := .cells #[.int .i64 0, .int .i64 0, .slice none 0 0] 45 (0, 0)) (by (with_reducible repeat (first | refine blk_drewN ?_ _ | refine blk_drew ?_ | refine blk_alloc ?_ _)); refine blk_far ?_ NB546_557.out _; (with_reducible repeat (first | refine blk_drewN ?_ _ | refine blk_drew ?_ | refine blk_alloc ?_ _)); refine blk_far ?_ NB546_557.out _; (with_reducible repeat (first | refine blk_drewN ?_ _ | refine blk_drew ?_ | refine blk_alloc ?_ _)); refine blk_far ?_ NB546_557.out _; (with_reducible repeat (first | refine blk_drewN ?_ _ | refine blk_drew ?_ | refine blk_alloc ?_ _)); exact BK546.out) NB546_0.out (by simp)); have n1_ := Aside0.mk (Kd.R_mono (Kd.R_keep (IsS54.apart (show IsS54 w0 _ g s0_0 t556 from by repeat (first | (with_reducible first | exact HI0.out | apply IsS54.alloc | apply IsS54.drewN | apply IsS54.drew | apply IsS54.set_1 | refine IsS54.far ?_ NB0_546.out _ | refine IsS54.far ?_ NB0_557.out _) | exact HI0.out)) (by (with_reducible repeat (first | apply Kd.R_alloc | apply Kd.R_drewN | apply Kd.R_drew)); exact (Kd.R_mono (Kd.R_far (p := ⟨gb557, 2, none⟩) (Kd.R_far (p := ⟨gb557, 1, none⟩) (Kd.R_far (p := ⟨gb557, 0, none⟩) (Kd.R_types HO555.out BK557.out (by decide)) (fun _ hk => hk.2) (.int .i64 t551)) (fun _ hk => hk.2) (.int .i64 t552)) (fun _ hk => hk.2) (.slice Ao15 t553.length co15)) (fun _ h_ => h_.1))) (by decide)) hk (fun _ h => h.2)) (fun _ h => h.1)); have n2_ := Aside0.mk (KeepBut.blk hk (g' := gb557) (o := .cells #[.int .i64 t551, .int .i64 t552, .slice Ao15 t553.length co15] 45 (0, 0)) (by (with_reducible repeat (first | refine blk_drewN ?_ _ | refine blk_drew ?_ | refine blk_alloc ?_ _)); refine blk_put (cs := #[.int .i64 t551, .int .i64 t552, .slice none 0 0]) ?_ 2 _ rfl; (with_reducible repeat (first | refine blk_drewN ?_ _ | refine blk_drew ?_ | refine blk_alloc ?_ _)); refine blk_put (cs := #[.int .i64 t551, .int .i64 0, .slice none 0 0]) ?_ 1 _ rfl; (with_reducible repeat (first | refine blk_drewN ?_ _ | refine blk_drew ?_ | refine blk_alloc ?_ _)); refine blk_put (cs := #[.int .i64 0, .int .i64 0, .slice none 0 0]) ?_ 0 _ rfl; (with_reducible repeat (first | refine blk_drewN ?_ _ | refine blk_drew ?_ | refine blk_alloc ?_ _)); exact BK557.out) NB557_0.out (by simp)); have n3_ := Aside0.mk (KeepBut.trans (by repeat (first | (with_reducible first | exact HK.out | apply KeepBut.set_ | apply keep_drewN | apply keep_drew | apply keep_alloc | refine keep_far ?_ GW546.out _ | refine keep_far ?_ GW557.out _) | exact HK.out)) hk (.inl rfl)); have n4_ := Aside0.mk (hb); have n5_ := Aside0.mk (hi); clear BK546 HO555 BK557 HK HB HI0; have BK546 := n0_; have HO555 := n1_; have BK557 := n2_; have HK := n3_; have HB := n4_; have HI0 := n5_; clear n0_ n1_ n2_ n3_ n4_ n5_; (try clear hb); (try clear hb2); (try clear hk); (try clear hi)))
   go_meet
   case rel => exact ⟨_, (t558), (t559), (by first | rfl | (simp; done) | (simp [*]; done)), H', ⟨by first | omega | exact Nat.le_refl _⟩, ⟨by (with_reducible repeat (first | apply Kd.R_alloc | apply Kd.R_drewN | apply Kd.R_drew)); exact HO555.out⟩, ⟨by (with_reducible repeat (first | refine blk_drewN ?_ _ | refine blk_drew ?_ | refine blk_alloc ?_ _)); exact BK546.out⟩, ⟨by (with_reducible repeat (first | refine blk_drewN ?_ _ | refine blk_drew ?_ | refine blk_alloc ?_ _)); exact BK557.out⟩, ⟨by repeat (first | (with_reducible first | exact HI0.out | apply IsS54.alloc | apply IsS54.drewN | apply IsS54.drew | apply IsS54.set_1 | refine IsS54.far ?_ NB0_546.out _ | refine IsS54.far ?_ NB0_557.out _) | exact HI0.out)⟩, ⟨by repeat (first | (with_reducible first | exact HK.out | apply KeepBut.set_ | apply keep_drewN | apply keep_drew | apply keep_alloc | refine keep_far ?_ GW546.out _ | refine keep_far ?_ GW557.out _) | exact HK.out)⟩, ⟨by repeat (first | (with_reducible first | exact HB.out | apply below_alloc | apply pw_below_drewN | apply below_drew1 | refine below_set ?_ (IsS54.ge HI0.out) | refine below_set ?_ GE546.out | refine below_set ?_ GE557.out) | exact HB.out)⟩⟩
  ·rw [if_neg c16] at H
   have c16b0 : decide (0 < a1) = false := decide_eq_false c16
   clear c16
   (first | rw [c16b0] | (simp only [i64_w, i32_w]; rw [c16b0]) | skip)
   have H' := Aside0.mk H
   clear H
   go_wp2
   go_meet
   case rel => exact ⟨_, (false), (t556), (by first | rfl | (simp; done) | (simp [*]; done)), H', ⟨by first | omega | exact Nat.le_refl _⟩, ⟨by (with_reducible repeat (first | apply Kd.R_alloc | apply Kd.R_drewN | apply Kd.R_drew)); exact Kd.R_mono (Kd.R_far (p := ⟨gb557, 2, none⟩) (Kd.R_far (p := ⟨gb557, 1, none⟩) (Kd.R_far (p := ⟨gb557, 0, none⟩) (Kd.R_types HO555.out BK557.out (by decide)) (fun _ hk => hk.2) (.int .i64 t551)) (fun _ hk => hk.2) (.int .i64 t552)) (fun _ hk => hk.2) (.slice Ao15 t553.length co15)) (fun _ hk => trivial)⟩, ⟨by (with_reducible repeat (first | refine blk_drewN ?_ _ | refine blk_drew ?_ | refine blk_alloc ?_ _)); refine blk_far ?_ NB546_557.out _; (with_reducible repeat (first | refine blk_drewN ?_ _ | refine blk_drew ?_ | refine blk_alloc ?_ _)); refine blk_far ?_ NB546_557.out _; (with_reducible repeat (first | refine blk_drewN ?_ _ | refine blk_drew ?_ | refine blk_alloc ?_ _)); refine blk_far ?_ NB546_557.out _; (with_reducible repeat (first | refine blk_drewN ?_ _ | refine blk_drew ?_ | refine blk_alloc ?_ _)); exact BK546.out⟩, ⟨by (with_reducible repeat (first | refine blk_drewN ?_ _ | refine blk_drew ?_ | refine blk_alloc ?_ _)); refine blk_put (cs := #[.int .i64 t551, .int .i64 t552, .slice none 0 0]) ?_ 2 _ rfl; (with_reducible repeat (first | refine blk_drewN ?_ _ | refine blk_drew ?_ | refine blk_alloc ?_ _)); refine blk_put (cs := #[.int .i64 t551, .int .i64 0, .slice none 0 0]) ?_ 1 _ rfl; (with_reducible repeat (first | refine blk_drewN ?_ _ | refine blk_drew ?_ | refine blk_alloc ?_ _)); refine blk_put (cs := #[.int .i64 0, .int .i64 0, .slice none 0 0]) ?_ 0 _ rfl; (with_reducible repeat (first | refine blk_drewN ?_ _ | refine blk_drew ?_ | refine blk_alloc ?_ _)); exact BK557.out⟩, ⟨by repeat (first | (with_reducible first | exact HI0.out | apply IsS54.alloc | apply IsS54.drewN | apply IsS54.drew | apply IsS54.set_1 | refine IsS54.far ?_ NB0_546.out _ | refine IsS54.far ?_ NB0_557.out _) | exact HI0.out)⟩, ⟨by repeat (first | (with_reducible first | exact HK.out | apply KeepBut.set_ | apply keep_drewN | apply keep_drew | apply keep_alloc | refine keep_far ?_ GW546.out _ | refine keep_far ?_ GW557.out _) | exact HK.out)⟩, ⟨by repeat (first | (with_reducible first | exact HB.out | apply below_alloc | apply pw_below_drewN | apply below_drew1 | refine below_set ?_ (IsS54.ge HI0.out) | refine below_set ?_ GE546.out | refine below_set ?_ GE557.out) | exact HB.out)⟩⟩
 case rest =>
  clear HC6
  try clear c1
  try clear p2
  try clear c3
  try clear c5
  try clear c12
  try clear c13
  try clear c16
  try clear c16b0
  try clear c17
  try clear c18
  try clear hcz14_0
  try clear hcz14_1
  try clear hcz14_2
  try clear hfz14_0
  try clear hfz14_1
  try clear hfz14_2
  obtain ⟨kq, x19_5, x1001_5, rfl, HA, HJ5, HO_558002, BK546, BK557, HI0, HK, HB⟩ := hcut
  cases kq with
  | zero => exact absurd HA.out (by simp [awardingbodymake_Tape_LoosePaper.j0])
  | succ kj5 =>
   have H := HA.out
   clear HA
   simp only [awardingbodymake_Tape_LoosePaper.j0] at H
   by_cases c19 : x19_5 = true
   ·subst c19
    have H1 : ((awardingbodymake_Tape_Next.f s0_0 x1001_5 5).bind fun bt560 => (if bt560.1 = 0 then ((awardingbodymake_Tape_Wild.f s0_0 bt560.2).bind fun bt562 => (some (bt562.1, t552, t553, bt562.2))) else (if bt560.1 = 1 then ((awardingbodymake_Tape_Range.f s0_0 bt560.2 (-1) 5).bind fun bt564 => (some (t551, bt564.1, t553, bt564.2))) else (if bt560.1 = 2 then (some (t551, t552, ([] : List (S23)), bt560.2)) else (if bt560.1 = 3 then ((awardingbodymake_Tape_Part.f kj5 s0_0 bt560.2 1).bind fun bt566 => (if t553.length < 2932031007402 then (some (t551, t552, (t553 ++ [(⟨bt566.1, bt566.2.1, bt566.2.2.1, bt566.2.2.2.1, bt566.2.2.2.2.1, bt566.2.2.2.2.2.1⟩ : S23)]), bt566.2.2.2.2.2.2)) else (none))) else (awardingbodymake_Tape_LoosePaper.l0 kj5 0 s0_0 bt560.2 t551 t552 t553)))))) = some (r1, r2, r3, r4) := by rw [if_pos rfl] at H; exact H
    clear H
    have H := H1
    clear H1
    replace H := Option.bind_eq_some_iff.mp H
    obtain ⟨⟨t560, t561⟩, A200, H⟩ := H
    replace H : (if t560 = 0 then ((awardingbodymake_Tape_Wild.f s0_0 t561).bind fun bt562 => (some (bt562.1, t552, t553, bt562.2))) else (if t560 = 1 then ((awardingbodymake_Tape_Range.f s0_0 t561 (-1) 5).bind fun bt564 => (some (t551, bt564.1, t553, bt564.2))) else (if t560 = 2 then (some (t551, t552, ([] : List (S23)), t561)) else (if t560 = 3 then ((awardingbodymake_Tape_Part.f kj5 s0_0 t561 1).bind fun bt566 => (if t553.length < 2932031007402 then (some (t551, t552, (t553 ++ [(⟨bt566.1, bt566.2.1, bt566.2.2.1, bt566.2.2.2.1, bt566.2.2.2.2.1, bt566.2.2.2.2.2.1⟩ : S23)]), bt566.2.2.2.2.2.2)) else (none))) else (awardingbodymake_Tape_LoosePaper.l0 kj5 0 s0_0 t561 t551 t552 t553))))) = some (r1, r2, r3, r4) := H
    have A20 := Aside0.mk A200
    clear A200
    by_cases c21 : t560 = 0
    ·rw [if_pos c21] at H
     have c21b0 : (t560 == 0) = true := beq_iff_eq.mpr c21
     have c21b1 : (t560 != 0) = false := bne_eq_false_iff_eq.mpr c21
     clear c21
     replace H := Option.bind_eq_some_iff.mp H
     obtain ⟨⟨t562, t563⟩, A220, H⟩ := H
     replace H : (some (t562, t552, t553, t563)) = some (r1, r2, r3, r4) := H
     have A22 := Aside0.mk A220
     clear A220
     simp only [Option.some.injEq, Prod.mk.injEq] at H
     obtain ⟨rfl, rfl, rfl, rfl⟩ := H
     go_wp2_with (first | ((with_reducible refine gate_callee (f := 17) rfl ?_); refine goesL_ (some 21) rfl rfl Try.func17 (by kernel_rfl) rfl #[.pointer (some ⟨g, 0, none⟩), .int .i64 5] rfl (by (try simp only [List.map_toArray, List.map_cons, List.map_nil]); first | done | rfl | (simp only [List.length_drop, List.length_take]; rfl)) ?_; (with_reducible refine (awardingbodymake_Tape_Next.calls g s0_0 x1001_5 5 t560 t561 w0 _ ?side1 ?side2 A20.out).mono ?_); (case side1 => repeat (first | (with_reducible first | exact HI0.out | apply IsS54.alloc | apply IsS54.drewN | apply IsS54.drew | apply IsS54.set_1 | refine IsS54.far ?_ NB0_546.out _ | refine IsS54.far ?_ NB0_557.out _) | exact HI0.out)); (case side2 => repeat (first | (with_reducible first | exact HB.out | apply below_alloc | apply pw_below_drewN | apply below_drew1 | refine below_set ?_ (IsS54.ge HI0.out) | refine below_set ?_ GE546.out | refine below_set ?_ GE557.out) | exact HB.out)); rintro e w23 ⟨rfl, hi, hb, hk⟩; refine ⟨_, rfl, ?_⟩; have n0_ := Aside0.mk (Kd.R_mono (Kd.R_keep (IsS54.apart (show IsS54 w0 _ g s0_0 x1001_5 from by repeat (first | (with_reducible first | exact HI0.out | apply IsS54.alloc | apply IsS54.drewN | apply IsS54.drew | apply IsS54.set_1 | refine IsS54.far ?_ NB0_546.out _ | refine IsS54.far ?_ NB0_557.out _) | exact HI0.out)) (by (with_reducible repeat (first | apply Kd.R_alloc | apply Kd.R_drewN | apply Kd.R_drew)); exact HO_558002.out) (by decide)) hk (fun _ h => h.2)) (fun _ h => h.1)); have n1_ := Aside0.mk (KeepBut.blk hk (g' := gb546) (o := .cells #[.int .i64 0, .int .i64 0, .slice none 0 0] 45 (0, 0)) (by (with_reducible repeat (first | refine blk_drewN ?_ _ | refine blk_drew ?_ | refine blk_alloc ?_ _)); exact BK546.out) NB546_0.out (by simp)); have n2_ := Aside0.mk (KeepBut.blk hk (g' := gb557) (o := .cells #[.int .i64 t551, .int .i64 t552, .slice Ao15 t553.length co15] 45 (0, 0)) (by (with_reducible repeat (first | refine blk_drewN ?_ _ | refine blk_drew ?_ | refine blk_alloc ?_ _)); exact BK557.out) NB557_0.out (by simp)); have n3_ := Aside0.mk (KeepBut.trans (by repeat (first | (with_reducible first | exact HK.out | apply KeepBut.set_ | apply keep_drewN | apply keep_drew | apply keep_alloc | refine keep_far ?_ GW546.out _ | refine keep_far ?_ GW557.out _) | exact HK.out)) hk (.inl rfl)); have n4_ := Aside0.mk (hb); have n5_ := Aside0.mk (hi); clear HO_558002 BK546 BK557 HK HB HI0; have HO_558002 := n0_; have BK546 := n1_; have BK557 := n2_; have HK := n3_; have HB := n4_; have HI0 := n5_; clear n0_ n1_ n2_ n3_ n4_ n5_; (try clear hb); (try clear hb2); (try clear hk); (try clear hi)) | ((with_reducible refine gate_callee (f := 39) rfl ?_); refine goesL_ (some 35) rfl rfl Try.func39 (by kernel_rfl) rfl #[.pointer (some ⟨g, 0, none⟩)] rfl (by (try simp only [List.map_toArray, List.map_cons, List.map_nil]); first | done | rfl | (simp only [List.length_drop, List.length_take]; rfl)) ?_; (with_reducible refine (awardingbodymake_Tape_Wild.calls g s0_0 t561 t562 t563 w0 _ ?side1 ?side2 A22.out).mono ?_); (case side1 => repeat (first | (with_reducible first | exact HI0.out | apply IsS54.alloc | apply IsS54.drewN | apply IsS54.drew | apply IsS54.set_1 | refine IsS54.far ?_ NB0_546.out _ | refine IsS54.far ?_ NB0_557.out _) | exact HI0.out)); (case side2 => repeat (first | (with_reducible first | exact HB.out | apply below_alloc | apply pw_below_drewN | apply below_drew1 | refine below_set ?_ (IsS54.ge HI0.out) | refine below_set ?_ GE546.out | refine below_set ?_ GE557.out) | exact HB.out)); rintro e w24 ⟨rfl, hi, hb, hk⟩; refine ⟨_, rfl, ?_⟩; have n0_ := Aside0.mk (Kd.R_mono (Kd.R_keep (IsS54.apart (show IsS54 w0 _ g s0_0 t561 from by repeat (first | (with_reducible first | exact HI0.out | apply IsS54.alloc | apply IsS54.drewN | apply IsS54.drew | apply IsS54.set_1 | refine IsS54.far ?_ NB0_546.out _ | refine IsS54.far ?_ NB0_557.out _) | exact HI0.out)) (by (with_reducible repeat (first | apply Kd.R_alloc | apply Kd.R_drewN | apply Kd.R_drew)); exact HO_558002.out) (by decide)) hk (fun _ h => h.2)) (fun _ h => h.1)); have n1_ := Aside0.mk (KeepBut.blk hk (g' := gb546) (o := .cells #[.int .i64 0, .int .i64 0, .slice none 0 0] 45 (0, 0)) (by (with_reducible repeat (first | refine blk_drewN ?_ _ | refine blk_drew ?_ | refine blk_alloc ?_ _)); exact BK546.out) NB546_0.out (by simp)); have n2_ := Aside0.mk (KeepBut.blk hk (g' := gb557) (o := .cells #[.int .i64 t551, .int .i64 t552, .slice Ao15 t553.length co15] 45 (0, 0)) (by (with_reducible repeat (first | refine blk_drewN ?_ _ | refine blk_drew ?_ | refine blk_alloc ?_ _)); exact BK557.out) NB557_0.out (by simp)); have n3_ := Aside0.mk (KeepBut.trans (by repeat (first | (with_reducible first | exact HK.out | apply KeepBut.set_ | apply keep_drewN | apply keep_drew | apply keep_alloc | refine keep_far ?_ GW546.out _ | refine keep_far ?_ GW557.out _) | exact HK.out)) hk (.inl rfl)); have n4_ := Aside0.mk (hb); have n5_ := Aside0.mk (hi); clear HO_558002 BK546 BK557 HK HB HI0; have HO_558002 := n0_; have BK546 := n1_; have BK557 := n2_; have HK := n3_; have HB := n4_; have HI0 := n5_; clear n0_ n1_ n2_ n3_ n4_ n5_; (try clear hb); (try clear hb2); (try clear hk); (try clear hi); have hnb25 := NB557_546.out; have hnc25 := NB546_557.out; have hnb26 := NB557_0.out; have hnc26 := NB0_557.out; have hcz27_0 : w24.cell? ⟨gb557, 0, none⟩ = some (.int .i64 t551) := (blk_cell BK557.out 0).trans rfl; have hcz27_1 : w24.cell? ⟨gb557, 1, none⟩ = some (.int .i64 t552) := (blk_cell BK557.out 1).trans rfl; have hcz27_2 : w24.cell? ⟨gb557, 2, none⟩ = some (.slice Ao15 t553.length co15) := (blk_cell BK557.out 2).trans rfl; have hfz27_0 := blk_frozen BK557.out 0; have hfz27_1 := blk_frozen BK557.out 1; have hfz27_2 := blk_frozen BK557.out 2; have hnb28 := NB546_0.out; have hnc28 := NB0_546.out; have hcz29_0 : w24.cell? ⟨gb546, 0, none⟩ = some (.int .i64 0) := (blk_cell BK546.out 0).trans rfl; have hcz29_1 : w24.cell? ⟨gb546, 1, none⟩ = some (.int .i64 0) := (blk_cell BK546.out 1).trans rfl; have hcz29_2 : w24.cell? ⟨gb546, 2, none⟩ = some (.slice none 0 0) := (blk_cell BK546.out 2).trans rfl; have hfz29_0 := blk_frozen BK546.out 0; have hfz29_1 := blk_frozen BK546.out 1; have hfz29_2 := blk_frozen BK546.out 2))
     refine bodyPost_ret (results_cell_row rfl _ _ gb546 45 #[.int .i64 t562, .int .i64 t552, .slice Ao15 t553.length co15] (0, 0) _ rfl (by (with_reducible repeat (first | refine blk_drewN ?_ _ | refine blk_drew ?_ | refine blk_alloc ?_ _)); refine blk_put (cs := #[.int .i64 t562, .int .i64 t552, .slice none 0 0]) ?_ 2 _ rfl; (with_reducible repeat (first | refine blk_drewN ?_ _ | refine blk_drew ?_ | refine blk_alloc ?_ _)); refine blk_put (cs := #[.int .i64 t562, .int .i64 0, .slice none 0 0]) ?_ 1 _ rfl; (with_reducible repeat (first | refine blk_drewN ?_ _ | refine blk_drew ?_ | refine blk_alloc ?_ _)); refine blk_put (cs := #[.int .i64 0, .int .i64 0, .slice none 0 0]) ?_ 0 _ rfl; (with_reducible repeat (first | refine blk_drewN ?_ _ | refine blk_drew ?_ | refine blk_alloc ?_ _)); refine blk_far ?_ NB546_557.out _; (with_reducible repeat (first | refine blk_drewN ?_ _ | refine blk_drew ?_ | refine blk_alloc ?_ _)); exact BK546.out) Try.underlying45 rfl (by kernel_rfl)) rfl ?_
     exact ⟨_, by first | rfl | (simp [errW_none, errW_some] <;> rfl) | (simp [*, errW_none, errW_some] <;> rfl), by (with_reducible repeat (first | apply Kd.R_alloc | apply Kd.R_drewN | apply Kd.R_drew)); exact Kd.R_mono (Kd.R_far (p := ⟨gb546, 2, none⟩) (Kd.R_far (p := ⟨gb546, 1, none⟩) (Kd.R_far (p := ⟨gb546, 0, none⟩) (Kd.R_far (p := ⟨gb557, 0, none⟩) (Kd.R_types (Kd.R_types HO_558002.out BK557.out (by decide)) BK546.out (by decide)) (fun _ hk => hk.1.2) (.int .i64 t562)) (fun _ hk => hk.2) (.int .i64 t562)) (fun _ hk => hk.2) (.int .i64 t552)) (fun _ hk => hk.2) (.slice Ao15 t553.length co15)) (fun _ hk => trivial), by repeat (first | (with_reducible first | exact HI0.out | apply IsS54.alloc | apply IsS54.drewN | apply IsS54.drew | apply IsS54.set_1 | refine IsS54.far ?_ NB0_546.out _ | refine IsS54.far ?_ NB0_557.out _) | exact HI0.out), by repeat (first | (with_reducible first | exact HB.out | apply below_alloc | apply pw_below_drewN | apply below_drew1 | refine below_set ?_ (IsS54.ge HI0.out) | refine below_set ?_ GE546.out | refine below_set ?_ GE557.out) | exact HB.out), by repeat (first | (with_reducible first | exact HK.out | apply KeepBut.set_ | apply keep_drewN | apply keep_drew | apply keep_alloc | refine keep_far ?_ GW546.out _ | refine keep_far ?_ GW557.out _) | exact HK.out)⟩
    ·rw [if_neg c21] at H
     have c21b0 : (t560 == 0) = false := beq_eq_false_iff_ne.mpr c21
     have c21b1 : (t560 != 0) = true := bne_iff_ne.mpr c21
     by_cases c30 : t560 = 1
     ·rw [if_pos c30] at H
      have c30b0 : (t560 == 1) = true := beq_iff_eq.mpr c30
      have c30b1 : (t560 != 1) = false := bne_eq_false_iff_eq.mpr c30
      clear c30
      replace H := Option.bind_eq_some_iff.mp H
      obtain ⟨⟨t564, t565⟩, A310, H⟩ := H
      replace H : (some (t551, t564, t553, t565)) = some (r1, r2, r3, r4) := H
      have A31 := Aside0.mk A310
      clear A310
      simp only [Option.some.injEq, Prod.mk.injEq] at H
      obtain ⟨rfl, rfl, rfl, rfl⟩ := H
      go_wp2_with (first | ((with_reducible refine gate_callee (f := 17) rfl ?_); refine goesL_ (some 21) rfl rfl Try.func17 (by kernel_rfl) rfl #[.pointer (some ⟨g, 0, none⟩), .int .i64 5] rfl (by (try simp only [List.map_toArray, List.map_cons, List.map_nil]); first | done | rfl | (simp only [List.length_drop, List.length_take]; rfl)) ?_; (with_reducible refine (awardingbodymake_Tape_Next.calls g s0_0 x1001_5 5 t560 t561 w0 _ ?side1 ?side2 A20.out).mono ?_); (case side1 => repeat (first | (with_reducible first | exact HI0.out | apply IsS54.alloc | apply IsS54.drewN | apply IsS54.drew | apply IsS54.set_1 | refine IsS54.far ?_ NB0_546.out _ | refine IsS54.far ?_ NB0_557.out _) | exact HI0.out)); (case side2 => repeat (first | (with_reducible first | exact HB.out | apply below_alloc | apply pw_below_drewN | apply below_drew1 | refine below_set ?_ (IsS54.ge HI0.out) | refine below_set ?_ GE546.out | refine below_set ?_ GE557.out) | exact HB.out)); rintro e w32 ⟨rfl, hi, hb, hk⟩; refine ⟨_, rfl, ?_⟩; have n0_ := Aside0.mk (Kd.R_mono (Kd.R_keep (IsS54.apart (show IsS54 w0 _ g s0_0 x1001_5 from by repeat (first | (with_reducible first | exact HI0.out | apply IsS54.alloc | apply IsS54.drewN | apply IsS54.drew | apply IsS54.set_1 | refine IsS54.far ?_ NB0_546.out _ | refine IsS54.far ?_ NB0_557.out _) | exact HI0.out)) (by (with_reducible repeat (first | apply Kd.R_alloc | apply Kd.R_drewN | apply Kd.R_drew)); exact HO_558002.out) (by decide)) hk (fun _ h => h.2)) (fun _ h => h.1)); have n1_ := Aside0.mk (KeepBut.blk hk (g' := gb546) (o := .cells #[.int .i64 0, .int .i64 0, .slice none 0 0] 45 (0, 0)) (by (with_reducible repeat (first | refine blk_drewN ?_ _ | refine blk_drew ?_ | refine blk_alloc ?_ _)); exact BK546.out) NB546_0.out (by simp)); have n2_ := Aside0.mk (KeepBut.blk hk (g' := gb557) (o := .cells #[.int .i64 t551, .int .i64 t552, .slice Ao15 t553.length co15] 45 (0, 0)) (by (with_reducible repeat (first | refine blk_drewN ?_ _ | refine blk_drew ?_ | refine blk_alloc ?_ _)); exact BK557.out) NB557_0.out (by simp)); have n3_ := Aside0.mk (KeepBut.trans (by repeat (first | (with_reducible first | exact HK.out | apply KeepBut.set_ | apply keep_drewN | apply keep_drew | apply keep_alloc | refine keep_far ?_ GW546.out _ | refine keep_far ?_ GW557.out _) | exact HK.out)) hk (.inl rfl)); have n4_ := Aside0.mk (hb); have n5_ := Aside0.mk (hi); clear HO_558002 BK546 BK557 HK HB HI0; have HO_558002 := n0_; have BK546 := n1_; have BK557 := n2_; have HK := n3_; have HB := n4_; have HI0 := n5_; clear n0_ n1_ n2_ n3_ n4_ n5_; (try clear hb); (try clear hb2); (try clear hk); (try clear hi)) | ((with_reducible refine gate_callee (f := 18) rfl ?_); refine goesL_ (some 40) rfl rfl Try.func18 (by kernel_rfl) rfl #[.pointer (some ⟨g, 0, none⟩), .int .i64 (-1), .int .i64 5] rfl (by (try simp only [List.map_toArray, List.map_cons, List.map_nil]); first | done | rfl | (simp only [List.length_drop, List.length_take]; rfl)) ?_; (with_reducible refine (awardingbodymake_Tape_Range.calls g s0_0 t561 (-1) 5 t564 t565 w0 _ ?side1 ?side2 A31.out).mono ?_); (case side1 => repeat (first | (with_reducible first | exact HI0.out | apply IsS54.alloc | apply IsS54.drewN | apply IsS54.drew | apply IsS54.set_1 | refine IsS54.far ?_ NB0_546.out _ | refine IsS54.far ?_ NB0_557.out _) | exact HI0.out)); (case side2 => repeat (first | (with_reducible first | exact HB.out | apply below_alloc | apply pw_below_drewN | apply below_drew1 | refine below_set ?_ (IsS54.ge HI0.out) | refine below_set ?_ GE546.out | refine below_set ?_ GE557.out) | exact HB.out)); rintro e w33 ⟨rfl, hi, hb, hk⟩; refine ⟨_, rfl, ?_⟩; have n0_ := Aside0.mk (Kd.R_mono (Kd.R_keep (IsS54.apart (show IsS54 w0 _ g s0_0 t561 from by repeat (first | (with_reducible first | exact HI0.out | apply IsS54.alloc | apply IsS54.drewN | apply IsS54.drew | apply IsS54.set_1 | refine IsS54.far ?_ NB0_546.out _ | refine IsS54.far ?_ NB0_557.out _) | exact HI0.out)) (by (with_reducible repeat (first | apply Kd.R_alloc | apply Kd.R_drewN | apply Kd.R_drew)); exact HO_558002.out) (by decide)) hk (fun _ h => h.2)) (fun _ h => h.1)); have n1_ := Aside0.mk (KeepBut.blk hk (g' := gb546) (o := .cells #[.int .i64 0, .int .i64 0, .slice none 0 0] 45 (0, 0)) (by (with_reducible repeat (first | refine blk_drewN ?_ _ | refine blk_drew ?_ | refine blk_alloc ?_ _)); exact BK546.out) NB546_0.out (by simp)); have n2_ := Aside0.mk (KeepBut.blk hk (g' := gb557) (o := .cells #[.int .i64 t551, .int .i64 t552, .slice Ao15 t553.length co15] 45 (0, 0)) (by (with_reducible repeat (first | refine blk_drewN ?_ _ | refine blk_drew ?_ | refine blk_alloc ?_ _)); exact BK557.out) NB557_0.out (by simp)); have n3_ := Aside0.mk (KeepBut.trans (by repeat (first | (with_reducible first | exact HK.out | apply KeepBut.set_ | apply keep_drewN | apply keep_drew | apply keep_alloc | refine keep_far ?_ GW546.out _ | refine keep_far ?_ GW557.out _) | exact HK.out)) hk (.inl rfl)); have n4_ := Aside0.mk (hb); have n5_ := Aside0.mk (hi); clear HO_558002 BK546 BK557 HK HB HI0; have HO_558002 := n0_; have BK546 := n1_; have BK557 := n2_; have HK := n3_; have HB := n4_; have HI0 := n5_; clear n0_ n1_ n2_ n3_ n4_ n5_; (try clear hb); (try clear hb2); (try clear hk); (try clear hi); have hnb34 := NB557_546.out; have hnc34 := NB546_557.out; have hnb35 := NB557_0.out; have hnc35 := NB0_557.out; have hcz36_0 : w33.cell? ⟨gb557, 0, none⟩ = some (.int .i64 t551) := (blk_cell BK557.out 0).trans rfl; have hcz36_1 : w33.cell? ⟨gb557, 1, none⟩ = some (.int .i64 t552) := (blk_cell BK557.out 1).trans rfl; have hcz36_2 : w33.cell? ⟨gb557, 2, none⟩ = some (.slice Ao15 t553.length co15) := (blk_cell BK557.out 2).trans rfl; have hfz36_0 := blk_frozen BK557.out 0; have hfz36_1 := blk_frozen BK557.out 1; have hfz36_2 := blk_frozen BK557.out 2; have hnb37 := NB546_0.out; have hnc37 := NB0_546.out; have hcz38_0 : w33.cell? ⟨gb546, 0, none⟩ = some (.int .i64 0) := (blk_cell BK546.out 0).trans rfl; have hcz38_1 : w33.cell? ⟨gb546, 1, none⟩ = some (.int .i64 0) := (blk_cell BK546.out 1).trans rfl; have hcz38_2 : w33.cell? ⟨gb546, 2, none⟩ = some (.slice none 0 0) := (blk_cell BK546.out 2).trans rfl; have hfz38_0 := blk_frozen BK546.out 0; have hfz38_1 := blk_frozen BK546.out 1; have hfz38_2 := blk_frozen BK546.out 2))
      refine bodyPost_ret (results_cell_row rfl _ _ gb546 45 #[.int .i64 t551, .int .i64 t564, .slice Ao15 t553.length co15] (0, 0) _ rfl (by (with_reducible repeat (first | refine blk_drewN ?_ _ | refine blk_drew ?_ | refine blk_alloc ?_ _)); refine blk_put (cs := #[.int .i64 t551, .int .i64 t564, .slice none 0 0]) ?_ 2 _ rfl; (with_reducible repeat (first | refine blk_drewN ?_ _ | refine blk_drew ?_ | refine blk_alloc ?_ _)); refine blk_put (cs := #[.int .i64 t551, .int .i64 0, .slice none 0 0]) ?_ 1 _ rfl; (with_reducible repeat (first | refine blk_drewN ?_ _ | refine blk_drew ?_ | refine blk_alloc ?_ _)); refine blk_put (cs := #[.int .i64 0, .int .i64 0, .slice none 0 0]) ?_ 0 _ rfl; (with_reducible repeat (first | refine blk_drewN ?_ _ | refine blk_drew ?_ | refine blk_alloc ?_ _)); refine blk_far ?_ NB546_557.out _; (with_reducible repeat (first | refine blk_drewN ?_ _ | refine blk_drew ?_ | refine blk_alloc ?_ _)); exact BK546.out) Try.underlying45 rfl (by kernel_rfl)) rfl ?_
      exact ⟨_, by first | rfl | (simp [errW_none, errW_some] <;> rfl) | (simp [*, errW_none, errW_some] <;> rfl), by (with_reducible repeat (first | apply Kd.R_alloc | apply Kd.R_drewN | apply Kd.R_drew)); exact Kd.R_mono (Kd.R_far (p := ⟨gb546, 2, none⟩) (Kd.R_far (p := ⟨gb546, 1, none⟩) (Kd.R_far (p := ⟨gb546, 0, none⟩) (Kd.R_far (p := ⟨gb557, 1, none⟩) (Kd.R_types (Kd.R_types HO_558002.out BK557.out (by decide)) BK546.out (by decide)) (fun _ hk => hk.1.2) (.int .i64 t564)) (fun _ hk => hk.2) (.int .i64 t551)) (fun _ hk => hk.2) (.int .i64 t564)) (fun _ hk => hk.2) (.slice Ao15 t553.length co15)) (fun _ hk => trivial), by repeat (first | (with_reducible first | exact HI0.out | apply IsS54.alloc | apply IsS54.drewN | apply IsS54.drew | apply IsS54.set_1 | refine IsS54.far ?_ NB0_546.out _ | refine IsS54.far ?_ NB0_557.out _) | exact HI0.out), by repeat (first | (with_reducible first | exact HB.out | apply below_alloc | apply pw_below_drewN | apply below_drew1 | refine below_set ?_ (IsS54.ge HI0.out) | refine below_set ?_ GE546.out | refine below_set ?_ GE557.out) | exact HB.out), by repeat (first | (with_reducible first | exact HK.out | apply KeepBut.set_ | apply keep_drewN | apply keep_drew | apply keep_alloc | refine keep_far ?_ GW546.out _ | refine keep_far ?_ GW557.out _) | exact HK.out)⟩
     ·rw [if_neg c30] at H
      have c30b0 : (t560 == 1) = false := beq_eq_false_iff_ne.mpr c30
      have c30b1 : (t560 != 1) = true := bne_iff_ne.mpr c30
      by_cases c39 : t560 = 2
      ·rw [if_pos c39] at H
       have c39b0 : (t560 == 2) = true := beq_iff_eq.mpr c39
       have c39b1 : (t560 != 2) = false := bne_eq_false_iff_eq.mpr c39
       clear c39
       simp only [Option.some.injEq, Prod.mk.injEq] at H
       obtain ⟨rfl, rfl, rfl, rfl⟩ := H
       go_wp2_with (first | ((with_reducible refine gate_callee (f := 17) rfl ?_); refine goesL_ (some 21) rfl rfl Try.func17 (by kernel_rfl) rfl #[.pointer (some ⟨g, 0, none⟩), .int .i64 5] rfl (by (try simp only [List.map_toArray, List.map_cons, List.map_nil]); first | done | rfl | (simp only [List.length_drop, List.length_take]; rfl)) ?_; (with_reducible refine (awardingbodymake_Tape_Next.calls g s0_0 x1001_5 5 t560 t561 w0 _ ?side1 ?side2 A20.out).mono ?_); (case side1 => repeat (first | (with_reducible first | exact HI0.out | apply IsS54.alloc | apply IsS54.drewN | apply IsS54.drew | apply IsS54.set_1 | refine IsS54.far ?_ NB0_546.out _ | refine IsS54.far ?_ NB0_557.out _) | exact HI0.out)); (case side2 => repeat (first | (with_reducible first | exact HB.out | apply below_alloc | apply pw_below_drewN | apply below_drew1 | refine below_set ?_ (IsS54.ge HI0.out) | refine below_set ?_ GE546.out | refine below_set ?_ GE557.out) | exact HB.out)); rintro e w40 ⟨rfl, hi, hb, hk⟩; refine ⟨_, rfl, ?_⟩; have n0_ := Aside0.mk (Kd.R_mono (Kd.R_keep (IsS54.apart (show IsS54 w0 _ g s0_0 x1001_5 from by repeat (first | (with_reducible first | exact HI0.out | apply IsS54.alloc | apply IsS54.drewN | apply IsS54.drew | apply IsS54.set_1 | refine IsS54.far ?_ NB0_546.out _ | refine IsS54.far ?_ NB0_557.out _) | exact HI0.out)) (by (with_reducible repeat (first | apply Kd.R_alloc | apply Kd.R_drewN | apply Kd.R_drew)); exact HO_558002.out) (by decide)) hk (fun _ h => h.2)) (fun _ h => h.1)); have n1_ := Aside0.mk (KeepBut.blk hk (g' := gb546) (o := .cells #[.int .i64 0, .int .i64 0, .slice none 0 0] 45 (0, 0)) (by (with_reducible repeat (first | refine blk_drewN ?_ _ | refine blk_drew ?_ | refine blk_alloc ?_ _)); exact BK546.out) NB546_0.out (by simp)); have n2_ := Aside0.mk (KeepBut.blk hk (g' := gb557) (o := .cells #[.int .i64 t551, .int .i64 t552, .slice Ao15 t553.length co15] 45 (0, 0)) (by (with_reducible repeat (first | refine blk_drewN ?_ _ | refine blk_drew ?_ | refine blk_alloc ?_ _)); exact BK557.out) NB557_0.out (by simp)); have n3_ := Aside0.mk (KeepBut.trans (by repeat (first | (with_reducible first | exact HK.out | apply KeepBut.set_ | apply keep_drewN | apply keep_drew | apply keep_alloc | refine keep_far ?_ GW546.out _ | refine keep_far ?_ GW557.out _) | exact HK.out)) hk (.inl rfl)); have n4_ := Aside0.mk (hb); have n5_ := Aside0.mk (hi); clear HO_558002 BK546 BK557 HK HB HI0; have HO_558002 := n0_; have BK546 := n1_; have BK557 := n2_; have HK := n3_; have HB := n4_; have HI0 := n5_; clear n0_ n1_ n2_ n3_ n4_ n5_; (try clear hb); (try clear hb2); (try clear hk); (try clear hi); have hnb41 := NB557_546.out; have hnc41 := NB546_557.out; have hnb42 := NB557_0.out; have hnc42 := NB0_557.out; have hcz43_0 : w40.cell? ⟨gb557, 0, none⟩ = some (.int .i64 t551) := (blk_cell BK557.out 0).trans rfl; have hcz43_1 : w40.cell? ⟨gb557, 1, none⟩ = some (.int .i64 t552) := (blk_cell BK557.out 1).trans rfl; have hcz43_2 : w40.cell? ⟨gb557, 2, none⟩ = some (.slice Ao15 t553.length co15) := (blk_cell BK557.out 2).trans rfl; have hfz43_0 := blk_frozen BK557.out 0; have hfz43_1 := blk_frozen BK557.out 1; have hfz43_2 := blk_frozen BK557.out 2; have hnb44 := NB546_0.out; have hnc44 := NB0_546.out; have hcz45_0 : w40.cell? ⟨gb546, 0, none⟩ = some (.int .i64 0) := (blk_cell BK546.out 0).trans rfl; have hcz45_1 : w40.cell? ⟨gb546, 1, none⟩ = some (.int .i64 0) := (blk_cell BK546.out 1).trans rfl; have hcz45_2 : w40.cell? ⟨gb546, 2, none⟩ = some (.slice none 0 0) := (blk_cell BK546.out 2).trans rfl; have hfz45_0 := blk_frozen BK546.out 0; have hfz45_1 := blk_frozen BK546.out 1; have hfz45_2 := blk_frozen BK546.out 2))
       refine bodyPost_ret (results_cell_row rfl _ _ gb546 45 #[.int .i64 t551, .int .i64 t552, .slice none 0 0] (0, 0) _ rfl (by (with_reducible repeat (first | refine blk_drewN ?_ _ | refine blk_drew ?_ | refine blk_alloc ?_ _)); refine blk_put (cs := #[.int .i64 t551, .int .i64 t552, .slice none 0 0]) ?_ 2 _ rfl; (with_reducible repeat (first | refine blk_drewN ?_ _ | refine blk_drew ?_ | refine blk_alloc ?_ _)); refine blk_put (cs := #[.int .i64 t551, .int .i64 0, .slice none 0 0]) ?_ 1 _ rfl; (with_reducible repeat (first | refine blk_drewN ?_ _ | refine blk_drew ?_ | refine blk_alloc ?_ _)); refine blk_put (cs := #[.int .i64 0, .int .i64 0, .slice none 0 0]) ?_ 0 _ rfl; (with_reducible repeat (first | refine blk_drewN ?_ _ | refine blk_drew ?_ | refine blk_alloc ?_ _)); refine blk_far ?_ NB546_557.out _; (with_reducible repeat (first | refine blk_drewN ?_ _ | refine blk_drew ?_ | refine blk_alloc ?_ _)); exact BK546.out) Try.underlying45 rfl (by kernel_rfl)) rfl ?_
       exact ⟨_, by first | rfl | (simp [errW_none, errW_some] <;> rfl) | (simp [*, errW_none, errW_some] <;> rfl), by first | exact Kd.R_nil _ _ _ _ _ | exact Kd.N_nil _ _ _ _ _ | exact Kd.V_nil _ _ _ _ _ | exact Kd.Q_nil _ _ _ _ _ | exact Kd.S_nil _ _ _ _ _, by repeat (first | (with_reducible first | exact HI0.out | apply IsS54.alloc | apply IsS54.drewN | apply IsS54.drew | apply IsS54.set_1 | refine IsS54.far ?_ NB0_546.out _ | refine IsS54.far ?_ NB0_557.out _) | exact HI0.out), by repeat (first | (with_reducible first | exact HB.out | apply below_alloc | apply pw_below_drewN | apply below_drew1 | refine below_set ?_ (IsS54.ge HI0.out) | refine below_set ?_ GE546.out | refine below_set ?_ GE557.out) | exact HB.out), by repeat (first | (with_reducible first | exact HK.out | apply KeepBut.set_ | apply keep_drewN | apply keep_drew | apply keep_alloc | refine keep_far ?_ GW546.out _ | refine keep_far ?_ GW557.out _) | exact HK.out)⟩
      ·rw [if_neg c39] at H
       have c39b0 : (t560 == 2) = false := beq_eq_false_iff_ne.mpr c39
       have c39b1 : (t560 != 2) = true := bne_iff_ne.mpr c39
       by_cases c46 : t560 = 3
       ·rw [if_pos c46] at H
        have c46b0 : (t560 == 3) = true := beq_iff_eq.mpr c46
        have c46b1 : (t560 != 3) = false := bne_eq_false_iff_eq.mpr c46
        clear c46
        replace H := Option.bind_eq_some_iff.mp H
        obtain ⟨⟨t566, t567, t568, t569, t570, t571, t572⟩, A470, H⟩ := H
        replace H : (if t553.length < 2932031007402 then (some (t551, t552, (t553 ++ [(⟨t566, t567, t568, t569, t570, t571⟩ : S23)]), t572)) else (none)) = some (r1, r2, r3, r4) := H
        have A47 := Aside0.mk A470
        clear A470
        by_cases c48 : t553.length < 2932031007402
        ·rw [if_pos c48] at H
         have LMc48 := Aside0.mk c48
         clear c48
         obtain ⟨y573, hy573⟩ : ∃ y_ : List (S23), y_ = (t553 ++ [(⟨t566, t567, t568, t569, t570, t571⟩ : S23)]) := ⟨_, rfl⟩
         replace H : (some (t551, t552, y573, t572)) = some (r1, r2, r3, r4) := by first | (rw [hy573]; with_reducible exact H) | (have H2_ := (Option.bind_some _ _).symm.trans H; rw [hy573]; with_reducible exact H2_) | (have H2_ := (Option.bind_some _ _).symm.trans H; with_reducible exact H2_) | with_reducible exact H | (rw [hy573]; exact H) | exact H
         have Ny573 := Aside0.mk hy573
         clear hy573
         simp only [Option.some.injEq, Prod.mk.injEq] at H
         obtain ⟨rfl, rfl, rfl, rfl⟩ := H
         try go_wp2_with (first | ((with_reducible refine gate_callee (f := 17) rfl ?_); refine goesL_ (some 21) rfl rfl Try.func17 (by kernel_rfl) rfl #[.pointer (some ⟨g, 0, none⟩), .int .i64 5] rfl (by (try simp only [List.map_toArray, List.map_cons, List.map_nil]); first | done | rfl | (simp only [List.length_drop, List.length_take]; rfl)) ?_; (with_reducible refine (awardingbodymake_Tape_Next.calls g s0_0 x1001_5 5 t560 t561 w0 _ ?side1 ?side2 A20.out).mono ?_); (case side1 => repeat (first | (with_reducible first | exact HI0.out | apply IsS54.alloc | apply IsS54.drewN | apply IsS54.drew | apply IsS54.set_1 | refine IsS54.far ?_ NB0_546.out _ | refine IsS54.far ?_ NB0_557.out _) | exact HI0.out)); (case side2 => repeat (first | (with_reducible first | exact HB.out | apply below_alloc | apply pw_below_drewN | apply below_drew1 | refine below_set ?_ (IsS54.ge HI0.out) | refine below_set ?_ GE546.out | refine below_set ?_ GE557.out) | exact HB.out)); rintro e w49 ⟨rfl, hi, hb, hk⟩; refine ⟨_, rfl, ?_⟩; have n0_ := Aside0.mk (Kd.R_mono (Kd.R_keep (IsS54.apart (show IsS54 w0 _ g s0_0 x1001_5 from by repeat (first | (with_reducible first | exact HI0.out | apply IsS54.alloc | apply IsS54.drewN | apply IsS54.drew | apply IsS54.set_1 | refine IsS54.far ?_ NB0_546.out _ | refine IsS54.far ?_ NB0_557.out _) | exact HI0.out)) (by (with_reducible repeat (first | apply Kd.R_alloc | apply Kd.R_drewN | apply Kd.R_drew)); exact HO_558002.out) (by decide)) hk (fun _ h => h.2)) (fun _ h => h.1)); have n1_ := Aside0.mk (KeepBut.blk hk (g' := gb546) (o := .cells #[.int .i64 0, .int .i64 0, .slice none 0 0] 45 (0, 0)) (by (with_reducible repeat (first | refine blk_drewN ?_ _ | refine blk_drew ?_ | refine blk_alloc ?_ _)); exact BK546.out) NB546_0.out (by simp)); have n2_ := Aside0.mk (KeepBut.blk hk (g' := gb557) (o := .cells #[.int .i64 t551, .int .i64 t552, .slice Ao15 t553.length co15] 45 (0, 0)) (by (with_reducible repeat (first | refine blk_drewN ?_ _ | refine blk_drew ?_ | refine blk_alloc ?_ _)); exact BK557.out) NB557_0.out (by simp)); have n3_ := Aside0.mk (KeepBut.trans (by repeat (first | (with_reducible first | exact HK.out | apply KeepBut.set_ | apply keep_drewN | apply keep_drew | apply keep_alloc | refine keep_far ?_ GW546.out _ | refine keep_far ?_ GW557.out _) | exact HK.out)) hk (.inl rfl)); have n4_ := Aside0.mk (hb); have n5_ := Aside0.mk (hi); clear HO_558002 BK546 BK557 HK HB HI0; have HO_558002 := n0_; have BK546 := n1_; have BK557 := n2_; have HK := n3_; have HB := n4_; have HI0 := n5_; clear n0_ n1_ n2_ n3_ n4_ n5_; (try clear hb); (try clear hb2); (try clear hk); (try clear hi)))
         have n0_ := Aside0.mk (Kd.R_drew HO_558002.out)
         have n1_ := Aside0.mk (blk_drew BK546.out)
         have n2_ := Aside0.mk (blk_drew BK557.out)
         have n3_ := Aside0.mk (IsS54.drew HI0.out)
         have n4_ := Aside0.mk (keep_drew HK.out)
         have n5_ := Aside0.mk (below_drew1 HB.out)
         clear HO_558002 BK546 BK557 HI0 HK HB
         have HO_558002 := n0_
         have BK546 := n1_
         have BK557 := n2_
         have HI0 := n3_
         have HK := n4_
         have HB := n5_
         clear n0_ n1_ n2_ n3_ n4_ n5_
         refine start_ (n := 8) (S := fun w' => w'.cell? ⟨gb557, 0, none⟩ = some (.int .i64 t551) ∧ w'.cell? ⟨gb557, 1, none⟩ = some (.int .i64 t552) ∧ w'.cell? ⟨gb557, 2, none⟩ = some (.slice Ao15 t553.length co15)) (ds := [7]) #[false, false, false, false, false, false, false, false] (by kernel_rfl) rfl rfl ⟨(blk_cell BK557.out 0).trans rfl, (blk_cell BK557.out 1).trans rfl, (blk_cell BK557.out 2).trans rfl⟩ (fun hHeld => ?_); refine with_tabW awardingbodymake_Tape_LoosePaper.tab15 awardingbodymake_Tape_LoosePaper.bits15 (fun HT_ HW_ => ?_)
         generalize w49.drew = w50 at HO_558002 BK546 BK557 HI0 HK HB hHeld ⊢
         refine pure_ (i := 0) (N := some 47) (v := ?_) (a' := ?_) #[true, false, false, false, false, false, false, false] rfl rfl (any_of HT_.out (by kernel_rfl)) (fun _ _ _ h => h) (Or.inl ⟨by rfl, ?_⟩) ?_ ?_
         rotate_left
         ·intro w'
          go_simp
          with_reducible rfl
         rotate_left
         ·simp only [Act.put, List.setIfInBounds_toArray, List.set_cons_zero, List.set_cons_succ, i64_w, i32_w]
          rfl
         refine pure_ (i := 2) (N := some 49) (v := ?_) (a' := ?_) #[true, false, true, false, false, false, false, false] rfl rfl (any_of HT_.out (by kernel_rfl)) (fun _ _ _ h => h) (Or.inl ⟨by rfl, ?_⟩) ?_ ?_
         rotate_left
         ·intro w'
          go_simp
          with_reducible rfl
         rotate_left
         ·simp only [Act.put, List.setIfInBounds_toArray, List.set_cons_zero, List.set_cons_succ, i64_w, i32_w]
          rfl
         refine take_ (i := 1) (N := some 48) (v := ?_) (a' := ?_) #[true, true, true, false, false, false, false, false] rfl rfl (take_ofW HT_.out HW_.out (by kernel_rfl)) (fun _ _ _ h => h) (Or.inl ⟨by rfl, ?_⟩) hHeld ?_ ?_
         rotate_left
         ·rintro w' ⟨s0, s1, s2⟩
          go_simp
          with_reducible rfl
         rotate_left
         ·simp only [Act.put, List.setIfInBounds_toArray, List.set_cons_zero, List.set_cons_succ, i64_w, i32_w]
          rfl
         refine one_ (i := 3) (N := some 50) #[true, true, true, true, false, false, false, false] rfl rfl (one_of HT_.out (by kernel_rfl)) (by decide) (fun K hK => ?_)
         refine goes_ Try.func23 (by kernel_rfl) rfl #[.pointer (some ⟨g, 0, none⟩), .int .i64 1] (by rfl) rfl rfl (by (try simp only [List.map_toArray, List.map_cons, List.map_nil]); first | done | rfl | (simp only [List.length_drop, List.length_take]; rfl)) ?_
         with_reducible refine (awardingbodymake_Tape_Part.calls kj5 g s0_0 t561 1 t566 t567 t568 t569 t570 t571 t572 w0 _ ?side1 ?side2 A47.out).mono ?_
         (case side1 => repeat (first | (with_reducible first | exact HI0.out | apply IsS54.alloc | apply IsS54.drewN | apply IsS54.drew | apply IsS54.set_1 | refine IsS54.far ?_ NB0_546.out _ | refine IsS54.far ?_ NB0_557.out _) | exact HI0.out))
         (case side2 => repeat (first | (with_reducible first | exact HB.out | apply below_alloc | apply pw_below_drewN | apply below_drew1 | refine below_set ?_ (IsS54.ge HI0.out) | refine below_set ?_ GE546.out | refine below_set ?_ GE557.out) | exact HB.out))
         rintro e w51 ⟨rfl, hi, hb, hk⟩
         refine ⟨_, rfl, ?_⟩
         have n0_ := Aside0.mk (Kd.R_mono (Kd.R_keep (IsS54.apart (show IsS54 w0 _ g s0_0 t561 from by repeat (first | (with_reducible first | exact HI0.out | apply IsS54.alloc | apply IsS54.drewN | apply IsS54.drew | apply IsS54.set_1 | refine IsS54.far ?_ NB0_546.out _ | refine IsS54.far ?_ NB0_557.out _) | exact HI0.out)) (by (with_reducible repeat (first | apply Kd.R_alloc | apply Kd.R_drewN | apply Kd.R_drew)); exact HO_558002.out) (by decide)) hk (fun _ h => h.2)) (fun _ h => h.1))
         have n1_ := Aside0.mk (KeepBut.blk hk (g' := gb546) (o := .cells #[.int .i64 0, .int .i64 0, .slice none 0 0] 45 (0, 0)) (by (with_reducible repeat (first | refine blk_drewN ?_ _ | refine blk_drew ?_ | refine blk_alloc ?_ _)); exact BK546.out) NB546_0.out (by simp))
         have n2_ := Aside0.mk (KeepBut.blk hk (g' := gb557) (o := .cells #[.int .i64 t551, .int .i64 t552, .slice Ao15 t553.length co15] 45 (0, 0)) (by (with_reducible repeat (first | refine blk_drewN ?_ _ | refine blk_drew ?_ | refine blk_alloc ?_ _)); exact BK557.out) NB557_0.out (by simp))
         have n3_ := Aside0.mk (KeepBut.trans (by repeat (first | (with_reducible first | exact HK.out | apply KeepBut.set_ | apply keep_drewN | apply keep_drew | apply keep_alloc | refine keep_far ?_ GW546.out _ | refine keep_far ?_ GW557.out _) | exact HK.out)) hk (.inl rfl))
         have n4_ := Aside0.mk (hb)
         have n5_ := Aside0.mk (hi)
         clear HO_558002 BK546 BK557 HK HB HI0
         have HO_558002 := n0_
         have BK546 := n1_
         have BK557 := n2_
         have HK := n3_
         have HB := n4_
         have HI0 := n5_
         clear n0_ n1_ n2_ n3_ n4_ n5_
         (try clear hb)
         (try clear hb2)
         (try clear hk)
         (try clear hi)
         refine hK.out _ _ ⟨(blk_cell BK557.out 0).trans rfl, (blk_cell BK557.out 1).trans rfl, (blk_cell BK557.out 2).trans rfl⟩ (fun hHeld => ?_)
         clear hK K
         refine norm_ (a' := ?_) ?_ ?_
         rotate_left
         ·show Act.put _ (some 50) _ = _
          simp only [Act.put, List.setIfInBounds_toArray, List.set_cons_zero, List.set_cons_succ, i64_w, i32_w]
          rfl
         refine one_ (i := 4) (N := some 51) #[true, true, true, true, true, false, false, false] rfl rfl (one_of HT_.out (by kernel_rfl)) (by decide) (fun K hK => ?_)
         refine value_ (w1 := ?_) (v := ?_) (by rfl) rfl ?_ ?_
         rotate_left 2
         ·go_simp
          constructor
          ·rfl
          ·rfl
         refine hK.out _ _ ⟨(blk_cell (blk_alloc BK557.out _) 0).trans rfl, (blk_cell (blk_alloc BK557.out _) 1).trans rfl, (blk_cell (blk_alloc BK557.out _) 2).trans rfl⟩ (fun hHeld => ?_)
         clear hK K
         refine norm_ (a' := ?_) ?_ ?_
         rotate_left
         ·show Act.put _ (some 51) _ = _
          simp only [Act.put, List.setIfInBounds_toArray, List.set_cons_zero, List.set_cons_succ, i64_w, i32_w]
          rfl
         refine one_ (i := 5) (N := some 52) #[true, true, true, true, true, true, false, false] rfl rfl (one_of HT_.out (by kernel_rfl)) (by decide) (fun K hK => ?_)
         refine Kd.R_append_step k23 w.heap.size (by rfl) (.tmp 48) (.tmp 51) 31 23 (.agg #[(.int .i64 0), (.int .i64 0), (.int .i64 0), (.int .i64 0), (.int .i64 0), (.int .i64 0)]) 48 rfl Try.underlying31 info23 rfl (by decide) (by omega) (.slice Ao15 t553.length co15) t553 (⟨t566, t567, t568, t569, t570, t571⟩ : S23) [.int .i64 t566, .int .i64 t567, .int .i64 t568, .int .i64 t569, .int .i64 t570, .int .i64 t571] (fun _ => True) (fun _ => False) rfl rfl ?aP (fun _ hk => hk.elim) ?aF ?aO (Below.refl _ _) ?aS ?aL ?_
         (case aP => exact k23_mkM _ _ _ (⟨t566, t567, t568, t569, t570, t571⟩ : S23))
         (case aF => exact (fun _ _ => trivial))
         (case aO => exact (by (with_reducible repeat (first | apply Kd.R_alloc | apply Kd.R_drewN | apply Kd.R_drew)); exact HO_558002.out))
         (case aS => exact (keep_size (w := w) (g := g) (row := none) (by repeat (first | (with_reducible first | exact HK.out | apply KeepBut.set_ | apply keep_drewN | apply keep_drew | apply keep_alloc | refine keep_far ?_ GW546.out _ | refine keep_far ?_ GW557.out _) | exact HK.out))))
         (case aL => have := LMc48.out; omega)
         intro v574 w52 ho hb hg hat
         rw [← Ny573.out] at ho
         have n0_ := Aside0.mk (blk_grown (g := gb546) (o := .cells #[.int .i64 0, .int .i64 0, .slice none 0 0] 45 (0, 0)) (by (with_reducible repeat (first | refine blk_drewN ?_ _ | refine blk_drew ?_ | refine blk_alloc ?_ _)); exact BK546.out) hg (Kd.R_ne HO_558002.out BK546.out (by decide)))
         have n1_ := Aside0.mk (blk_grown (g := gb557) (o := .cells #[.int .i64 t551, .int .i64 t552, .slice Ao15 t553.length co15] 45 (0, 0)) (by (with_reducible repeat (first | refine blk_drewN ?_ _ | refine blk_drew ?_ | refine blk_alloc ?_ _)); exact BK557.out) hg (Kd.R_ne HO_558002.out BK557.out (by decide)))
         have n2_ := Aside0.mk (IsS54.grown (by repeat (first | (with_reducible first | exact HI0.out | apply IsS54.alloc | apply IsS54.drewN | apply IsS54.drew | apply IsS54.set_1 | refine IsS54.far ?_ NB0_546.out _ | refine IsS54.far ?_ NB0_557.out _) | exact HI0.out)) hg (IsS54.own_ne HI0.out HO_558002.out (by decide)))
         have n3_ := Aside0.mk (below_weaken (by repeat (first | (with_reducible first | exact HB.out | apply below_alloc | apply pw_below_drewN | apply below_drew1 | refine below_set ?_ (IsS54.ge HI0.out) | refine below_set ?_ GE546.out | refine below_set ?_ GE557.out) | exact HB.out)) HL.out hb)
         have n4_ := Aside0.mk (KeepBut.trans (by repeat (first | (with_reducible first | exact HK.out | apply KeepBut.set_ | apply keep_drewN | apply keep_drew | apply keep_alloc | refine keep_far ?_ GW546.out _ | refine keep_far ?_ GW557.out _) | exact HK.out)) (KeepBut.of_grown hg g) (Kd.R_base2 HO_558002.out))
         have n5_ := Aside0.mk (ho)
         clear BK546 BK557 HI0 HB HK HO_558002
         have BK546 := n0_
         have BK557 := n1_
         have HI0 := n2_
         have HB := n3_
         have HK := n4_
         have HO575 := n5_
         clear n0_ n1_ n2_ n3_ n4_ n5_ ho hb hg hat
         obtain ⟨Ao53, co53, eo53⟩ := Kd.R_slice HO575.out
         (first | subst eo53 | (injection eo53 with f1_ f2_ f3_; have f4_ := f1_.symm; have f5_ := f3_.symm; clear f1_ f2_ f3_; subst f4_; subst f5_))
         refine hK.out _ _ ⟨(blk_cell BK557.out 0).trans rfl, (blk_cell BK557.out 1).trans rfl, (blk_cell BK557.out 2).trans rfl⟩ (fun hHeld => ?_)
         clear hK K
         refine norm_ (a' := ?_) ?_ ?_
         rotate_left
         ·show Act.put _ (some 52) _ = _
          simp only [Act.put, List.setIfInBounds_toArray, List.set_cons_zero, List.set_cons_succ, i64_w, i32_w]
          rfl
         refine pure_ (i := 6) (N := some 53) (v := ?_) (a' := ?_) #[true, true, true, true, true, true, true, false] rfl rfl (any_of HT_.out (by kernel_rfl)) (fun _ _ _ h => h) (Or.inl ⟨by rfl, ?_⟩) ?_ ?_
         rotate_left
         ·intro w'
          go_simp
          with_reducible rfl
         rotate_left
         ·simp only [Act.put, List.setIfInBounds_toArray, List.set_cons_zero, List.set_cons_succ, i64_w, i32_w]
          rfl
         refine last_ (i := 7) (N := none) #[true, true, true, true, true, true, true, true] rfl rfl (one_of HT_.out (by kernel_rfl)) (by decide) (fun K hK => ?_)
         have hs54 : w52.cell? ⟨gb557, 2, none⟩ = some (.slice Ao15 t553.length co15) := (blk_cell BK557.out 2).trans rfl
         have hfs54 := blk_frozen BK557.out 2
         have hns54_0 := NB546_557.out
         have hms54_0 := NB557_546.out
         refine skip_ (w1 := ?_) (by rfl) rfl ?_ ?_
         rotate_left
         ·go_simp
          rfl
         refine hK.out _ _ ?_
         clear hK K
         refine done_ (done_of HT_.out (by kernel_rfl)) ?_
         have hnb55 := NB557_546.out
         have hnc55 := NB546_557.out
         have hnb56 := NB557_0.out
         have hnc56 := NB0_557.out
         have hcz57_0 : w52.cell? ⟨gb557, 0, none⟩ = some (.int .i64 t551) := (blk_cell BK557.out 0).trans rfl
         have hcz57_1 : w52.cell? ⟨gb557, 1, none⟩ = some (.int .i64 t552) := (blk_cell BK557.out 1).trans rfl
         have hcz57_2 : w52.cell? ⟨gb557, 2, none⟩ = some (.slice Ao15 t553.length co15) := (blk_cell BK557.out 2).trans rfl
         have hfz57_0 := blk_frozen BK557.out 0
         have hfz57_1 := blk_frozen BK557.out 1
         have hfz57_2 := blk_frozen BK557.out 2
         have hnb58 := NB546_0.out
         have hnc58 := NB0_546.out
         have hcz59_0 : w52.cell? ⟨gb546, 0, none⟩ = some (.int .i64 0) := (blk_cell BK546.out 0).trans rfl
         have hcz59_1 : w52.cell? ⟨gb546, 1, none⟩ = some (.int .i64 0) := (blk_cell BK546.out 1).trans rfl
         have hcz59_2 : w52.cell? ⟨gb546, 2, none⟩ = some (.slice none 0 0) := (blk_cell BK546.out 2).trans rfl
         have hfz59_0 := blk_frozen BK546.out 0
         have hfz59_1 := blk_frozen BK546.out 1
         have hfz59_2 := blk_frozen BK546.out 2
         try go_wp2
         refine bodyPost_ret (results_cell_row rfl _ _ gb546 45 #[.int .i64 t551, .int .i64 t552, .slice Ao53 y573.length co53] (0, 0) _ rfl (by (with_reducible repeat (first | refine blk_drewN ?_ _ | refine blk_drew ?_ | refine blk_alloc ?_ _)); refine blk_put (cs := #[.int .i64 t551, .int .i64 t552, .slice none 0 0]) ?_ 2 _ rfl; (with_reducible repeat (first | refine blk_drewN ?_ _ | refine blk_drew ?_ | refine blk_alloc ?_ _)); refine blk_put (cs := #[.int .i64 t551, .int .i64 0, .slice none 0 0]) ?_ 1 _ rfl; (with_reducible repeat (first | refine blk_drewN ?_ _ | refine blk_drew ?_ | refine blk_alloc ?_ _)); refine blk_put (cs := #[.int .i64 0, .int .i64 0, .slice none 0 0]) ?_ 0 _ rfl; (with_reducible repeat (first | refine blk_drewN ?_ _ | refine blk_drew ?_ | refine blk_alloc ?_ _)); refine blk_far ?_ NB546_557.out _; (with_reducible repeat (first | refine blk_drewN ?_ _ | refine blk_drew ?_ | refine blk_alloc ?_ _)); exact BK546.out) Try.underlying45 rfl (by kernel_rfl)) rfl ?_
         exact ⟨_, by first | rfl | (simp [errW_none, errW_some] <;> rfl) | (simp [*, errW_none, errW_some] <;> rfl), by (with_reducible repeat (first | apply Kd.R_alloc | apply Kd.R_drewN | apply Kd.R_drew)); exact Kd.R_mono (Kd.R_far (p := ⟨gb546, 2, none⟩) (Kd.R_far (p := ⟨gb546, 1, none⟩) (Kd.R_far (p := ⟨gb546, 0, none⟩) (Kd.R_far (p := ⟨gb557, 2, none⟩) (Kd.R_types (Kd.R_types HO575.out BK557.out (by decide)) BK546.out (by decide)) (fun _ hk => hk.1.2) (.slice Ao53 y573.length co53)) (fun _ hk => hk.2) (.int .i64 t551)) (fun _ hk => hk.2) (.int .i64 t552)) (fun _ hk => hk.2) (.slice Ao53 y573.length co53)) (fun _ hk => trivial), by repeat (first | (with_reducible first | exact HI0.out | apply IsS54.alloc | apply IsS54.drewN | apply IsS54.drew | apply IsS54.set_1 | refine IsS54.far ?_ NB0_546.out _ | refine IsS54.far ?_ NB0_557.out _) | exact HI0.out), by repeat (first | (with_reducible first | exact HB.out | apply below_alloc | apply pw_below_drewN | apply below_drew1 | refine below_set ?_ (IsS54.ge HI0.out) | refine below_set ?_ GE546.out | refine below_set ?_ GE557.out) | exact HB.out), by repeat (first | (with_reducible first | exact HK.out | apply KeepBut.set_ | apply keep_drewN | apply keep_drew | apply keep_alloc | refine keep_far ?_ GW546.out _ | refine keep_far ?_ GW557.out _) | exact HK.out)⟩
        ·rw [if_neg c48] at H
         exact absurd H (by simp)
       ·rw [if_neg c46] at H
        have c46b0 : (t560 == 3) = false := beq_eq_false_iff_ne.mpr c46
        have c46b1 : (t560 != 3) = true := bne_iff_ne.mpr c46
        have H' := Aside0.mk H
        clear H
        go_wp2_with (first | ((with_reducible refine gate_callee (f := 17) rfl ?_); refine goesL_ (some 21) rfl rfl Try.func17 (by kernel_rfl) rfl #[.pointer (some ⟨g, 0, none⟩), .int .i64 5] rfl (by (try simp only [List.map_toArray, List.map_cons, List.map_nil]); first | done | rfl | (simp only [List.length_drop, List.length_take]; rfl)) ?_; (with_reducible refine (awardingbodymake_Tape_Next.calls g s0_0 x1001_5 5 t560 t561 w0 _ ?side1 ?side2 A20.out).mono ?_); (case side1 => repeat (first | (with_reducible first | exact HI0.out | apply IsS54.alloc | apply IsS54.drewN | apply IsS54.drew | apply IsS54.set_1 | refine IsS54.far ?_ NB0_546.out _ | refine IsS54.far ?_ NB0_557.out _) | exact HI0.out)); (case side2 => repeat (first | (with_reducible first | exact HB.out | apply below_alloc | apply pw_below_drewN | apply below_drew1 | refine below_set ?_ (IsS54.ge HI0.out) | refine below_set ?_ GE546.out | refine below_set ?_ GE557.out) | exact HB.out)); rintro e w60 ⟨rfl, hi, hb, hk⟩; refine ⟨_, rfl, ?_⟩; have n0_ := Aside0.mk (Kd.R_mono (Kd.R_keep (IsS54.apart (show IsS54 w0 _ g s0_0 x1001_5 from by repeat (first | (with_reducible first | exact HI0.out | apply IsS54.alloc | apply IsS54.drewN | apply IsS54.drew | apply IsS54.set_1 | refine IsS54.far ?_ NB0_546.out _ | refine IsS54.far ?_ NB0_557.out _) | exact HI0.out)) (by (with_reducible repeat (first | apply Kd.R_alloc | apply Kd.R_drewN | apply Kd.R_drew)); exact HO_558002.out) (by decide)) hk (fun _ h => h.2)) (fun _ h => h.1)); have n1_ := Aside0.mk (KeepBut.blk hk (g' := gb546) (o := .cells #[.int .i64 0, .int .i64 0, .slice none 0 0] 45 (0, 0)) (by (with_reducible repeat (first | refine blk_drewN ?_ _ | refine blk_drew ?_ | refine blk_alloc ?_ _)); exact BK546.out) NB546_0.out (by simp)); have n2_ := Aside0.mk (KeepBut.blk hk (g' := gb557) (o := .cells #[.int .i64 t551, .int .i64 t552, .slice Ao15 t553.length co15] 45 (0, 0)) (by (with_reducible repeat (first | refine blk_drewN ?_ _ | refine blk_drew ?_ | refine blk_alloc ?_ _)); exact BK557.out) NB557_0.out (by simp)); have n3_ := Aside0.mk (KeepBut.trans (by repeat (first | (with_reducible first | exact HK.out | apply KeepBut.set_ | apply keep_drewN | apply keep_drew | apply keep_alloc | refine keep_far ?_ GW546.out _ | refine keep_far ?_ GW557.out _) | exact HK.out)) hk (.inl rfl)); have n4_ := Aside0.mk (hb); have n5_ := Aside0.mk (hi); clear HO_558002 BK546 BK557 HK HB HI0; have HO_558002 := n0_; have BK546 := n1_; have BK557 := n2_; have HK := n3_; have HB := n4_; have HI0 := n5_; clear n0_ n1_ n2_ n3_ n4_ n5_; (try clear hb); (try clear hb2); (try clear hk); (try clear hi)))
        go_loopg [6] kj5 (fun kq v6 w' => ∃ (x6_2 : Int) (x558002_2 : List (S23)) (u558002 : Value), v6 = .int .i64 x6_2 ∧ Aside0 (awardingbodymake_Tape_LoosePaper.l0 kq x6_2 s0_0 t561 t551 t552 x558002_2 = some (r1, r2, r3, r4)) ∧ Aside0 (kq ≤ kj5) ∧ Aside0 (Kd.R k23 23 w' w.heap.size (fun _ => True) u558002 x558002_2) ∧ Aside0 (w'.heap[gb546]? = some (.cells #[.int .i64 0, .int .i64 0, (.slice none 0 0)] 45 (0, 0))) ∧ Aside0 (w'.heap[gb557]? = some (.cells #[.int .i64 t551, .int .i64 t552, u558002] 45 (0, 0))) ∧ Aside0 (IsS54 w0 w' g s0_0 t561) ∧ Aside0 (KeepBut w w' g none) ∧ Aside0 (Below w0.heap.size w0 w'))
        case atStart => exact ⟨(0), (t553), (.slice Ao15 t553.length co15), (by first | rfl | (simp; done) | (simp [*]; done)), H', ⟨Nat.le_refl _⟩, ⟨by (with_reducible repeat (first | apply Kd.R_alloc | apply Kd.R_drewN | apply Kd.R_drew)); exact HO_558002.out⟩, ⟨by (with_reducible repeat (first | refine blk_drewN ?_ _ | refine blk_drew ?_ | refine blk_alloc ?_ _)); exact BK546.out⟩, ⟨by (with_reducible repeat (first | refine blk_drewN ?_ _ | refine blk_drew ?_ | refine blk_alloc ?_ _)); exact BK557.out⟩, ⟨by repeat (first | (with_reducible first | exact HI0.out | apply IsS54.alloc | apply IsS54.drewN | apply IsS54.drew | apply IsS54.set_1 | refine IsS54.far ?_ NB0_546.out _ | refine IsS54.far ?_ NB0_557.out _) | exact HI0.out)⟩, ⟨by repeat (first | (with_reducible first | exact HK.out | apply KeepBut.set_ | apply keep_drewN | apply keep_drew | apply keep_alloc | refine keep_far ?_ GW546.out _ | refine keep_far ?_ GW557.out _) | exact HK.out)⟩, ⟨by repeat (first | (with_reducible first | exact HB.out | apply below_alloc | apply pw_below_drewN | apply below_drew1 | refine below_set ?_ (IsS54.ge HI0.out) | refine below_set ?_ GE546.out | refine below_set ?_ GE557.out) | exact HB.out)⟩⟩
        case round =>
         clear H'
         try clear c1
         try clear c2
         try clear p2
         try clear c3
         try clear c4
         try clear c5
         try clear c12
         try clear c13
         try clear c16
         try clear c16b0
         try clear c17
         try clear c18
         try clear c19
         try clear c21
         try clear c21b0
         try clear c21b1
         try clear c23
         try clear c25
         try clear c26
         try clear c28
         try clear c30
         try clear c30b0
         try clear c30b1
         try clear c33
         try clear c34
         try clear c35
         try clear c37
         try clear c39
         try clear c39b0
         try clear c39b1
         try clear c41
         try clear c42
         try clear c44
         try clear c46
         try clear c46b0
         try clear c46b1
         try clear c48
         try clear c52
         try clear c55
         try clear c56
         try clear c58
         try clear hcz14_0
         try clear hcz14_1
         try clear hcz14_2
         try clear hcz27_0
         try clear hcz27_1
         try clear hcz27_2
         try clear hcz29_0
         try clear hcz29_1
         try clear hcz29_2
         try clear hcz36_0
         try clear hcz36_1
         try clear hcz36_2
         try clear hcz38_0
         try clear hcz38_1
         try clear hcz38_2
         try clear hcz43_0
         try clear hcz43_1
         try clear hcz43_2
         try clear hcz45_0
         try clear hcz45_1
         try clear hcz45_2
         try clear hcz57_0
         try clear hcz57_1
         try clear hcz57_2
         try clear hcz59_0
         try clear hcz59_1
         try clear hcz59_2
         try clear hfz14_0
         try clear hfz14_1
         try clear hfz14_2
         try clear hfz27_0
         try clear hfz27_1
         try clear hfz27_2
         try clear hfz29_0
         try clear hfz29_1
         try clear hfz29_2
         try clear hfz36_0
         try clear hfz36_1
         try clear hfz36_2
         try clear hfz38_0
         try clear hfz38_1
         try clear hfz38_2
         try clear hfz43_0
         try clear hfz43_1
         try clear hfz43_2
         try clear hfz45_0
         try clear hfz45_1
         try clear hfz45_2
         try clear hfz57_0
         try clear hfz57_1
         try clear hfz57_2
         try clear hfz59_0
         try clear hfz59_1
         try clear hfz59_2
         try clear p2
         obtain ⟨x6_2, x558002_2, u558002, rfl, HA, HK2, HO_558002, BK546, BK557, HI0, HK, HB⟩ := hrel
         cases gk with
         | zero => exact absurd HA.out (by simp [awardingbodymake_Tape_LoosePaper.l0])
         | succ k2 =>
          have H := HA.out
          clear HA
          simp only [awardingbodymake_Tape_LoosePaper.l0] at H
          by_cases c61 : x6_2 < 6
          ·rw [if_pos c61] at H
           have c61b0 : decide (x6_2 < 6) = true := decide_eq_true c61
           clear c61
           by_cases c62 : x558002_2.length < 2932031007402
           ·rw [if_pos c62] at H
            have LMc62 := Aside0.mk c62
            clear c62
            obtain ⟨y576, hy576⟩ : ∃ y_ : List (S23), y_ = (x558002_2 ++ [(⟨1, 40, 0, 0, 0, 0⟩ : S23)]) := ⟨_, rfl⟩
            replace H : (awardingbodymake_Tape_LoosePaper.l0 k2 (wrap64 (x6_2 + 1)) s0_0 t561 t551 t552 y576) = some (r1, r2, r3, r4) := by first | (rw [hy576]; with_reducible exact H) | (have H2_ := (Option.bind_some _ _).symm.trans H; rw [hy576]; with_reducible exact H2_) | (have H2_ := (Option.bind_some _ _).symm.trans H; with_reducible exact H2_) | with_reducible exact H | (rw [hy576]; exact H) | exact H
            have Ny576 := Aside0.mk hy576
            clear hy576
            have H' := Aside0.mk H
            clear H
            have hnb63 := NB557_546.out
            have hnc63 := NB546_557.out
            have hnb64 := NB557_0.out
            have hnc64 := NB0_557.out
            have hcz65_0 : wr.cell? ⟨gb557, 0, none⟩ = some (.int .i64 t551) := (blk_cell BK557.out 0).trans rfl
            have hcz65_1 : wr.cell? ⟨gb557, 1, none⟩ = some (.int .i64 t552) := (blk_cell BK557.out 1).trans rfl
            have hcz65_2 : wr.cell? ⟨gb557, 2, none⟩ = some (u558002) := (blk_cell BK557.out 2).trans rfl
            have hfz65_0 := blk_frozen BK557.out 0
            have hfz65_1 := blk_frozen BK557.out 1
            have hfz65_2 := blk_frozen BK557.out 2
            go_wp2_with (first | ((with_reducible refine gate_builtin (b := .append) (xs := #[.tmp 27, .tmp 29]) rfl ?_); at_builtin; refine Kd.R_append k23 w.heap.size rfl (.tmp 27) (.tmp 29) 31 23 (.agg #[(.int .i64 0), (.int .i64 0), (.int .i64 0), (.int .i64 0), (.int .i64 0), (.int .i64 0)]) 48 rfl Try.underlying31 info23 rfl (by decide) (by omega) u558002 x558002_2 (⟨1, 40, 0, 0, 0, 0⟩ : S23) [.int .i64 1, .int .i64 40, .int .i64 0, .int .i64 0, .int .i64 0, .int .i64 0] (fun _ => True) (fun _ => False) rfl rfl ?aP (fun _ hk => hk.elim) ?aF ?aO (Below.refl _ _) ?aS ?aL ?_; (case aP => exact k23_mkM _ _ _ (⟨1, 40, 0, 0, 0, 0⟩ : S23)); (case aF => exact (fun _ _ => trivial)); (case aO => exact (by (with_reducible repeat (first | apply Kd.R_alloc | apply Kd.R_drewN | apply Kd.R_drew)); exact HO_558002.out)); (case aS => exact (keep_size (w := w) (g := g) (row := none) (by repeat (first | (with_reducible first | exact HK.out | apply KeepBut.set_ | apply keep_drewN | apply keep_drew | apply keep_alloc | refine keep_far ?_ GW546.out _ | refine keep_far ?_ GW557.out _) | exact HK.out)))); (case aL => have := LMc62.out; omega); intro v577 w66 ho hb hg hat; rw [← Ny576.out] at ho; have n0_ := Aside0.mk (blk_grown (g := gb546) (o := .cells #[.int .i64 0, .int .i64 0, .slice none 0 0] 45 (0, 0)) (by (with_reducible repeat (first | refine blk_drewN ?_ _ | refine blk_drew ?_ | refine blk_alloc ?_ _)); exact BK546.out) hg (Kd.R_ne HO_558002.out BK546.out (by decide))); have n1_ := Aside0.mk (blk_grown (g := gb557) (o := .cells #[.int .i64 t551, .int .i64 t552, u558002] 45 (0, 0)) (by (with_reducible repeat (first | refine blk_drewN ?_ _ | refine blk_drew ?_ | refine blk_alloc ?_ _)); exact BK557.out) hg (Kd.R_ne HO_558002.out BK557.out (by decide))); have n2_ := Aside0.mk (IsS54.grown (by repeat (first | (with_reducible first | exact HI0.out | apply IsS54.alloc | apply IsS54.drewN | apply IsS54.drew | apply IsS54.set_1 | refine IsS54.far ?_ NB0_546.out _ | refine IsS54.far ?_ NB0_557.out _) | exact HI0.out)) hg (IsS54.own_ne HI0.out HO_558002.out (by decide))); have n3_ := Aside0.mk (below_weaken (by repeat (first | (with_reducible first | exact HB.out | apply below_alloc | apply pw_below_drewN | apply below_drew1 | refine below_set ?_ (IsS54.ge HI0.out) | refine below_set ?_ GE546.out | refine below_set ?_ GE557.out) | exact HB.out)) HL.out hb); have n4_ := Aside0.mk (KeepBut.trans (by repeat (first | (with_reducible first | exact HK.out | apply KeepBut.set_ | apply keep_drewN | apply keep_drew | apply keep_alloc | refine keep_far ?_ GW546.out _ | refine keep_far ?_ GW557.out _) | exact HK.out)) (KeepBut.of_grown hg g) (Kd.R_base2 HO_558002.out)); have n5_ := Aside0.mk (ho); clear BK546 BK557 HI0 HB HK HO_558002; have BK546 := n0_; have BK557 := n1_; have HI0 := n2_; have HB := n3_; have HK := n4_; have HO578 := n5_; clear n0_ n1_ n2_ n3_ n4_ n5_ ho hb hg hat; obtain ⟨Ao67, co67, eo67⟩ := Kd.R_slice HO578.out; subst eo67; have hcz68_0 : w66.cell? ⟨gb557, 0, none⟩ = some (.int .i64 t551) := (blk_cell BK557.out 0).trans rfl; have hcz68_1 : w66.cell? ⟨gb557, 1, none⟩ = some (.int .i64 t552) := (blk_cell BK557.out 1).trans rfl; have hcz68_2 : w66.cell? ⟨gb557, 2, none⟩ = some (u558002) := (blk_cell BK557.out 2).trans rfl; have hfz68_0 := blk_frozen BK557.out 0; have hfz68_1 := blk_frozen BK557.out 1; have hfz68_2 := blk_frozen BK557.out 2))
            go_roundg k2
            case measure => have := HJ5.out; have := HK2.out; omega
            case rel => exact ⟨(wrap64 (x6_2 + 1)), (y576), (.slice Ao67 y576.length co67), (by first | rfl | (simp; done) | (simp [*]; done)), H', ⟨by have := HJ5.out; have := HK2.out; omega⟩, ⟨by (with_reducible repeat (first | apply Kd.R_alloc | apply Kd.R_drewN | apply Kd.R_drew)); exact Kd.R_mono (Kd.R_far (p := ⟨gb557, 2, none⟩) (Kd.R_types HO578.out BK557.out (by decide)) (fun _ hk => hk.2) (.slice Ao67 y576.length co67)) (fun _ hk => trivial)⟩, ⟨by (with_reducible repeat (first | refine blk_drewN ?_ _ | refine blk_drew ?_ | refine blk_alloc ?_ _)); refine blk_far ?_ NB546_557.out _; (with_reducible repeat (first | refine blk_drewN ?_ _ | refine blk_drew ?_ | refine blk_alloc ?_ _)); exact BK546.out⟩, ⟨by (with_reducible repeat (first | refine blk_drewN ?_ _ | refine blk_drew ?_ | refine blk_alloc ?_ _)); refine blk_put (cs := #[.int .i64 t551, .int .i64 t552, u558002]) ?_ 2 _ rfl; (with_reducible repeat (first | refine blk_drewN ?_ _ | refine blk_drew ?_ | refine blk_alloc ?_ _)); exact BK557.out⟩, ⟨by repeat (first | (with_reducible first | exact HI0.out | apply IsS54.alloc | apply IsS54.drewN | apply IsS54.drew | apply IsS54.set_1 | refine IsS54.far ?_ NB0_546.out _ | refine IsS54.far ?_ NB0_557.out _) | exact HI0.out)⟩, ⟨by repeat (first | (with_reducible first | exact HK.out | apply KeepBut.set_ | apply keep_drewN | apply keep_drew | apply keep_alloc | refine keep_far ?_ GW546.out _ | refine keep_far ?_ GW557.out _) | exact HK.out)⟩, ⟨by repeat (first | (with_reducible first | exact HB.out | apply below_alloc | apply pw_below_drewN | apply below_drew1 | refine below_set ?_ (IsS54.ge HI0.out) | refine below_set ?_ GE546.out | refine below_set ?_ GE557.out) | exact HB.out)⟩⟩
           ·rw [if_neg c62] at H
            exact absurd H (by simp)
          ·rw [if_neg c61] at H
           have c61b0 : decide (x6_2 < 6) = false := decide_eq_false c61
           clear c61
           simp only [Option.some.injEq, Prod.mk.injEq] at H
           obtain ⟨rfl, rfl, rfl, rfl⟩ := H
           have hnb69 := NB557_546.out
           have hnc69 := NB546_557.out
           have hnb70 := NB557_0.out
           have hnc70 := NB0_557.out
           have hcz71_0 : wr.cell? ⟨gb557, 0, none⟩ = some (.int .i64 t551) := (blk_cell BK557.out 0).trans rfl
           have hcz71_1 : wr.cell? ⟨gb557, 1, none⟩ = some (.int .i64 t552) := (blk_cell BK557.out 1).trans rfl
           have hcz71_2 : wr.cell? ⟨gb557, 2, none⟩ = some (u558002) := (blk_cell BK557.out 2).trans rfl
           have hfz71_0 := blk_frozen BK557.out 0
           have hfz71_1 := blk_frozen BK557.out 1
           have hfz71_2 := blk_frozen BK557.out 2
           have hnb72 := NB546_0.out
           have hnc72 := NB0_546.out
           have hcz73_0 : wr.cell? ⟨gb546, 0, none⟩ = some (.int .i64 0) := (blk_cell BK546.out 0).trans rfl
           have hcz73_1 : wr.cell? ⟨gb546, 1, none⟩ = some (.int .i64 0) := (blk_cell BK546.out 1).trans rfl
           have hcz73_2 : wr.cell? ⟨gb546, 2, none⟩ = some (.slice none 0 0) := (blk_cell BK546.out 2).trans rfl
           have hfz73_0 := blk_frozen BK546.out 0
           have hfz73_1 := blk_frozen BK546.out 1
           have hfz73_2 := blk_frozen BK546.out 2
           obtain ⟨Ao74, co74, eo74⟩ := Kd.R_slice HO_558002.out
           subst eo74
           go_wp2
           refine bodyPost_ret (results_cell_row rfl _ _ gb546 45 #[.int .i64 t551, .int .i64 t552, .slice Ao74 x558002_2.length co74] (0, 0) _ rfl (by (with_reducible repeat (first | refine blk_drewN ?_ _ | refine blk_drew ?_ | refine blk_alloc ?_ _)); refine blk_put (cs := #[.int .i64 t551, .int .i64 t552, .slice none 0 0]) ?_ 2 _ rfl; (with_reducible repeat (first | refine blk_drewN ?_ _ | refine blk_drew ?_ | refine blk_alloc ?_ _)); refine blk_put (cs := #[.int .i64 t551, .int .i64 0, .slice none 0 0]) ?_ 1 _ rfl; (with_reducible repeat (first | refine blk_drewN ?_ _ | refine blk_drew ?_ | refine blk_alloc ?_ _)); refine blk_put (cs := #[.int .i64 0, .int .i64 0, .slice none 0 0]) ?_ 0 _ rfl; (with_reducible repeat (first | refine blk_drewN ?_ _ | refine blk_drew ?_ | refine blk_alloc ?_ _)); exact BK546.out) Try.underlying45 rfl (by kernel_rfl)) rfl ?_
           exact ⟨_, by first | rfl | (simp [errW_none, errW_some] <;> rfl) | (simp [*, errW_none, errW_some] <;> rfl), by (with_reducible repeat (first | apply Kd.R_alloc | apply Kd.R_drewN | apply Kd.R_drew)); exact Kd.R_mono (Kd.R_far (p := ⟨gb546, 2, none⟩) (Kd.R_far (p := ⟨gb546, 1, none⟩) (Kd.R_far (p := ⟨gb546, 0, none⟩) (Kd.R_types HO_558002.out BK546.out (by decide)) (fun _ hk => hk.2) (.int .i64 t551)) (fun _ hk => hk.2) (.int .i64 t552)) (fun _ hk => hk.2) (.slice Ao74 x558002_2.length co74)) (fun _ hk => trivial), by repeat (first | (with_reducible first | exact HI0.out | apply IsS54.alloc | apply IsS54.drewN | apply IsS54.drew | apply IsS54.set_1 | refine IsS54.far ?_ NB0_546.out _ | refine IsS54.far ?_ NB0_557.out _) | exact HI0.out), by repeat (first | (with_reducible first | exact HB.out | apply below_alloc | apply pw_below_drewN | apply below_drew1 | refine below_set ?_ (IsS54.ge HI0.out) | refine below_set ?_ GE546.out | refine below_set ?_ GE557.out) | exact HB.out), by repeat (first | (with_reducible first | exact HK.out | apply KeepBut.set_ | apply keep_drewN | apply keep_drew | apply keep_alloc | refine keep_far ?_ GW546.out _ | refine keep_far ?_ GW557.out _) | exact HK.out)⟩
   ·replace c19 := Bool.eq_false_iff.mpr c19
    subst c19
    have H1 : (some (t551, t552, t553, x1001_5)) = some (r1, r2, r3, r4) := by rw [if_neg (show ¬ (false = true) by decide)] at H; exact H
    clear H
    have H := H1
    clear H1
    simp only [Option.some.injEq, Prod.mk.injEq] at H
    obtain ⟨rfl, rfl, rfl, rfl⟩ := H
    have hnb75 := NB557_546.out
    have hnc75 := NB546_557.out
    have hnb76 := NB557_0.out
    have hnc76 := NB0_557.out
    have hcz77_0 : wc.cell? ⟨gb557, 0, none⟩ = some (.int .i64 t551) := (blk_cell BK557.out 0).trans rfl
    have hcz77_1 : wc.cell? ⟨gb557, 1, none⟩ = some (.int .i64 t552) := (blk_cell BK557.out 1).trans rfl
    have hcz77_2 : wc.cell? ⟨gb557, 2, none⟩ = some (.slice Ao15 t553.length co15) := (blk_cell BK557.out 2).trans rfl
    have hfz77_0 := blk_frozen BK557.out 0
    have hfz77_1 := blk_frozen BK557.out 1
    have hfz77_2 := blk_frozen BK557.out 2
    have hnb78 := NB546_0.out
    have hnc78 := NB0_546.out
    have hcz79_0 : wc.cell? ⟨gb546, 0, none⟩ = some (.int .i64 0) := (blk_cell BK546.out 0).trans rfl
    have hcz79_1 : wc.cell? ⟨gb546, 1, none⟩ = some (.int .i64 0) := (blk_cell BK546.out 1).trans rfl
    have hcz79_2 : wc.cell? ⟨gb546, 2, none⟩ = some (.slice none 0 0) := (blk_cell BK546.out 2).trans rfl
    have hfz79_0 := blk_frozen BK546.out 0
    have hfz79_1 := blk_frozen BK546.out 1
    have hfz79_2 := blk_frozen BK546.out 2
    go_wp2
    refine bodyPost_ret (results_cell_row rfl _ _ gb546 45 #[.int .i64 t551, .int .i64 t552, .slice Ao15 t553.length co15] (0, 0) _ rfl (by (with_reducible repeat (first | refine blk_drewN ?_ _ | refine blk_drew ?_ | refine blk_alloc ?_ _)); refine blk_put (cs := #[.int .i64 t551, .int .i64 t552, .slice none 0 0]) ?_ 2 _ rfl; (with_reducible repeat (first | refine blk_drewN ?_ _ | refine blk_drew ?_ | refine blk_alloc ?_ _)); refine blk_put (cs := #[.int .i64 t551, .int .i64 0, .slice none 0 0]) ?_ 1 _ rfl; (with_reducible repeat (first | refine blk_drewN ?_ _ | refine blk_drew ?_ | refine blk_alloc ?_ _)); refine blk_put (cs := #[.int .i64 0, .int .i64 0, .slice none 0 0]) ?_ 0 _ rfl; (with_reducible repeat (first | refine blk_drewN ?_ _ | refine blk_drew ?_ | refine blk_alloc ?_ _)); exact BK546.out) Try.underlying45 rfl (by kernel_rfl)) rfl ?_
    exact ⟨_, by first | rfl | (simp [errW_none, errW_some] <;> rfl) | (simp [*, errW_none, errW_some] <;> rfl), by (with_reducible repeat (first | apply Kd.R_alloc | apply Kd.R_drewN | apply Kd.R_drew)); exact Kd.R_mono (Kd.R_far (p := ⟨gb546, 2, none⟩) (Kd.R_far (p := ⟨gb546, 1, none⟩) (Kd.R_far (p := ⟨gb546, 0, none⟩) (Kd.R_types HO_558002.out BK546.out (by decide)) (fun _ hk => hk.2) (.int .i64 t551)) (fun _ hk => hk.2) (.int .i64 t552)) (fun _ hk => hk.2) (.slice Ao15 t553.length co15)) (fun _ hk => trivial), by repeat (first | (with_reducible first | exact HI0.out | apply IsS54.alloc | apply IsS54.drewN | apply IsS54.drew | apply IsS54.set_1 | refine IsS54.far ?_ NB0_546.out _ | refine IsS54.far ?_ NB0_557.out _) | exact HI0.out), by repeat (first | (with_reducible first | exact HB.out | apply below_alloc | apply pw_below_drewN | apply below_drew1 | refine below_set ?_ (IsS54.ge HI0.out) | refine below_set ?_ GE546.out | refine below_set ?_ GE557.out) | exact HB.out), by repeat (first | (with_reducible first | exact HK.out | apply KeepBut.set_ | apply keep_drewN | apply keep_drew | apply keep_alloc | refine keep_far ?_ GW546.out _ | refine keep_far ?_ GW557.out _) | exact HK.out)⟩

end Go.Proofs.Ytinmdoemkejanaa.Print
