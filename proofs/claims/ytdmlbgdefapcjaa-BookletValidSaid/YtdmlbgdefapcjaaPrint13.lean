-- Printed by a program of this session (wip/own_print.py) out of the translation; Lean checks it.
import Derived.Test.YtdmlbgdefapcjaaPrint0
import Derived.Test.YtdmlbgdefapcjaaPrint10
import Derived.Test.YtdmlbgdefapcjaaPrint11
import Derived.Test.YtdmlbgdefapcjaaPrint12
namespace Go.Proofs.Ytdmlbgdefapcjaa.Print
open Go.RowKit Go.Proofs.YtdmlbgdefapcjaaW.PrintWords Go.Proofs.YtdmlbgdefapcjaaW.PrintLast Go.Proofs.YtdmlbgdefapcjaaW.PrintMore
attribute [local go_sem] max2_int min2_int max_two min_two max_three min_three max_four min_four   -- for this text's walks alone
set_option linter.unusedVariables false
set_option linter.unusedSimpArgs false

/-! ### awardingbodymake_Tape_LoosePaper: function 16 -/
mutual
def awardingbodymake_Tape_LoosePaper.j0 : Nat → Bool → List Int → Int → Int → Int → List (S23) → Option (Int × Int × (List (S23)) × Int)
  | 0, _, _, _, _, _, _ => none
  | k + 1, x19, x1000, x1001, x276000, x276001, x276002 => if x19 = true then ((awardingbodymake_Tape_Next.f x1000 x1001 5).bind fun bt278 => (if bt278.1 = 0 then ((awardingbodymake_Tape_Wild.f x1000 bt278.2).bind fun bt280 => (some (bt280.1, x276001, x276002, bt280.2))) else (if bt278.1 = 1 then ((awardingbodymake_Tape_Range.f x1000 bt278.2 (-1) 5).bind fun bt282 => (some (x276000, bt282.1, x276002, bt282.2))) else (if bt278.1 = 2 then (some (x276000, x276001, ([] : List (S23)), bt278.2)) else (if bt278.1 = 3 then ((awardingbodymake_Tape_Part.f k x1000 bt278.2 1).bind fun bt284 => (if x276002.length < 2932031007402 then (some (x276000, x276001, (x276002 ++ [(⟨bt284.1, bt284.2.1, bt284.2.2.1, bt284.2.2.2.1, bt284.2.2.2.2.1, bt284.2.2.2.2.2.1⟩ : S23)]), bt284.2.2.2.2.2.2)) else (none))) else (awardingbodymake_Tape_LoosePaper.l0 k 0 x1000 bt278.2 x276000 x276001 x276002)))))) else (some (x276000, x276001, x276002, x1001))
def awardingbodymake_Tape_LoosePaper.l0 : Nat → Int → List Int → Int → Int → Int → List (S23) → Option (Int × Int × (List (S23)) × Int)
  | 0, _, _, _, _, _, _ => none
  | k + 1, x6, x1000, x1001, x276000, x276001, x276002 => if x6 < 6 then (if x276002.length < 2932031007402 then (awardingbodymake_Tape_LoosePaper.l0 k (wrap64 (x6 + 1)) x1000 x1001 x276000 x276001 (x276002 ++ [(⟨1, 40, 0, 0, 0, 0⟩ : S23)])) else (none)) else (some (x276000, x276001, x276002, x1001))
end
def awardingbodymake_Tape_LoosePaper.f (k : Nat) (s0_0 : List Int) (s0_1 : Int) (a1 : Int) : Option (Int × Int × (List (S23)) × Int) := (awardingbodymake_Tape_Range.f s0_0 s0_1 0 3).bind fun bt265 => ((awardingbodymake_Tape_Next.f s0_0 bt265.2 3).bind fun bt267 => ((awardingbodymake_Tape_Paper.f k s0_0 bt267.2 bt265.1 bt267.1).bind fun bt269 => (if a1 > 0 then ((awardingbodymake_Tape_One.f s0_0 bt269.2.2.2 a1).bind fun bt276 => (awardingbodymake_Tape_LoosePaper.j0 k bt276.1 s0_0 bt276.2 bt269.1 bt269.2.1 bt269.2.2.1)) else (awardingbodymake_Tape_LoosePaper.j0 k false s0_0 bt269.2.2.2 bt269.1 bt269.2.1 bt269.2.2.1))))
theorem awardingbodymake_Tape_LoosePaper.mono_l : ∀ k, (∀ y0 y1 y2 y3 y4 y5, LeO (awardingbodymake_Tape_LoosePaper.j0 k y0 y1 y2 y3 y4 y5) (awardingbodymake_Tape_LoosePaper.j0 (k + 1) y0 y1 y2 y3 y4 y5)) ∧ (∀ y0 y1 y2 y3 y4 y5, LeO (awardingbodymake_Tape_LoosePaper.l0 k y0 y1 y2 y3 y4 y5) (awardingbodymake_Tape_LoosePaper.l0 (k + 1) y0 y1 y2 y3 y4 y5))
  | 0 => ⟨fun _ _ _ _ _ _ r h => by simp [awardingbodymake_Tape_LoosePaper.j0] at h, fun _ _ _ _ _ _ r h => by simp [awardingbodymake_Tape_LoosePaper.l0] at h⟩
  | k + 1 => by
    obtain ⟨ih0, ih1⟩ := awardingbodymake_Tape_LoosePaper.mono_l k
    refine ⟨?_, ?_⟩
    · intro y0 y1 y2 y3 y4 y5
      unfold awardingbodymake_Tape_LoosePaper.j0
      repeat' first
      | (with_reducible exact ih0 _ _ _ _ _ _)
      | (with_reducible exact ih1 _ _ _ _ _ _)
      | (with_reducible exact awardingbodymake_Tape_Paper.mono _ _ _ _ _)
      | (with_reducible exact awardingbodymake_Tape_Part.mono _ _ _ _)
      | (with_reducible exact LeO.refl _)
      | (with_reducible exact LeO.none _)
      | (with_reducible refine LeO.ite ?_ ?_)
      | (with_reducible refine LeO.bind ?_ (fun _ => ?_))
      | exact ih0 _ _ _ _ _ _
      | exact ih1 _ _ _ _ _ _
      | exact awardingbodymake_Tape_Paper.mono _ _ _ _ _
      | exact awardingbodymake_Tape_Part.mono _ _ _ _
      | exact LeO.none _
      | refine LeO.ite ?_ ?_
      | refine LeO.bind ?_ (fun _ => ?_)
    · intro y0 y1 y2 y3 y4 y5
      unfold awardingbodymake_Tape_LoosePaper.l0
      repeat' first
      | (with_reducible exact ih0 _ _ _ _ _ _)
      | (with_reducible exact ih1 _ _ _ _ _ _)
      | (with_reducible exact awardingbodymake_Tape_Paper.mono _ _ _ _ _)
      | (with_reducible exact awardingbodymake_Tape_Part.mono _ _ _ _)
      | (with_reducible exact LeO.refl _)
      | (with_reducible exact LeO.none _)
      | (with_reducible refine LeO.ite ?_ ?_)
      | (with_reducible refine LeO.bind ?_ (fun _ => ?_))
      | exact ih0 _ _ _ _ _ _
      | exact ih1 _ _ _ _ _ _
      | exact awardingbodymake_Tape_Paper.mono _ _ _ _ _
      | exact awardingbodymake_Tape_Part.mono _ _ _ _
      | exact LeO.none _
      | refine LeO.ite ?_ ?_
      | refine LeO.bind ?_ (fun _ => ?_)
theorem awardingbodymake_Tape_LoosePaper.mono : ∀ a0 a1 a2 k, LeO (awardingbodymake_Tape_LoosePaper.f k a0 a1 a2) (awardingbodymake_Tape_LoosePaper.f (k + 1) a0 a1 a2) := by
  intro a0 a1 a2 k
  obtain ⟨ih0, ih1⟩ := awardingbodymake_Tape_LoosePaper.mono_l k
  unfold awardingbodymake_Tape_LoosePaper.f
  repeat' first
      | (with_reducible exact ih0 _ _ _ _ _ _)
      | (with_reducible exact ih1 _ _ _ _ _ _)
      | (with_reducible exact awardingbodymake_Tape_Paper.mono _ _ _ _ _)
      | (with_reducible exact awardingbodymake_Tape_Part.mono _ _ _ _)
      | (with_reducible exact LeO.refl _)
      | (with_reducible exact LeO.none _)
      | (with_reducible refine LeO.ite ?_ ?_)
      | (with_reducible refine LeO.bind ?_ (fun _ => ?_))
      | exact ih0 _ _ _ _ _ _
      | exact ih1 _ _ _ _ _ _
      | exact awardingbodymake_Tape_Paper.mono _ _ _ _ _
      | exact awardingbodymake_Tape_Part.mono _ _ _ _
      | exact LeO.none _
      | refine LeO.ite ?_ ?_
      | refine LeO.bind ?_ (fun _ => ?_)
def awardingbodymake_Tape_LoosePaper.T15 : Bool × List (List Nat × List Nat) := (true, [([], []), ([0], [0]), ([], []), ([2], [2]), ([3], [3]), ([1, 4, 3], [1, 4]), ([0, 1, 2, 3, 4, 5], []), ([6, 5, 5, 0, 1, 2, 3, 4, 5], [5, 6])])
def awardingbodymake_Tape_LoosePaper.B15 : List Nat := [0, 1, 0, 4, 12, 31, 63, 127]
theorem awardingbodymake_Tape_LoosePaper.tab15 : rtab .any (opsOf Try.f16 15) = awardingbodymake_Tape_LoosePaper.T15 := by kernel_rfl
theorem awardingbodymake_Tape_LoosePaper.bits15 : waitsOk awardingbodymake_Tape_LoosePaper.T15.2 awardingbodymake_Tape_LoosePaper.B15 = true := by kernel_rfl
theorem q13_ {p : Prop} (h : p) : Aside0 p := ⟨h⟩
theorem q13a {p : Prop} (h : p := by (repeat (first | (with_reducible first | exact HI0.out | apply IsS61.alloc | apply IsS61.drewN | apply IsS61.drew | apply IsS61.set_1 | refine IsS61.far ?_ NB0_264.out _ | refine IsS61.far ?_ NB0_275.out _) | exact HI0.out))) : p := h
theorem q13b {p : Prop} (h : p := by (repeat (first | (with_reducible first | exact HK.out | apply KeepBut.set_ | apply keep_drewN | apply keep_drew | apply keep_alloc | refine keep_far ?_ GW264.out _ | refine keep_far ?_ GW275.out _) | exact HK.out))) : p := h
theorem q13c {p : Prop} (h : p := by (repeat (first | (with_reducible first | exact HB.out | apply below_alloc | apply pw_below_drewN | apply below_drew1 | refine below_set ?_ (IsS61.ge HI0.out) | refine below_set ?_ GE264.out | refine below_set ?_ GE275.out) | exact HB.out))) : p := h
theorem q13d {p : Prop} (h : p := by ((repeat (first | (with_reducible first | refine blk_drewN ?_ _ | refine blk_drew ?_ | refine blk_alloc ?_ _) | refine blk_far ?_ (Aside0.out (by assumption)) _)); first | (with_reducible exact (Aside0.out (by assumption))) | exact (Aside0.out (by assumption)))) : p := h
theorem q13e {p : Prop} (h : p := by ((try simp only [List.map_toArray, List.map_cons, List.map_nil]); first | done | rfl | (simp only [List.length_drop, List.length_take]; rfl))) : p := h
theorem q13f {p : Prop} (h : p := by ((with_reducible repeat (first | apply Kd.R_alloc | apply Kd.R_drewN | apply Kd.R_drew)); exact HO_276002.out)) : p := h
theorem q13g {p : Prop} (h : p := by ((with_reducible repeat (first | refine blk_drewN ?_ _ | refine blk_drew ?_ | refine blk_alloc ?_ _)); refine blk_put (cs := #[.int .i64 t269, .int .i64 t270, .slice none 0 0]) ?_ 2 _ rfl; (with_reducible repeat (first | refine blk_drewN ?_ _ | refine blk_drew ?_ | refine blk_alloc ?_ _)); refine blk_put (cs := #[.int .i64 t269, .int .i64 0, .slice none 0 0]) ?_ 1 _ rfl; (with_reducible repeat (first | refine blk_drewN ?_ _ | refine blk_drew ?_ | refine blk_alloc ?_ _)); refine blk_put (cs := #[.int .i64 0, .int .i64 0, .slice none 0 0]) ?_ 0 _ rfl; (with_reducible repeat (first | refine blk_drewN ?_ _ | refine blk_drew ?_ | refine blk_alloc ?_ _)); refine blk_far ?_ NB264_275.out _; (with_reducible repeat (first | refine blk_drewN ?_ _ | refine blk_drew ?_ | refine blk_alloc ?_ _)); exact BK264.out)) : p := h
theorem q13h {p : Prop} (h : p := by ((with_reducible repeat (first | refine blk_drewN ?_ _ | refine blk_drew ?_ | refine blk_alloc ?_ _)); refine blk_put (cs := #[.int .i64 t269, .int .i64 t270, .slice none 0 0]) ?_ 2 _ rfl; (with_reducible repeat (first | refine blk_drewN ?_ _ | refine blk_drew ?_ | refine blk_alloc ?_ _)); refine blk_put (cs := #[.int .i64 t269, .int .i64 0, .slice none 0 0]) ?_ 1 _ rfl; (with_reducible repeat (first | refine blk_drewN ?_ _ | refine blk_drew ?_ | refine blk_alloc ?_ _)); refine blk_put (cs := #[.int .i64 0, .int .i64 0, .slice none 0 0]) ?_ 0 _ rfl; (with_reducible repeat (first | refine blk_drewN ?_ _ | refine blk_drew ?_ | refine blk_alloc ?_ _)); exact BK264.out)) : p := h
theorem q13i {p : Prop} (h : p := by (rw [hg]; exact (keep_size (w := w) (g := g) (row := none) (q13b)))) : p := h
theorem q13j {p : Prop} (h : p := by (first | rfl | (simp; done) | (simp [*]; done))) : p := h
set_option maxHeartbeats 8000000 in
set_option maxRecDepth 100000 in
theorem awardingbodymake_Tape_LoosePaper.calls (k : Nat) (g : Nat) (s0_0 : List Int) (s0_1 : Int) (a1 : Int) (r1 : Int) (r2 : Int) (r3 : List (S23)) (r4 : Int) (w0 w : World) (hI : IsS61 w0 w g s0_0 s0_1) (hB : Below w0.heap.size w0 w) (h : awardingbodymake_Tape_LoosePaper.f k s0_0 s0_1 a1 = some (r1, r2, r3, r4)) :
    Calls Try.prog 16 #[.pointer (some ⟨g, 0, none⟩), .int .i64 a1] w fun e w' => ∃ v2_ : Value, e = .returned (.agg #[.int .i64 r1, .int .i64 r2, v2_]) ∧ Kd.R k23 23 w' w.heap.size (fun _ => True) v2_ r3 ∧ IsS61 w0 w' g s0_0 r4 ∧ Below w0.heap.size w0 w' ∧ KeepBut w w' g none := by
 have hu33 := Try.underlying33
 have hu23 := Try.underlying23
 have HI0 := q13_ hI
 have HK := q13_ (KeepBut.refl w g none)
 have HL := q13_ hB.size
 clear hI
 have HW0 := q13_ hB.size
 have HB := q13_ hB; clear hB
 have H : ((awardingbodymake_Tape_Range.f s0_0 s0_1 0 3).bind fun bt265 => ((awardingbodymake_Tape_Next.f s0_0 bt265.2 3).bind fun bt267 => ((awardingbodymake_Tape_Paper.f k s0_0 bt267.2 bt265.1 bt267.1).bind fun bt269 => (if a1 > 0 then ((awardingbodymake_Tape_One.f s0_0 bt269.2.2.2 a1).bind fun bt276 => (awardingbodymake_Tape_LoosePaper.j0 k bt276.1 s0_0 bt276.2 bt269.1 bt269.2.1 bt269.2.2.1)) else (awardingbodymake_Tape_LoosePaper.j0 k false s0_0 bt269.2.2.2 bt269.1 bt269.2.1 bt269.2.2.1))))) = some (r1, r2, r3, r4) := h
 clear h
 replace H := Option.bind_eq_some_iff.mp H
 obtain ⟨⟨t265, t266⟩, A30, H⟩ := H
 replace H : ((awardingbodymake_Tape_Next.f s0_0 t266 3).bind fun bt267 => ((awardingbodymake_Tape_Paper.f k s0_0 bt267.2 t265 bt267.1).bind fun bt269 => (if a1 > 0 then ((awardingbodymake_Tape_One.f s0_0 bt269.2.2.2 a1).bind fun bt276 => (awardingbodymake_Tape_LoosePaper.j0 k bt276.1 s0_0 bt276.2 bt269.1 bt269.2.1 bt269.2.2.1)) else (awardingbodymake_Tape_LoosePaper.j0 k false s0_0 bt269.2.2.2 bt269.1 bt269.2.1 bt269.2.2.1)))) = some (r1, r2, r3, r4) := H
 have A3 := q13_ A30; clear A30
 replace H := Option.bind_eq_some_iff.mp H
 obtain ⟨⟨t267, t268⟩, A40, H⟩ := H
 replace H : ((awardingbodymake_Tape_Paper.f k s0_0 t268 t265 t267).bind fun bt269 => (if a1 > 0 then ((awardingbodymake_Tape_One.f s0_0 bt269.2.2.2 a1).bind fun bt276 => (awardingbodymake_Tape_LoosePaper.j0 k bt276.1 s0_0 bt276.2 bt269.1 bt269.2.1 bt269.2.2.1)) else (awardingbodymake_Tape_LoosePaper.j0 k false s0_0 bt269.2.2.2 bt269.1 bt269.2.1 bt269.2.2.1))) = some (r1, r2, r3, r4) := H
 have A4 := q13_ A40; clear A40
 replace H := Option.bind_eq_some_iff.mp H
 obtain ⟨⟨t269, t270, t271, t274⟩, A50, H⟩ := H
 replace H : (if a1 > 0 then ((awardingbodymake_Tape_One.f s0_0 t274 a1).bind fun bt276 => (awardingbodymake_Tape_LoosePaper.j0 k bt276.1 s0_0 bt276.2 t269 t270 t271)) else (awardingbodymake_Tape_LoosePaper.j0 k false s0_0 t274 t269 t270 t271)) = some (r1, r2, r3, r4) := H
 have A5 := q13_ A50; clear A50; have HC6 := q13_ H; clear H
 go_enter Try.func16, Try.ntmps16
 go_upto_region 2 with (first | ((with_reducible refine gate_dst (N := 4) rfl ?_); refine box_event ?hg (N := 4) ?hd (cs := #[.int .i64 0, .int .i64 0, .slice none 0 0]) (t := 33) ?hr ?_; (case hd => rfl); (case hg => rfl); (case hr => first | (go_simp; done) | (go_simp; rfl)); intro gb264 hg w7 hbox hb; have n0_ := q13_ (IsS61.below (q13a) hb); have n1_ := q13_ (KeepBut.trans (q13b) (KeepBut.of_below hb g none) (.inl rfl)); have n2_ := q13_ (below_step (q13c) hb); have n3_ := q13_ (hbox); have n4_ := q13_ ((q13i : w.heap.size ≤ gb264)); have n5_ := q13_ ((Nat.le_trans HW0.out (q13i : w.heap.size ≤ gb264) : w0.heap.size ≤ gb264)); have n6_ := q13_ ((by rw [hg]; exact Nat.ne_of_lt (IsS61.lt (show IsS61 w0 _ g s0_0 s0_1 from q13a)) : g ≠ gb264)); have n7_ := q13_ ((by rw [hg]; exact Nat.ne_of_gt (IsS61.lt (show IsS61 w0 _ g s0_0 s0_1 from q13a)) : gb264 ≠ g)); clear HI0 HK HB; have HI0 := n0_; have HK := n1_; have HB := n2_; have BK264 := n3_; have GW264 := n4_; have GE264 := n5_; have NB0_264 := n6_; have NB264_0 := n7_; clear n0_ n1_ n2_ n3_ n4_ n5_ n6_ n7_ hb hbox hg) | ((with_reducible refine gate_callee (f := 34) rfl ?_); refine goesL_ (some 9) rfl rfl Try.func34 (by kernel_rfl) rfl #[.pointer (some ⟨g, 0, none⟩), .int .i64 0, .int .i64 3] rfl q13e ?_; (with_reducible refine (awardingbodymake_Tape_Range.calls g s0_0 s0_1 0 3 t265 t266 w0 _ ?side1 ?side2 A3.out).mono ?_); (case side1 => repeat (first | (with_reducible first | exact HI0.out | apply IsS61.alloc | apply IsS61.drewN | apply IsS61.drew | apply IsS61.set_1 | refine IsS61.far ?_ NB0_264.out _) | exact HI0.out)); (case side2 => repeat (first | (with_reducible first | exact HB.out | apply below_alloc | apply pw_below_drewN | apply below_drew1 | refine below_set ?_ (IsS61.ge HI0.out) | refine below_set ?_ GE264.out) | exact HB.out)); rintro e w8 ⟨rfl, hi, hb, hk⟩; refine ⟨_, rfl, ?_⟩; have n0_ := q13_ (KeepBut.blk hk (g' := gb264) (o := .cells #[.int .i64 0, .int .i64 0, .slice none 0 0] 33 (0, 0)) (q13d) NB264_0.out (by simp)); have n1_ := q13_ (KeepBut.trans (q13b) hk (.inl rfl)); have n2_ := q13_ (hb); have n3_ := q13_ (hi); clear BK264 HK HB HI0; have BK264 := n0_; have HK := n1_; have HB := n2_; have HI0 := n3_; clear n0_ n1_ n2_ n3_; (try clear hb); (try clear hb2); (try clear hk); (try clear hi)) | ((with_reducible refine gate_callee (f := 21) rfl ?_); refine goesL_ (some 11) rfl rfl Try.func21 (by kernel_rfl) rfl #[.pointer (some ⟨g, 0, none⟩), .int .i64 3] rfl q13e ?_; (with_reducible refine (awardingbodymake_Tape_Next.calls g s0_0 t266 3 t267 t268 w0 _ ?side1 ?side2 A4.out).mono ?_); (case side1 => repeat (first | (with_reducible first | exact HI0.out | apply IsS61.alloc | apply IsS61.drewN | apply IsS61.drew | apply IsS61.set_1 | refine IsS61.far ?_ NB0_264.out _) | exact HI0.out)); (case side2 => repeat (first | (with_reducible first | exact HB.out | apply below_alloc | apply pw_below_drewN | apply below_drew1 | refine below_set ?_ (IsS61.ge HI0.out) | refine below_set ?_ GE264.out) | exact HB.out)); rintro e w9 ⟨rfl, hi, hb, hk⟩; refine ⟨_, rfl, ?_⟩; have n0_ := q13_ (KeepBut.blk hk (g' := gb264) (o := .cells #[.int .i64 0, .int .i64 0, .slice none 0 0] 33 (0, 0)) (q13d) NB264_0.out (by simp)); have n1_ := q13_ (KeepBut.trans (q13b) hk (.inl rfl)); have n2_ := q13_ (hb); have n3_ := q13_ (hi); clear BK264 HK HB HI0; have BK264 := n0_; have HK := n1_; have HB := n2_; have HI0 := n3_; clear n0_ n1_ n2_ n3_; (try clear hb); (try clear hb2); (try clear hk); (try clear hi)) | ((with_reducible refine gate_callee (f := 33) rfl ?_); refine goesL_ (some 12) rfl rfl Try.func33 (by kernel_rfl) rfl #[.pointer (some ⟨g, 0, none⟩), .int .i64 t265, .int .i64 t267] rfl q13e ?_; (with_reducible refine (awardingbodymake_Tape_Paper.calls k g s0_0 t268 t265 t267 t269 t270 t271 t274 w0 _ ?side1 ?side2 A5.out).mono ?_); (case side1 => repeat (first | (with_reducible first | exact HI0.out | apply IsS61.alloc | apply IsS61.drewN | apply IsS61.drew | apply IsS61.set_1 | refine IsS61.far ?_ NB0_264.out _) | exact HI0.out)); (case side2 => repeat (first | (with_reducible first | exact HB.out | apply below_alloc | apply pw_below_drewN | apply below_drew1 | refine below_set ?_ (IsS61.ge HI0.out) | refine below_set ?_ GE264.out) | exact HB.out)); rintro e w10 ⟨v272, rfl, ho0, hi, hb, hk⟩; refine ⟨_, rfl, ?_⟩; have n0_ := q13_ (KeepBut.blk hk (g' := gb264) (o := .cells #[.int .i64 0, .int .i64 0, .slice none 0 0] 33 (0, 0)) (q13d) NB264_0.out (by simp)); have n1_ := q13_ (Kd.R_lower ho0 (keep_size (w := w) (g := g) (row := none) (q13b))); have n2_ := q13_ (KeepBut.trans (q13b) hk (.inl rfl)); have n3_ := q13_ (hb); have n4_ := q13_ (hi); clear BK264 HK HB HI0; have BK264 := n0_; have HO273 := n1_; have HK := n2_; have HB := n3_; have HI0 := n4_; clear n0_ n1_ n2_ n3_ n4_; (try clear hb); (try clear hb2); (try clear hk); (try clear hi); (try clear ho0)) | ((with_reducible refine gate_dst (N := 5) rfl ?_); refine box_event ?hg (N := 5) ?hd (cs := #[.int .i64 0, .int .i64 0, .slice none 0 0]) (t := 33) ?hr ?_; (case hd => rfl); (case hg => rfl); (case hr => first | (go_simp; done) | (go_simp; rfl)); intro gb275 hg w11 hbox hb; have n0_ := q13_ (Kd.R_below (by (with_reducible repeat (first | apply Kd.R_alloc | apply Kd.R_drewN | apply Kd.R_drew)); exact HO273.out) hb); have n1_ := q13_ (IsS61.below (q13a) hb); have n2_ := q13_ (blk_below (g := gb264) (o := .cells #[.int .i64 0, .int .i64 0, .slice none 0 0] 33 (0, 0)) (q13d) hb); have n3_ := q13_ (KeepBut.trans (q13b) (KeepBut.of_below hb g none) (.inl rfl)); have n4_ := q13_ (below_step (q13c) hb); have n5_ := q13_ (hbox); have n6_ := q13_ ((q13i : w.heap.size ≤ gb275)); have n7_ := q13_ ((Nat.le_trans HW0.out (q13i : w.heap.size ≤ gb275) : w0.heap.size ≤ gb275)); have n8_ := q13_ ((by rw [hg]; exact Nat.ne_of_lt (blk_lt (g := gb264) (o := .cells #[.int .i64 0, .int .i64 0, .slice none 0 0] 33 (0, 0)) (q13d)) : gb264 ≠ gb275)); have n9_ := q13_ ((by rw [hg]; exact Nat.ne_of_gt (blk_lt (g := gb264) (o := .cells #[.int .i64 0, .int .i64 0, .slice none 0 0] 33 (0, 0)) (q13d)) : gb275 ≠ gb264)); have n10_ := q13_ ((by rw [hg]; exact Nat.ne_of_lt (IsS61.lt (show IsS61 w0 _ g s0_0 t274 from q13a)) : g ≠ gb275)); have n11_ := q13_ ((by rw [hg]; exact Nat.ne_of_gt (IsS61.lt (show IsS61 w0 _ g s0_0 t274 from q13a)) : gb275 ≠ g)); clear HO273 HI0 BK264 HK HB; have HO273 := n0_; have HI0 := n1_; have BK264 := n2_; have HK := n3_; have HB := n4_; have BK275 := n5_; have GW275 := n6_; have GE275 := n7_; have NB264_275 := n8_; have NB275_264 := n9_; have NB0_275 := n10_; have NB275_0 := n11_; clear n0_ n1_ n2_ n3_ n4_ n5_ n6_ n7_ n8_ n9_ n10_ n11_ hb hbox hg; have hnb12 := NB275_264.out; have hnc12 := NB264_275.out; have hnb13 := NB275_0.out; have hnc13 := NB0_275.out; have hcz14_0 : w11.cell? ⟨gb275, 0, none⟩ = some (.int .i64 0) := (blk_cell BK275.out 0).trans rfl; have hcz14_1 : w11.cell? ⟨gb275, 1, none⟩ = some (.int .i64 0) := (blk_cell BK275.out 1).trans rfl; have hcz14_2 : w11.cell? ⟨gb275, 2, none⟩ = some (.slice none 0 0) := (blk_cell BK275.out 2).trans rfl; have hfz14_0 := blk_frozen BK275.out 0; have hfz14_1 := blk_frozen BK275.out 1; have hfz14_2 := blk_frozen BK275.out 2; obtain ⟨Ao15, co15, eo15⟩ := Kd.R_slice HO273.out; subst eo15))
 (try simp only [Act.put, List.setIfInBounds_toArray, List.set_cons_zero, List.set_cons_succ])
 go_cut [19] (fun v19 wc => ∃ (kq : Nat) (x19_5 : Bool) (x1001_5 : Int), v19 = .bool x19_5 ∧ Aside0 (awardingbodymake_Tape_LoosePaper.j0 kq x19_5 s0_0 x1001_5 t269 t270 t271 = some (r1, r2, r3, r4)) ∧ Aside0 (kq ≤ k) ∧ Aside0 (Kd.R k23 23 wc w.heap.size (fun _ => True) (.slice Ao15 t271.length co15) t271) ∧ Aside0 (wc.heap[gb264]? = some (.cells #[.int .i64 0, .int .i64 0, (.slice none 0 0)] 33 (0, 0))) ∧ Aside0 (wc.heap[gb275]? = some (.cells #[.int .i64 t269, .int .i64 t270, (.slice Ao15 t271.length co15)] 33 (0, 0))) ∧ Aside0 (IsS61 w0 wc g s0_0 x1001_5) ∧ Aside0 (KeepBut w wc g none) ∧ Aside0 (Below w0.heap.size w0 wc))
 case first =>
  have H := HC6.out
  clear HC6
  by_cases c16 : a1 > 0
  ·rw [if_pos c16] at H
   have c16b0 : decide (0 < a1) = true := decide_eq_true c16
   clear c16
   (first | rw [c16b0] | (simp only [i64_w, i32_w]; rw [c16b0]) | skip)
   replace H := Option.bind_eq_some_iff.mp H
   obtain ⟨⟨t276, t277⟩, A170, H⟩ := H
   replace H : (awardingbodymake_Tape_LoosePaper.j0 k t276 s0_0 t277 t269 t270 t271) = some (r1, r2, r3, r4) := H
   have A17 := q13_ A170; clear A170; have H' := q13_ H; clear H
   go_wp2_with (first | (go_at_call 35; (with_reducible refine (awardingbodymake_Tape_One.calls g s0_0 t274 a1 t276 t277 w0 _ ?side1 ?side2 A17.out).mono ?_); (case side1 => repeat (first | (with_reducible first | exact HI0.out | apply IsS61.alloc | apply IsS61.drewN | apply IsS61.drew | apply IsS61.set_1 | refine IsS61.far ?_ NB0_264.out _ | refine IsS61.far ?_ NB0_275.out _) | exact HI0.out)); (case side2 => repeat (first | (with_reducible first | exact HB.out | apply below_alloc | apply pw_below_drewN | apply below_drew1 | refine below_set ?_ (IsS61.ge HI0.out) | refine below_set ?_ GE264.out | refine below_set ?_ GE275.out) | exact HB.out)); rintro e w18 ⟨rfl, hi, hb, hk⟩; have n0_ := q13_ (KeepBut.blk hk (g' := gb264) (o := .cells #[.int .i64 0, .int .i64 0, .slice none 0 0] 33 (0, 0)) (q13d) NB264_0.out (by simp)); have n1_ := q13_ (Kd.R_mono (Kd.R_keep (IsS61.apart (show IsS61 w0 _ g s0_0 t274 from q13a) (by (with_reducible repeat (first | apply Kd.R_alloc | apply Kd.R_drewN | apply Kd.R_drew)); exact (Kd.R_mono (Kd.R_far (p := ⟨gb275, 2, none⟩) (Kd.R_far (p := ⟨gb275, 1, none⟩) (Kd.R_far (p := ⟨gb275, 0, none⟩) (Kd.R_types HO273.out BK275.out (by decide)) (fun _ hk => hk.2) (.int .i64 t269)) (fun _ hk => hk.2) (.int .i64 t270)) (fun _ hk => hk.2) (.slice Ao15 t271.length co15)) (fun _ h_ => h_.1))) (by decide)) hk (fun _ h => h.2)) (fun _ h => h.1)); have n2_ := q13_ (KeepBut.blk hk (g' := gb275) (o := .cells #[.int .i64 t269, .int .i64 t270, .slice Ao15 t271.length co15] 33 (0, 0)) (by (with_reducible repeat (first | refine blk_drewN ?_ _ | refine blk_drew ?_ | refine blk_alloc ?_ _)); refine blk_put (cs := #[.int .i64 t269, .int .i64 t270, .slice none 0 0]) ?_ 2 _ rfl; (with_reducible repeat (first | refine blk_drewN ?_ _ | refine blk_drew ?_ | refine blk_alloc ?_ _)); refine blk_put (cs := #[.int .i64 t269, .int .i64 0, .slice none 0 0]) ?_ 1 _ rfl; (with_reducible repeat (first | refine blk_drewN ?_ _ | refine blk_drew ?_ | refine blk_alloc ?_ _)); refine blk_put (cs := #[.int .i64 0, .int .i64 0, .slice none 0 0]) ?_ 0 _ rfl; (with_reducible repeat (first | refine blk_drewN ?_ _ | refine blk_drew ?_ | refine blk_alloc ?_ _)); exact BK275.out) NB275_0.out (by simp)); have n3_ := q13_ (KeepBut.trans (q13b) hk (.inl rfl)); have n4_ := q13_ (hb); have n5_ := q13_ (hi); clear BK264 HO273 BK275 HK HB HI0; have BK264 := n0_; have HO273 := n1_; have BK275 := n2_; have HK := n3_; have HB := n4_; have HI0 := n5_; clear n0_ n1_ n2_ n3_ n4_ n5_; (try clear hb); (try clear hb2); (try clear hk); (try clear hi)))
   go_meet
   case rel => exact ⟨_, (t276), (t277), q13j, H', ⟨by first | omega | exact Nat.le_refl _⟩, ⟨by (with_reducible repeat (first | apply Kd.R_alloc | apply Kd.R_drewN | apply Kd.R_drew)); exact HO273.out⟩, ⟨q13d⟩, ⟨q13d⟩, ⟨q13a⟩, ⟨q13b⟩, ⟨q13c⟩⟩
  ·rw [if_neg c16] at H
   have c16b0 : decide (0 < a1) = false := decide_eq_false c16
   clear c16
   (first | rw [c16b0] | (simp only [i64_w, i32_w]; rw [c16b0]) | skip)
   have H' := q13_ H; clear H
   go_wp2
   go_meet
   case rel => exact ⟨_, (false), (t274), q13j, H', ⟨by first | omega | exact Nat.le_refl _⟩, ⟨by (with_reducible repeat (first | apply Kd.R_alloc | apply Kd.R_drewN | apply Kd.R_drew)); exact Kd.R_mono (Kd.R_far (p := ⟨gb275, 2, none⟩) (Kd.R_far (p := ⟨gb275, 1, none⟩) (Kd.R_far (p := ⟨gb275, 0, none⟩) (Kd.R_types HO273.out BK275.out (by decide)) (fun _ hk => hk.2) (.int .i64 t269)) (fun _ hk => hk.2) (.int .i64 t270)) (fun _ hk => hk.2) (.slice Ao15 t271.length co15)) (fun _ hk => trivial)⟩, ⟨q13d⟩, ⟨by (with_reducible repeat (first | refine blk_drewN ?_ _ | refine blk_drew ?_ | refine blk_alloc ?_ _)); refine blk_put (cs := #[.int .i64 t269, .int .i64 t270, .slice none 0 0]) ?_ 2 _ rfl; (with_reducible repeat (first | refine blk_drewN ?_ _ | refine blk_drew ?_ | refine blk_alloc ?_ _)); refine blk_put (cs := #[.int .i64 t269, .int .i64 0, .slice none 0 0]) ?_ 1 _ rfl; (with_reducible repeat (first | refine blk_drewN ?_ _ | refine blk_drew ?_ | refine blk_alloc ?_ _)); refine blk_put (cs := #[.int .i64 0, .int .i64 0, .slice none 0 0]) ?_ 0 _ rfl; (with_reducible repeat (first | refine blk_drewN ?_ _ | refine blk_drew ?_ | refine blk_alloc ?_ _)); exact BK275.out⟩, ⟨q13a⟩, ⟨q13b⟩, ⟨q13c⟩⟩
 case rest =>
  clear HC6; (try clear c1); (try clear c2); (try clear p2); (try clear c3); (try clear c12); (try clear c13); (try clear c16); (try clear c16b0); (try clear hcz14_0); (try clear hcz14_1); (try clear hcz14_2); (try clear hfz14_0); (try clear hfz14_1); (try clear hfz14_2)
  obtain ⟨kq, x19_5, x1001_5, rfl, HA, HJ5, HO_276002, BK264, BK275, HI0, HK, HB⟩ := hcut
  cases kq with
  | zero => exact absurd HA.out (by simp [awardingbodymake_Tape_LoosePaper.j0])
  | succ kj5 =>
   have H := HA.out
   clear HA
   simp only [awardingbodymake_Tape_LoosePaper.j0] at H
   by_cases c19 : x19_5 = true
   ·subst c19
    have H1 : ((awardingbodymake_Tape_Next.f s0_0 x1001_5 5).bind fun bt278 => (if bt278.1 = 0 then ((awardingbodymake_Tape_Wild.f s0_0 bt278.2).bind fun bt280 => (some (bt280.1, t270, t271, bt280.2))) else (if bt278.1 = 1 then ((awardingbodymake_Tape_Range.f s0_0 bt278.2 (-1) 5).bind fun bt282 => (some (t269, bt282.1, t271, bt282.2))) else (if bt278.1 = 2 then (some (t269, t270, ([] : List (S23)), bt278.2)) else (if bt278.1 = 3 then ((awardingbodymake_Tape_Part.f kj5 s0_0 bt278.2 1).bind fun bt284 => (if t271.length < 2932031007402 then (some (t269, t270, (t271 ++ [(⟨bt284.1, bt284.2.1, bt284.2.2.1, bt284.2.2.2.1, bt284.2.2.2.2.1, bt284.2.2.2.2.2.1⟩ : S23)]), bt284.2.2.2.2.2.2)) else (none))) else (awardingbodymake_Tape_LoosePaper.l0 kj5 0 s0_0 bt278.2 t269 t270 t271)))))) = some (r1, r2, r3, r4) := by rw [if_pos rfl] at H; exact H
    clear H; have H := H1; clear H1
    replace H := Option.bind_eq_some_iff.mp H
    obtain ⟨⟨t278, t279⟩, A200, H⟩ := H
    replace H : (if t278 = 0 then ((awardingbodymake_Tape_Wild.f s0_0 t279).bind fun bt280 => (some (bt280.1, t270, t271, bt280.2))) else (if t278 = 1 then ((awardingbodymake_Tape_Range.f s0_0 t279 (-1) 5).bind fun bt282 => (some (t269, bt282.1, t271, bt282.2))) else (if t278 = 2 then (some (t269, t270, ([] : List (S23)), t279)) else (if t278 = 3 then ((awardingbodymake_Tape_Part.f kj5 s0_0 t279 1).bind fun bt284 => (if t271.length < 2932031007402 then (some (t269, t270, (t271 ++ [(⟨bt284.1, bt284.2.1, bt284.2.2.1, bt284.2.2.2.1, bt284.2.2.2.2.1, bt284.2.2.2.2.2.1⟩ : S23)]), bt284.2.2.2.2.2.2)) else (none))) else (awardingbodymake_Tape_LoosePaper.l0 kj5 0 s0_0 t279 t269 t270 t271))))) = some (r1, r2, r3, r4) := H
    have A20 := q13_ A200; clear A200
    by_cases c21 : t278 = 0
    ·rw [if_pos c21] at H
     have c21b0 : (t278 == 0) = true := beq_iff_eq.mpr c21
     have c21b1 : (t278 != 0) = false := bne_eq_false_iff_eq.mpr c21
     clear c21
     replace H := Option.bind_eq_some_iff.mp H
     obtain ⟨⟨t280, t281⟩, A220, H⟩ := H
     replace H : (some (t280, t270, t271, t281)) = some (r1, r2, r3, r4) := H
     have A22 := q13_ A220; clear A220
     simp only [Option.some.injEq, Prod.mk.injEq] at H
     obtain ⟨rfl, rfl, rfl, rfl⟩ := H
     go_wp2_with (first | ((with_reducible refine gate_callee (f := 21) rfl ?_); refine goesL_ (some 21) rfl rfl Try.func21 (by kernel_rfl) rfl #[.pointer (some ⟨g, 0, none⟩), .int .i64 5] rfl q13e ?_; (with_reducible refine (awardingbodymake_Tape_Next.calls g s0_0 x1001_5 5 t278 t279 w0 _ ?side1 ?side2 A20.out).mono ?_); (case side1 => repeat (first | (with_reducible first | exact HI0.out | apply IsS61.alloc | apply IsS61.drewN | apply IsS61.drew | apply IsS61.set_1 | refine IsS61.far ?_ NB0_264.out _ | refine IsS61.far ?_ NB0_275.out _) | exact HI0.out)); (case side2 => repeat (first | (with_reducible first | exact HB.out | apply below_alloc | apply pw_below_drewN | apply below_drew1 | refine below_set ?_ (IsS61.ge HI0.out) | refine below_set ?_ GE264.out | refine below_set ?_ GE275.out) | exact HB.out)); rintro e w23 ⟨rfl, hi, hb, hk⟩; refine ⟨_, rfl, ?_⟩; have n0_ := q13_ (Kd.R_mono (Kd.R_keep (IsS61.apart (show IsS61 w0 _ g s0_0 x1001_5 from q13a) q13f (by decide)) hk (fun _ h => h.2)) (fun _ h => h.1)); have n1_ := q13_ (KeepBut.blk hk (g' := gb264) (o := .cells #[.int .i64 0, .int .i64 0, .slice none 0 0] 33 (0, 0)) (q13d) NB264_0.out (by simp)); have n2_ := q13_ (KeepBut.blk hk (g' := gb275) (o := .cells #[.int .i64 t269, .int .i64 t270, .slice Ao15 t271.length co15] 33 (0, 0)) (q13d) NB275_0.out (by simp)); have n3_ := q13_ (KeepBut.trans (q13b) hk (.inl rfl)); have n4_ := q13_ (hb); have n5_ := q13_ (hi); clear HO_276002 BK264 BK275 HK HB HI0; have HO_276002 := n0_; have BK264 := n1_; have BK275 := n2_; have HK := n3_; have HB := n4_; have HI0 := n5_; clear n0_ n1_ n2_ n3_ n4_ n5_; (try clear hb); (try clear hb2); (try clear hk); (try clear hi)) | ((with_reducible refine gate_callee (f := 36) rfl ?_); refine goesL_ (some 35) rfl rfl Try.func36 (by kernel_rfl) rfl #[.pointer (some ⟨g, 0, none⟩)] rfl q13e ?_; (with_reducible refine (awardingbodymake_Tape_Wild.calls g s0_0 t279 t280 t281 w0 _ ?side1 ?side2 A22.out).mono ?_); (case side1 => repeat (first | (with_reducible first | exact HI0.out | apply IsS61.alloc | apply IsS61.drewN | apply IsS61.drew | apply IsS61.set_1 | refine IsS61.far ?_ NB0_264.out _ | refine IsS61.far ?_ NB0_275.out _) | exact HI0.out)); (case side2 => repeat (first | (with_reducible first | exact HB.out | apply below_alloc | apply pw_below_drewN | apply below_drew1 | refine below_set ?_ (IsS61.ge HI0.out) | refine below_set ?_ GE264.out | refine below_set ?_ GE275.out) | exact HB.out)); rintro e w24 ⟨rfl, hi, hb, hk⟩; refine ⟨_, rfl, ?_⟩; have n0_ := q13_ (Kd.R_mono (Kd.R_keep (IsS61.apart (show IsS61 w0 _ g s0_0 t279 from q13a) q13f (by decide)) hk (fun _ h => h.2)) (fun _ h => h.1)); have n1_ := q13_ (KeepBut.blk hk (g' := gb264) (o := .cells #[.int .i64 0, .int .i64 0, .slice none 0 0] 33 (0, 0)) (q13d) NB264_0.out (by simp)); have n2_ := q13_ (KeepBut.blk hk (g' := gb275) (o := .cells #[.int .i64 t269, .int .i64 t270, .slice Ao15 t271.length co15] 33 (0, 0)) (q13d) NB275_0.out (by simp)); have n3_ := q13_ (KeepBut.trans (q13b) hk (.inl rfl)); have n4_ := q13_ (hb); have n5_ := q13_ (hi); clear HO_276002 BK264 BK275 HK HB HI0; have HO_276002 := n0_; have BK264 := n1_; have BK275 := n2_; have HK := n3_; have HB := n4_; have HI0 := n5_; clear n0_ n1_ n2_ n3_ n4_ n5_; (try clear hb); (try clear hb2); (try clear hk); (try clear hi); have hnb25 := NB275_264.out; have hnc25 := NB264_275.out; have hnb26 := NB275_0.out; have hnc26 := NB0_275.out; have hcz27_0 : w24.cell? ⟨gb275, 0, none⟩ = some (.int .i64 t269) := (blk_cell BK275.out 0).trans rfl; have hcz27_1 : w24.cell? ⟨gb275, 1, none⟩ = some (.int .i64 t270) := (blk_cell BK275.out 1).trans rfl; have hcz27_2 : w24.cell? ⟨gb275, 2, none⟩ = some (.slice Ao15 t271.length co15) := (blk_cell BK275.out 2).trans rfl; have hfz27_0 := blk_frozen BK275.out 0; have hfz27_1 := blk_frozen BK275.out 1; have hfz27_2 := blk_frozen BK275.out 2; have hnb28 := NB264_0.out; have hnc28 := NB0_264.out; have hcz29_0 : w24.cell? ⟨gb264, 0, none⟩ = some (.int .i64 0) := (blk_cell BK264.out 0).trans rfl; have hcz29_1 : w24.cell? ⟨gb264, 1, none⟩ = some (.int .i64 0) := (blk_cell BK264.out 1).trans rfl; have hcz29_2 : w24.cell? ⟨gb264, 2, none⟩ = some (.slice none 0 0) := (blk_cell BK264.out 2).trans rfl; have hfz29_0 := blk_frozen BK264.out 0; have hfz29_1 := blk_frozen BK264.out 1; have hfz29_2 := blk_frozen BK264.out 2))
     refine bodyPost_ret (results_cell_row rfl _ _ gb264 33 #[.int .i64 t280, .int .i64 t270, .slice Ao15 t271.length co15] (0, 0) _ rfl (by (with_reducible repeat (first | refine blk_drewN ?_ _ | refine blk_drew ?_ | refine blk_alloc ?_ _)); refine blk_put (cs := #[.int .i64 t280, .int .i64 t270, .slice none 0 0]) ?_ 2 _ rfl; (with_reducible repeat (first | refine blk_drewN ?_ _ | refine blk_drew ?_ | refine blk_alloc ?_ _)); refine blk_put (cs := #[.int .i64 t280, .int .i64 0, .slice none 0 0]) ?_ 1 _ rfl; (with_reducible repeat (first | refine blk_drewN ?_ _ | refine blk_drew ?_ | refine blk_alloc ?_ _)); refine blk_put (cs := #[.int .i64 0, .int .i64 0, .slice none 0 0]) ?_ 0 _ rfl; (with_reducible repeat (first | refine blk_drewN ?_ _ | refine blk_drew ?_ | refine blk_alloc ?_ _)); refine blk_far ?_ NB264_275.out _; (with_reducible repeat (first | refine blk_drewN ?_ _ | refine blk_drew ?_ | refine blk_alloc ?_ _)); exact BK264.out) Try.underlying33 rfl (by kernel_rfl)) rfl ?_
     exact ⟨_, by first | rfl | (simp [errW_none, errW_some] <;> rfl) | (simp [*, errW_none, errW_some] <;> rfl), by (with_reducible repeat (first | apply Kd.R_alloc | apply Kd.R_drewN | apply Kd.R_drew)); exact Kd.R_mono (Kd.R_far (p := ⟨gb264, 2, none⟩) (Kd.R_far (p := ⟨gb264, 1, none⟩) (Kd.R_far (p := ⟨gb264, 0, none⟩) (Kd.R_far (p := ⟨gb275, 0, none⟩) (Kd.R_types (Kd.R_types HO_276002.out BK275.out (by decide)) BK264.out (by decide)) (fun _ hk => hk.1.2) (.int .i64 t280)) (fun _ hk => hk.2) (.int .i64 t280)) (fun _ hk => hk.2) (.int .i64 t270)) (fun _ hk => hk.2) (.slice Ao15 t271.length co15)) (fun _ hk => trivial), q13a, q13c, q13b⟩
    ·rw [if_neg c21] at H
     have c21b0 : (t278 == 0) = false := beq_eq_false_iff_ne.mpr c21
     have c21b1 : (t278 != 0) = true := bne_iff_ne.mpr c21
     by_cases c30 : t278 = 1
     ·rw [if_pos c30] at H
      have c30b0 : (t278 == 1) = true := beq_iff_eq.mpr c30
      have c30b1 : (t278 != 1) = false := bne_eq_false_iff_eq.mpr c30
      clear c30
      replace H := Option.bind_eq_some_iff.mp H
      obtain ⟨⟨t282, t283⟩, A310, H⟩ := H
      replace H : (some (t269, t282, t271, t283)) = some (r1, r2, r3, r4) := H
      have A31 := q13_ A310; clear A310
      simp only [Option.some.injEq, Prod.mk.injEq] at H
      obtain ⟨rfl, rfl, rfl, rfl⟩ := H
      go_wp2_with (first | ((with_reducible refine gate_callee (f := 21) rfl ?_); refine goesL_ (some 21) rfl rfl Try.func21 (by kernel_rfl) rfl #[.pointer (some ⟨g, 0, none⟩), .int .i64 5] rfl q13e ?_; (with_reducible refine (awardingbodymake_Tape_Next.calls g s0_0 x1001_5 5 t278 t279 w0 _ ?side1 ?side2 A20.out).mono ?_); (case side1 => repeat (first | (with_reducible first | exact HI0.out | apply IsS61.alloc | apply IsS61.drewN | apply IsS61.drew | apply IsS61.set_1 | refine IsS61.far ?_ NB0_264.out _ | refine IsS61.far ?_ NB0_275.out _) | exact HI0.out)); (case side2 => repeat (first | (with_reducible first | exact HB.out | apply below_alloc | apply pw_below_drewN | apply below_drew1 | refine below_set ?_ (IsS61.ge HI0.out) | refine below_set ?_ GE264.out | refine below_set ?_ GE275.out) | exact HB.out)); rintro e w32 ⟨rfl, hi, hb, hk⟩; refine ⟨_, rfl, ?_⟩; have n0_ := q13_ (Kd.R_mono (Kd.R_keep (IsS61.apart (show IsS61 w0 _ g s0_0 x1001_5 from q13a) q13f (by decide)) hk (fun _ h => h.2)) (fun _ h => h.1)); have n1_ := q13_ (KeepBut.blk hk (g' := gb264) (o := .cells #[.int .i64 0, .int .i64 0, .slice none 0 0] 33 (0, 0)) (q13d) NB264_0.out (by simp)); have n2_ := q13_ (KeepBut.blk hk (g' := gb275) (o := .cells #[.int .i64 t269, .int .i64 t270, .slice Ao15 t271.length co15] 33 (0, 0)) (q13d) NB275_0.out (by simp)); have n3_ := q13_ (KeepBut.trans (q13b) hk (.inl rfl)); have n4_ := q13_ (hb); have n5_ := q13_ (hi); clear HO_276002 BK264 BK275 HK HB HI0; have HO_276002 := n0_; have BK264 := n1_; have BK275 := n2_; have HK := n3_; have HB := n4_; have HI0 := n5_; clear n0_ n1_ n2_ n3_ n4_ n5_; (try clear hb); (try clear hb2); (try clear hk); (try clear hi)) | ((with_reducible refine gate_callee (f := 34) rfl ?_); refine goesL_ (some 40) rfl rfl Try.func34 (by kernel_rfl) rfl #[.pointer (some ⟨g, 0, none⟩), .int .i64 (-1), .int .i64 5] rfl q13e ?_; (with_reducible refine (awardingbodymake_Tape_Range.calls g s0_0 t279 (-1) 5 t282 t283 w0 _ ?side1 ?side2 A31.out).mono ?_); (case side1 => repeat (first | (with_reducible first | exact HI0.out | apply IsS61.alloc | apply IsS61.drewN | apply IsS61.drew | apply IsS61.set_1 | refine IsS61.far ?_ NB0_264.out _ | refine IsS61.far ?_ NB0_275.out _) | exact HI0.out)); (case side2 => repeat (first | (with_reducible first | exact HB.out | apply below_alloc | apply pw_below_drewN | apply below_drew1 | refine below_set ?_ (IsS61.ge HI0.out) | refine below_set ?_ GE264.out | refine below_set ?_ GE275.out) | exact HB.out)); rintro e w33 ⟨rfl, hi, hb, hk⟩; refine ⟨_, rfl, ?_⟩; have n0_ := q13_ (Kd.R_mono (Kd.R_keep (IsS61.apart (show IsS61 w0 _ g s0_0 t279 from q13a) q13f (by decide)) hk (fun _ h => h.2)) (fun _ h => h.1)); have n1_ := q13_ (KeepBut.blk hk (g' := gb264) (o := .cells #[.int .i64 0, .int .i64 0, .slice none 0 0] 33 (0, 0)) (q13d) NB264_0.out (by simp)); have n2_ := q13_ (KeepBut.blk hk (g' := gb275) (o := .cells #[.int .i64 t269, .int .i64 t270, .slice Ao15 t271.length co15] 33 (0, 0)) (q13d) NB275_0.out (by simp)); have n3_ := q13_ (KeepBut.trans (q13b) hk (.inl rfl)); have n4_ := q13_ (hb); have n5_ := q13_ (hi); clear HO_276002 BK264 BK275 HK HB HI0; have HO_276002 := n0_; have BK264 := n1_; have BK275 := n2_; have HK := n3_; have HB := n4_; have HI0 := n5_; clear n0_ n1_ n2_ n3_ n4_ n5_; (try clear hb); (try clear hb2); (try clear hk); (try clear hi); have hnb34 := NB275_264.out; have hnc34 := NB264_275.out; have hnb35 := NB275_0.out; have hnc35 := NB0_275.out; have hcz36_0 : w33.cell? ⟨gb275, 0, none⟩ = some (.int .i64 t269) := (blk_cell BK275.out 0).trans rfl; have hcz36_1 : w33.cell? ⟨gb275, 1, none⟩ = some (.int .i64 t270) := (blk_cell BK275.out 1).trans rfl; have hcz36_2 : w33.cell? ⟨gb275, 2, none⟩ = some (.slice Ao15 t271.length co15) := (blk_cell BK275.out 2).trans rfl; have hfz36_0 := blk_frozen BK275.out 0; have hfz36_1 := blk_frozen BK275.out 1; have hfz36_2 := blk_frozen BK275.out 2; have hnb37 := NB264_0.out; have hnc37 := NB0_264.out; have hcz38_0 : w33.cell? ⟨gb264, 0, none⟩ = some (.int .i64 0) := (blk_cell BK264.out 0).trans rfl; have hcz38_1 : w33.cell? ⟨gb264, 1, none⟩ = some (.int .i64 0) := (blk_cell BK264.out 1).trans rfl; have hcz38_2 : w33.cell? ⟨gb264, 2, none⟩ = some (.slice none 0 0) := (blk_cell BK264.out 2).trans rfl; have hfz38_0 := blk_frozen BK264.out 0; have hfz38_1 := blk_frozen BK264.out 1; have hfz38_2 := blk_frozen BK264.out 2))
      refine bodyPost_ret (results_cell_row rfl _ _ gb264 33 #[.int .i64 t269, .int .i64 t282, .slice Ao15 t271.length co15] (0, 0) _ rfl (by (with_reducible repeat (first | refine blk_drewN ?_ _ | refine blk_drew ?_ | refine blk_alloc ?_ _)); refine blk_put (cs := #[.int .i64 t269, .int .i64 t282, .slice none 0 0]) ?_ 2 _ rfl; (with_reducible repeat (first | refine blk_drewN ?_ _ | refine blk_drew ?_ | refine blk_alloc ?_ _)); refine blk_put (cs := #[.int .i64 t269, .int .i64 0, .slice none 0 0]) ?_ 1 _ rfl; (with_reducible repeat (first | refine blk_drewN ?_ _ | refine blk_drew ?_ | refine blk_alloc ?_ _)); refine blk_put (cs := #[.int .i64 0, .int .i64 0, .slice none 0 0]) ?_ 0 _ rfl; (with_reducible repeat (first | refine blk_drewN ?_ _ | refine blk_drew ?_ | refine blk_alloc ?_ _)); refine blk_far ?_ NB264_275.out _; (with_reducible repeat (first | refine blk_drewN ?_ _ | refine blk_drew ?_ | refine blk_alloc ?_ _)); exact BK264.out) Try.underlying33 rfl (by kernel_rfl)) rfl ?_
      exact ⟨_, by first | rfl | (simp [errW_none, errW_some] <;> rfl) | (simp [*, errW_none, errW_some] <;> rfl), by (with_reducible repeat (first | apply Kd.R_alloc | apply Kd.R_drewN | apply Kd.R_drew)); exact Kd.R_mono (Kd.R_far (p := ⟨gb264, 2, none⟩) (Kd.R_far (p := ⟨gb264, 1, none⟩) (Kd.R_far (p := ⟨gb264, 0, none⟩) (Kd.R_far (p := ⟨gb275, 1, none⟩) (Kd.R_types (Kd.R_types HO_276002.out BK275.out (by decide)) BK264.out (by decide)) (fun _ hk => hk.1.2) (.int .i64 t282)) (fun _ hk => hk.2) (.int .i64 t269)) (fun _ hk => hk.2) (.int .i64 t282)) (fun _ hk => hk.2) (.slice Ao15 t271.length co15)) (fun _ hk => trivial), q13a, q13c, q13b⟩
     ·rw [if_neg c30] at H
      have c30b0 : (t278 == 1) = false := beq_eq_false_iff_ne.mpr c30
      have c30b1 : (t278 != 1) = true := bne_iff_ne.mpr c30
      by_cases c39 : t278 = 2
      ·rw [if_pos c39] at H
       have c39b0 : (t278 == 2) = true := beq_iff_eq.mpr c39
       have c39b1 : (t278 != 2) = false := bne_eq_false_iff_eq.mpr c39
       clear c39
       simp only [Option.some.injEq, Prod.mk.injEq] at H
       obtain ⟨rfl, rfl, rfl, rfl⟩ := H
       go_wp2_with (first | ((with_reducible refine gate_callee (f := 21) rfl ?_); refine goesL_ (some 21) rfl rfl Try.func21 (by kernel_rfl) rfl #[.pointer (some ⟨g, 0, none⟩), .int .i64 5] rfl q13e ?_; (with_reducible refine (awardingbodymake_Tape_Next.calls g s0_0 x1001_5 5 t278 t279 w0 _ ?side1 ?side2 A20.out).mono ?_); (case side1 => repeat (first | (with_reducible first | exact HI0.out | apply IsS61.alloc | apply IsS61.drewN | apply IsS61.drew | apply IsS61.set_1 | refine IsS61.far ?_ NB0_264.out _ | refine IsS61.far ?_ NB0_275.out _) | exact HI0.out)); (case side2 => repeat (first | (with_reducible first | exact HB.out | apply below_alloc | apply pw_below_drewN | apply below_drew1 | refine below_set ?_ (IsS61.ge HI0.out) | refine below_set ?_ GE264.out | refine below_set ?_ GE275.out) | exact HB.out)); rintro e w40 ⟨rfl, hi, hb, hk⟩; refine ⟨_, rfl, ?_⟩; have n0_ := q13_ (Kd.R_mono (Kd.R_keep (IsS61.apart (show IsS61 w0 _ g s0_0 x1001_5 from q13a) q13f (by decide)) hk (fun _ h => h.2)) (fun _ h => h.1)); have n1_ := q13_ (KeepBut.blk hk (g' := gb264) (o := .cells #[.int .i64 0, .int .i64 0, .slice none 0 0] 33 (0, 0)) (q13d) NB264_0.out (by simp)); have n2_ := q13_ (KeepBut.blk hk (g' := gb275) (o := .cells #[.int .i64 t269, .int .i64 t270, .slice Ao15 t271.length co15] 33 (0, 0)) (q13d) NB275_0.out (by simp)); have n3_ := q13_ (KeepBut.trans (q13b) hk (.inl rfl)); have n4_ := q13_ (hb); have n5_ := q13_ (hi); clear HO_276002 BK264 BK275 HK HB HI0; have HO_276002 := n0_; have BK264 := n1_; have BK275 := n2_; have HK := n3_; have HB := n4_; have HI0 := n5_; clear n0_ n1_ n2_ n3_ n4_ n5_; (try clear hb); (try clear hb2); (try clear hk); (try clear hi); have hnb41 := NB275_264.out; have hnc41 := NB264_275.out; have hnb42 := NB275_0.out; have hnc42 := NB0_275.out; have hcz43_0 : w40.cell? ⟨gb275, 0, none⟩ = some (.int .i64 t269) := (blk_cell BK275.out 0).trans rfl; have hcz43_1 : w40.cell? ⟨gb275, 1, none⟩ = some (.int .i64 t270) := (blk_cell BK275.out 1).trans rfl; have hcz43_2 : w40.cell? ⟨gb275, 2, none⟩ = some (.slice Ao15 t271.length co15) := (blk_cell BK275.out 2).trans rfl; have hfz43_0 := blk_frozen BK275.out 0; have hfz43_1 := blk_frozen BK275.out 1; have hfz43_2 := blk_frozen BK275.out 2; have hnb44 := NB264_0.out; have hnc44 := NB0_264.out; have hcz45_0 : w40.cell? ⟨gb264, 0, none⟩ = some (.int .i64 0) := (blk_cell BK264.out 0).trans rfl; have hcz45_1 : w40.cell? ⟨gb264, 1, none⟩ = some (.int .i64 0) := (blk_cell BK264.out 1).trans rfl; have hcz45_2 : w40.cell? ⟨gb264, 2, none⟩ = some (.slice none 0 0) := (blk_cell BK264.out 2).trans rfl; have hfz45_0 := blk_frozen BK264.out 0; have hfz45_1 := blk_frozen BK264.out 1; have hfz45_2 := blk_frozen BK264.out 2))
       refine bodyPost_ret (results_cell_row rfl _ _ gb264 33 #[.int .i64 t269, .int .i64 t270, .slice none 0 0] (0, 0) _ rfl q13g Try.underlying33 rfl (by kernel_rfl)) rfl ?_
       exact ⟨_, by first | rfl | (simp [errW_none, errW_some] <;> rfl) | (simp [*, errW_none, errW_some] <;> rfl), by first | exact Kd.R_nil _ _ _ _ _ | exact Kd.N_nil _ _ _ _ _ | exact Kd.V_nil _ _ _ _ _ | exact Kd.Q_nil _ _ _ _ _ | exact Kd.S_nil _ _ _ _ _, q13a, q13c, q13b⟩
      ·rw [if_neg c39] at H
       have c39b0 : (t278 == 2) = false := beq_eq_false_iff_ne.mpr c39
       have c39b1 : (t278 != 2) = true := bne_iff_ne.mpr c39
       by_cases c46 : t278 = 3
       ·rw [if_pos c46] at H
        have c46b0 : (t278 == 3) = true := beq_iff_eq.mpr c46
        have c46b1 : (t278 != 3) = false := bne_eq_false_iff_eq.mpr c46
        clear c46
        replace H := Option.bind_eq_some_iff.mp H
        obtain ⟨⟨t284, t285, t286, t287, t288, t289, t290⟩, A470, H⟩ := H
        replace H : (if t271.length < 2932031007402 then (some (t269, t270, (t271 ++ [(⟨t284, t285, t286, t287, t288, t289⟩ : S23)]), t290)) else (none)) = some (r1, r2, r3, r4) := H
        have A47 := q13_ A470; clear A470
        by_cases c48 : t271.length < 2932031007402
        ·rw [if_pos c48] at H
         have LMc48 := q13_ c48; clear c48
         obtain ⟨y291, hy_⟩ : ∃ y_ : List (S23), y_ = (t271 ++ [(⟨t284, t285, t286, t287, t288, t289⟩ : S23)]) := ⟨_, rfl⟩
         replace H : (some (t269, t270, y291, t290)) = some (r1, r2, r3, r4) := by first | (rw [hy_]; with_reducible exact H) | (have H2_ := (Option.bind_some _ _).symm.trans H; rw [hy_]; with_reducible exact H2_) | (have H2_ := (Option.bind_some _ _).symm.trans H; with_reducible exact H2_) | with_reducible exact H | (rw [hy_]; exact H) | exact H
         have Ny291 := q13_ hy_; clear hy_
         simp only [Option.some.injEq, Prod.mk.injEq] at H
         obtain ⟨rfl, rfl, rfl, rfl⟩ := H
         try go_wp2_with (first | ((with_reducible refine gate_callee (f := 21) rfl ?_); refine goesL_ (some 21) rfl rfl Try.func21 (by kernel_rfl) rfl #[.pointer (some ⟨g, 0, none⟩), .int .i64 5] rfl q13e ?_; (with_reducible refine (awardingbodymake_Tape_Next.calls g s0_0 x1001_5 5 t278 t279 w0 _ ?side1 ?side2 A20.out).mono ?_); (case side1 => repeat (first | (with_reducible first | exact HI0.out | apply IsS61.alloc | apply IsS61.drewN | apply IsS61.drew | apply IsS61.set_1 | refine IsS61.far ?_ NB0_264.out _ | refine IsS61.far ?_ NB0_275.out _) | exact HI0.out)); (case side2 => repeat (first | (with_reducible first | exact HB.out | apply below_alloc | apply pw_below_drewN | apply below_drew1 | refine below_set ?_ (IsS61.ge HI0.out) | refine below_set ?_ GE264.out | refine below_set ?_ GE275.out) | exact HB.out)); rintro e w49 ⟨rfl, hi, hb, hk⟩; refine ⟨_, rfl, ?_⟩; have n0_ := q13_ (Kd.R_mono (Kd.R_keep (IsS61.apart (show IsS61 w0 _ g s0_0 x1001_5 from q13a) q13f (by decide)) hk (fun _ h => h.2)) (fun _ h => h.1)); have n1_ := q13_ (KeepBut.blk hk (g' := gb264) (o := .cells #[.int .i64 0, .int .i64 0, .slice none 0 0] 33 (0, 0)) (q13d) NB264_0.out (by simp)); have n2_ := q13_ (KeepBut.blk hk (g' := gb275) (o := .cells #[.int .i64 t269, .int .i64 t270, .slice Ao15 t271.length co15] 33 (0, 0)) (q13d) NB275_0.out (by simp)); have n3_ := q13_ (KeepBut.trans (q13b) hk (.inl rfl)); have n4_ := q13_ (hb); have n5_ := q13_ (hi); clear HO_276002 BK264 BK275 HK HB HI0; have HO_276002 := n0_; have BK264 := n1_; have BK275 := n2_; have HK := n3_; have HB := n4_; have HI0 := n5_; clear n0_ n1_ n2_ n3_ n4_ n5_; (try clear hb); (try clear hb2); (try clear hk); (try clear hi)))
         have n0_ := q13_ (Kd.R_drew HO_276002.out)
         have n1_ := q13_ (blk_drew BK264.out)
         have n2_ := q13_ (blk_drew BK275.out)
         have n3_ := q13_ (IsS61.drew HI0.out)
         have n4_ := q13_ (keep_drew HK.out)
         have n5_ := q13_ (below_drew1 HB.out)
         clear HO_276002 BK264 BK275 HI0 HK HB; have HO_276002 := n0_; have BK264 := n1_; have BK275 := n2_; have HI0 := n3_; have HK := n4_; have HB := n5_; clear n0_ n1_ n2_ n3_ n4_ n5_
         refine start_ (n := 8) (S := fun w' => w'.cell? ⟨gb275, 0, none⟩ = some (.int .i64 t269) ∧ w'.cell? ⟨gb275, 1, none⟩ = some (.int .i64 t270) ∧ w'.cell? ⟨gb275, 2, none⟩ = some (.slice Ao15 t271.length co15)) (ds := [7]) #[false, false, false, false, false, false, false, false] (by kernel_rfl) rfl rfl ⟨(blk_cell BK275.out 0).trans rfl, (blk_cell BK275.out 1).trans rfl, (blk_cell BK275.out 2).trans rfl⟩ (fun hHeld => ?_); refine with_tabW awardingbodymake_Tape_LoosePaper.tab15 awardingbodymake_Tape_LoosePaper.bits15 (fun HT_ HW_ => ?_)
         generalize w49.drew = w50 at HO_276002 BK264 BK275 HI0 HK HB hHeld ⊢
         refine pure_ (i := 0) (N := some 47) (v := ?_) (a' := ?_) #[true, false, false, false, false, false, false, false] rfl rfl (any_of HT_.out (by kernel_rfl)) (fun _ _ _ h => h) (Or.inl ⟨by rfl, ?_⟩) ?_ ?_
         rotate_left
         ·intro w'
          go_simp
          with_reducible rfl
         rotate_left
         ·simp only [Act.put, List.setIfInBounds_toArray, List.set_cons_zero, List.set_cons_succ, i64_w, i32_w]
          rfl
         refine pure_ (i := 2) (N := some 49) (v := ?_) (a' := ?_) #[true, false, true, false, false, false, false, false] rfl rfl (any_of HT_.out (by kernel_rfl)) (fun _ _ _ h => h) (Or.inl ⟨by rfl, ?_⟩) ?_ ?_
         rotate_left
         ·intro w'
          go_simp
          with_reducible rfl
         rotate_left
         ·simp only [Act.put, List.setIfInBounds_toArray, List.set_cons_zero, List.set_cons_succ, i64_w, i32_w]
          rfl
         refine take_ (i := 1) (N := some 48) (v := ?_) (a' := ?_) #[true, true, true, false, false, false, false, false] rfl rfl (take_ofW HT_.out HW_.out (by kernel_rfl)) (fun _ _ _ h => h) (Or.inl ⟨by rfl, ?_⟩) hHeld ?_ ?_
         rotate_left
         ·rintro w' ⟨s0, s1, s2⟩
          go_simp
          with_reducible rfl
         rotate_left
         ·simp only [Act.put, List.setIfInBounds_toArray, List.set_cons_zero, List.set_cons_succ, i64_w, i32_w]
          rfl
         refine one_ (i := 3) (N := some 50) #[true, true, true, true, false, false, false, false] rfl rfl (one_of HT_.out (by kernel_rfl)) (by decide) (fun K hK => ?_)
         refine goes_ Try.func37 (by kernel_rfl) rfl #[.pointer (some ⟨g, 0, none⟩), .int .i64 1] (by rfl) rfl rfl q13e ?_
         with_reducible refine (awardingbodymake_Tape_Part.calls kj5 g s0_0 t279 1 t284 t285 t286 t287 t288 t289 t290 w0 _ ?side1 ?side2 A47.out).mono ?_
         (case side1 => repeat (first | (with_reducible first | exact HI0.out | apply IsS61.alloc | apply IsS61.drewN | apply IsS61.drew | apply IsS61.set_1 | refine IsS61.far ?_ NB0_264.out _ | refine IsS61.far ?_ NB0_275.out _) | exact HI0.out))
         (case side2 => repeat (first | (with_reducible first | exact HB.out | apply below_alloc | apply pw_below_drewN | apply below_drew1 | refine below_set ?_ (IsS61.ge HI0.out) | refine below_set ?_ GE264.out | refine below_set ?_ GE275.out) | exact HB.out))
         rintro e w51 ⟨rfl, hi, hb, hk⟩
         refine ⟨_, rfl, ?_⟩
         have n0_ := q13_ (Kd.R_mono (Kd.R_keep (IsS61.apart (show IsS61 w0 _ g s0_0 t279 from q13a) q13f (by decide)) hk (fun _ h => h.2)) (fun _ h => h.1))
         have n1_ := q13_ (KeepBut.blk hk (g' := gb264) (o := .cells #[.int .i64 0, .int .i64 0, .slice none 0 0] 33 (0, 0)) (q13d) NB264_0.out (by simp))
         have n2_ := q13_ (KeepBut.blk hk (g' := gb275) (o := .cells #[.int .i64 t269, .int .i64 t270, .slice Ao15 t271.length co15] 33 (0, 0)) (q13d) NB275_0.out (by simp))
         have n3_ := q13_ (KeepBut.trans (q13b) hk (.inl rfl))
         have n4_ := q13_ (hb)
         have n5_ := q13_ (hi)
         clear HO_276002 BK264 BK275 HK HB HI0; have HO_276002 := n0_; have BK264 := n1_; have BK275 := n2_; have HK := n3_; have HB := n4_; have HI0 := n5_; clear n0_ n1_ n2_ n3_ n4_ n5_
         (try clear hb)
         (try clear hb2)
         (try clear hk)
         (try clear hi)
         refine hK.out _ _ ⟨(blk_cell BK275.out 0).trans rfl, (blk_cell BK275.out 1).trans rfl, (blk_cell BK275.out 2).trans rfl⟩ (fun hHeld => ?_)
         clear hK K
         refine norm_ (a' := ?_) ?_ ?_
         rotate_left
         ·show Act.put _ (some 50) _ = _
          simp only [Act.put, List.setIfInBounds_toArray, List.set_cons_zero, List.set_cons_succ, i64_w, i32_w]
          rfl
         refine one_ (i := 4) (N := some 51) #[true, true, true, true, true, false, false, false] rfl rfl (one_of HT_.out (by kernel_rfl)) (by decide) (fun K hK => ?_)
         refine value_ (w1 := ?_) (v := ?_) (by rfl) rfl ?_ ?_
         rotate_left 2
         ·go_simp
          constructor
          ·rfl
          ·rfl
         refine hK.out _ _ ⟨(blk_cell (blk_alloc BK275.out _) 0).trans rfl, (blk_cell (blk_alloc BK275.out _) 1).trans rfl, (blk_cell (blk_alloc BK275.out _) 2).trans rfl⟩ (fun hHeld => ?_)
         clear hK K
         refine norm_ (a' := ?_) ?_ ?_
         rotate_left
         ·show Act.put _ (some 51) _ = _
          simp only [Act.put, List.setIfInBounds_toArray, List.set_cons_zero, List.set_cons_succ, i64_w, i32_w]
          rfl
         refine one_ (i := 5) (N := some 52) #[true, true, true, true, true, true, false, false] rfl rfl (one_of HT_.out (by kernel_rfl)) (by decide) (fun K hK => ?_)
         refine Kd.R_append_step k23 w.heap.size (by rfl) (.tmp 48) (.tmp 51) 31 23 (.agg #[(.int .i64 0), (.int .i64 0), (.int .i64 0), (.int .i64 0), (.int .i64 0), (.int .i64 0)]) 48 rfl Try.underlying31 info23 rfl (by decide) (by omega) (.slice Ao15 t271.length co15) t271 (⟨t284, t285, t286, t287, t288, t289⟩ : S23) [.int .i64 t284, .int .i64 t285, .int .i64 t286, .int .i64 t287, .int .i64 t288, .int .i64 t289] (fun _ => True) (fun _ => False) rfl rfl ?aP (fun _ hk => hk.elim) ?aF ?aO (Below.refl _ _) ?aS ?aL ?_
         (case aP => exact k23_mkM _ _ _ (⟨t284, t285, t286, t287, t288, t289⟩ : S23))
         (case aF => exact (fun _ _ => trivial))
         (case aO => exact q13f)
         (case aS => exact (keep_size (w := w) (g := g) (row := none) (q13b)))
         (case aL => have := LMc48.out; omega)
         intro v292 w52 ho hb hg hat
         rw [← Ny291.out] at ho
         have n0_ := q13_ (blk_grown (g := gb264) (o := .cells #[.int .i64 0, .int .i64 0, .slice none 0 0] 33 (0, 0)) (q13d) hg (Kd.R_ne HO_276002.out BK264.out (by decide)))
         have n1_ := q13_ (blk_grown (g := gb275) (o := .cells #[.int .i64 t269, .int .i64 t270, .slice Ao15 t271.length co15] 33 (0, 0)) (q13d) hg (Kd.R_ne HO_276002.out BK275.out (by decide)))
         have n2_ := q13_ (IsS61.grown (q13a) hg (IsS61.own_ne HI0.out HO_276002.out (by decide)))
         have n3_ := q13_ (below_weaken (q13c) HL.out hb)
         have n4_ := q13_ (KeepBut.trans (q13b) (KeepBut.of_grown hg g) (Kd.R_base2 HO_276002.out))
         have n5_ := q13_ (ho)
         clear BK264 BK275 HI0 HB HK HO_276002; have BK264 := n0_; have BK275 := n1_; have HI0 := n2_; have HB := n3_; have HK := n4_; have HO293 := n5_; clear n0_ n1_ n2_ n3_ n4_ n5_ ho hb hg hat
         obtain ⟨Ao53, co53, eo53⟩ := Kd.R_slice HO293.out
         (first | subst eo53 | (injection eo53 with f1_ f2_ f3_; have f4_ := f1_.symm; have f5_ := f3_.symm; clear f1_ f2_ f3_; subst f4_; subst f5_))
         refine hK.out _ _ ⟨(blk_cell BK275.out 0).trans rfl, (blk_cell BK275.out 1).trans rfl, (blk_cell BK275.out 2).trans rfl⟩ (fun hHeld => ?_)
         clear hK K
         refine norm_ (a' := ?_) ?_ ?_
         rotate_left
         ·show Act.put _ (some 52) _ = _
          simp only [Act.put, List.setIfInBounds_toArray, List.set_cons_zero, List.set_cons_succ, i64_w, i32_w]
          rfl
         refine pure_ (i := 6) (N := some 53) (v := ?_) (a' := ?_) #[true, true, true, true, true, true, true, false] rfl rfl (any_of HT_.out (by kernel_rfl)) (fun _ _ _ h => h) (Or.inl ⟨by rfl, ?_⟩) ?_ ?_
         rotate_left
         ·intro w'
          go_simp
          with_reducible rfl
         rotate_left
         ·simp only [Act.put, List.setIfInBounds_toArray, List.set_cons_zero, List.set_cons_succ, i64_w, i32_w]
          rfl
         refine last_ (i := 7) (N := none) #[true, true, true, true, true, true, true, true] rfl rfl (one_of HT_.out (by kernel_rfl)) (by decide) (fun K hK => ?_)
         have hs54 : w52.cell? ⟨gb275, 2, none⟩ = some (.slice Ao15 t271.length co15) := (blk_cell BK275.out 2).trans rfl
         have hfs54 := blk_frozen BK275.out 2
         have hns54_0 := NB264_275.out
         have hms54_0 := NB275_264.out
         refine skip_ (w1 := ?_) (by rfl) rfl ?_ ?_
         rotate_left
         ·go_simp
          rfl
         refine hK.out _ _ ?_
         clear hK K
         refine done_ (done_of HT_.out (by kernel_rfl)) ?_
         have hnb55 := NB275_264.out
         have hnc55 := NB264_275.out
         have hnb56 := NB275_0.out
         have hnc56 := NB0_275.out
         have hcz57_0 : w52.cell? ⟨gb275, 0, none⟩ = some (.int .i64 t269) := (blk_cell BK275.out 0).trans rfl
         have hcz57_1 : w52.cell? ⟨gb275, 1, none⟩ = some (.int .i64 t270) := (blk_cell BK275.out 1).trans rfl
         have hcz57_2 : w52.cell? ⟨gb275, 2, none⟩ = some (.slice Ao15 t271.length co15) := (blk_cell BK275.out 2).trans rfl
         have hfz57_0 := blk_frozen BK275.out 0
         have hfz57_1 := blk_frozen BK275.out 1
         have hfz57_2 := blk_frozen BK275.out 2
         have hnb58 := NB264_0.out
         have hnc58 := NB0_264.out
         have hcz59_0 : w52.cell? ⟨gb264, 0, none⟩ = some (.int .i64 0) := (blk_cell BK264.out 0).trans rfl
         have hcz59_1 : w52.cell? ⟨gb264, 1, none⟩ = some (.int .i64 0) := (blk_cell BK264.out 1).trans rfl
         have hcz59_2 : w52.cell? ⟨gb264, 2, none⟩ = some (.slice none 0 0) := (blk_cell BK264.out 2).trans rfl
         have hfz59_0 := blk_frozen BK264.out 0
         have hfz59_1 := blk_frozen BK264.out 1
         have hfz59_2 := blk_frozen BK264.out 2
         try go_wp2
         refine bodyPost_ret (results_cell_row rfl _ _ gb264 33 #[.int .i64 t269, .int .i64 t270, .slice Ao53 y291.length co53] (0, 0) _ rfl q13g Try.underlying33 rfl (by kernel_rfl)) rfl ?_
         exact ⟨_, by first | rfl | (simp [errW_none, errW_some] <;> rfl) | (simp [*, errW_none, errW_some] <;> rfl), by (with_reducible repeat (first | apply Kd.R_alloc | apply Kd.R_drewN | apply Kd.R_drew)); exact Kd.R_mono (Kd.R_far (p := ⟨gb264, 2, none⟩) (Kd.R_far (p := ⟨gb264, 1, none⟩) (Kd.R_far (p := ⟨gb264, 0, none⟩) (Kd.R_far (p := ⟨gb275, 2, none⟩) (Kd.R_types (Kd.R_types HO293.out BK275.out (by decide)) BK264.out (by decide)) (fun _ hk => hk.1.2) (.slice Ao53 y291.length co53)) (fun _ hk => hk.2) (.int .i64 t269)) (fun _ hk => hk.2) (.int .i64 t270)) (fun _ hk => hk.2) (.slice Ao53 y291.length co53)) (fun _ hk => trivial), q13a, q13c, q13b⟩
        ·rw [if_neg c48] at H
         exact absurd H (by simp)
       ·rw [if_neg c46] at H
        have c46b0 : (t278 == 3) = false := beq_eq_false_iff_ne.mpr c46
        have c46b1 : (t278 != 3) = true := bne_iff_ne.mpr c46
        have H' := q13_ H; clear H
        go_wp2_with (first | ((with_reducible refine gate_callee (f := 21) rfl ?_); refine goesL_ (some 21) rfl rfl Try.func21 (by kernel_rfl) rfl #[.pointer (some ⟨g, 0, none⟩), .int .i64 5] rfl q13e ?_; (with_reducible refine (awardingbodymake_Tape_Next.calls g s0_0 x1001_5 5 t278 t279 w0 _ ?side1 ?side2 A20.out).mono ?_); (case side1 => repeat (first | (with_reducible first | exact HI0.out | apply IsS61.alloc | apply IsS61.drewN | apply IsS61.drew | apply IsS61.set_1 | refine IsS61.far ?_ NB0_264.out _ | refine IsS61.far ?_ NB0_275.out _) | exact HI0.out)); (case side2 => repeat (first | (with_reducible first | exact HB.out | apply below_alloc | apply pw_below_drewN | apply below_drew1 | refine below_set ?_ (IsS61.ge HI0.out) | refine below_set ?_ GE264.out | refine below_set ?_ GE275.out) | exact HB.out)); rintro e w60 ⟨rfl, hi, hb, hk⟩; refine ⟨_, rfl, ?_⟩; have n0_ := q13_ (Kd.R_mono (Kd.R_keep (IsS61.apart (show IsS61 w0 _ g s0_0 x1001_5 from q13a) q13f (by decide)) hk (fun _ h => h.2)) (fun _ h => h.1)); have n1_ := q13_ (KeepBut.blk hk (g' := gb264) (o := .cells #[.int .i64 0, .int .i64 0, .slice none 0 0] 33 (0, 0)) (q13d) NB264_0.out (by simp)); have n2_ := q13_ (KeepBut.blk hk (g' := gb275) (o := .cells #[.int .i64 t269, .int .i64 t270, .slice Ao15 t271.length co15] 33 (0, 0)) (q13d) NB275_0.out (by simp)); have n3_ := q13_ (KeepBut.trans (q13b) hk (.inl rfl)); have n4_ := q13_ (hb); have n5_ := q13_ (hi); clear HO_276002 BK264 BK275 HK HB HI0; have HO_276002 := n0_; have BK264 := n1_; have BK275 := n2_; have HK := n3_; have HB := n4_; have HI0 := n5_; clear n0_ n1_ n2_ n3_ n4_ n5_; (try clear hb); (try clear hb2); (try clear hk); (try clear hi)))
        go_loopg [6] kj5 (fun kq v6 w' => ∃ (x6_2 : Int) (x276002_2 : List (S23)) (u276002 : Value), v6 = .int .i64 x6_2 ∧ Aside0 (awardingbodymake_Tape_LoosePaper.l0 kq x6_2 s0_0 t279 t269 t270 x276002_2 = some (r1, r2, r3, r4)) ∧ Aside0 (kq ≤ kj5) ∧ Aside0 (Kd.R k23 23 w' w.heap.size (fun _ => True) u276002 x276002_2) ∧ Aside0 (w'.heap[gb264]? = some (.cells #[.int .i64 0, .int .i64 0, (.slice none 0 0)] 33 (0, 0))) ∧ Aside0 (w'.heap[gb275]? = some (.cells #[.int .i64 t269, .int .i64 t270, u276002] 33 (0, 0))) ∧ Aside0 (IsS61 w0 w' g s0_0 t279) ∧ Aside0 (KeepBut w w' g none) ∧ Aside0 (Below w0.heap.size w0 w'))
        case atStart => exact ⟨(0), (t271), (.slice Ao15 t271.length co15), q13j, H', ⟨Nat.le_refl _⟩, ⟨by (with_reducible repeat (first | apply Kd.R_alloc | apply Kd.R_drewN | apply Kd.R_drew)); exact HO_276002.out⟩, ⟨q13d⟩, ⟨q13d⟩, ⟨q13a⟩, ⟨q13b⟩, ⟨q13c⟩⟩
        case round =>
         clear H'; (try clear c1); (try clear c2); (try clear p2); (try clear c3); (try clear c4); (try clear c5); (try clear c12); (try clear c13); (try clear c16); (try clear c16b0); (try clear c19); (try clear c21); (try clear c21b0); (try clear c21b1); (try clear c25); (try clear c26); (try clear c28); (try clear c30); (try clear c30b0); (try clear c30b1); (try clear c33); (try clear c34); (try clear c35); (try clear c36); (try clear c37); (try clear c39); (try clear c39b0); (try clear c39b1); (try clear c41); (try clear c42); (try clear c44); (try clear c46); (try clear c46b0); (try clear c46b1); (try clear c48); (try clear c55); (try clear c56); (try clear c58); (try clear hcz14_0); (try clear hcz14_1); (try clear hcz14_2); (try clear hcz27_0); (try clear hcz27_1); (try clear hcz27_2); (try clear hcz29_0); (try clear hcz29_1); (try clear hcz29_2); (try clear hcz36_0); (try clear hcz36_1); (try clear hcz36_2); (try clear hcz38_0); (try clear hcz38_1); (try clear hcz38_2); (try clear hcz43_0); (try clear hcz43_1); (try clear hcz43_2); (try clear hcz45_0); (try clear hcz45_1); (try clear hcz45_2); (try clear hcz57_0); (try clear hcz57_1); (try clear hcz57_2); (try clear hcz59_0); (try clear hcz59_1); (try clear hcz59_2); (try clear hfz14_0); (try clear hfz14_1); (try clear hfz14_2); (try clear hfz27_0); (try clear hfz27_1); (try clear hfz27_2); (try clear hfz29_0); (try clear hfz29_1); (try clear hfz29_2); (try clear hfz36_0); (try clear hfz36_1); (try clear hfz36_2); (try clear hfz38_0); (try clear hfz38_1); (try clear hfz38_2); (try clear hfz43_0); (try clear hfz43_1); (try clear hfz43_2); (try clear hfz45_0); (try clear hfz45_1); (try clear hfz45_2); (try clear hfz57_0); (try clear hfz57_1); (try clear hfz57_2); (try clear hfz59_0); (try clear hfz59_1); (try clear hfz59_2); (try clear p2)
         obtain ⟨x6_2, x276002_2, u276002, rfl, HA, HK2, HO_276002, BK264, BK275, HI0, HK, HB⟩ := hrel
         cases gk with
         | zero => exact absurd HA.out (by simp [awardingbodymake_Tape_LoosePaper.l0])
         | succ k2 =>
          have H := HA.out
          clear HA
          simp only [awardingbodymake_Tape_LoosePaper.l0] at H
          by_cases c61 : x6_2 < 6
          ·rw [if_pos c61] at H
           have c61b0 : decide (x6_2 < 6) = true := decide_eq_true c61
           clear c61
           by_cases c62 : x276002_2.length < 2932031007402
           ·rw [if_pos c62] at H
            have LMc62 := q13_ c62; clear c62
            obtain ⟨y294, hy_⟩ : ∃ y_ : List (S23), y_ = (x276002_2 ++ [(⟨1, 40, 0, 0, 0, 0⟩ : S23)]) := ⟨_, rfl⟩
            replace H : (awardingbodymake_Tape_LoosePaper.l0 k2 (wrap64 (x6_2 + 1)) s0_0 t279 t269 t270 y294) = some (r1, r2, r3, r4) := by first | (rw [hy_]; with_reducible exact H) | (have H2_ := (Option.bind_some _ _).symm.trans H; rw [hy_]; with_reducible exact H2_) | (have H2_ := (Option.bind_some _ _).symm.trans H; with_reducible exact H2_) | with_reducible exact H | (rw [hy_]; exact H) | exact H
            have Ny294 := q13_ hy_; clear hy_; have H' := q13_ H; clear H
            have hnb63 := NB275_264.out
            have hnc63 := NB264_275.out
            have hnb64 := NB275_0.out
            have hnc64 := NB0_275.out
            have hcz65_0 : wr.cell? ⟨gb275, 0, none⟩ = some (.int .i64 t269) := (blk_cell BK275.out 0).trans rfl
            have hcz65_1 : wr.cell? ⟨gb275, 1, none⟩ = some (.int .i64 t270) := (blk_cell BK275.out 1).trans rfl
            have hcz65_2 : wr.cell? ⟨gb275, 2, none⟩ = some (u276002) := (blk_cell BK275.out 2).trans rfl
            have hfz65_0 := blk_frozen BK275.out 0
            have hfz65_1 := blk_frozen BK275.out 1
            have hfz65_2 := blk_frozen BK275.out 2
            go_wp2_with (first | ((with_reducible refine gate_builtin (b := .append) (xs := #[.tmp 27, .tmp 29]) rfl ?_); at_builtin; refine Kd.R_append k23 w.heap.size rfl (.tmp 27) (.tmp 29) 31 23 (.agg #[(.int .i64 0), (.int .i64 0), (.int .i64 0), (.int .i64 0), (.int .i64 0), (.int .i64 0)]) 48 rfl Try.underlying31 info23 rfl (by decide) (by omega) u276002 x276002_2 (⟨1, 40, 0, 0, 0, 0⟩ : S23) [.int .i64 1, .int .i64 40, .int .i64 0, .int .i64 0, .int .i64 0, .int .i64 0] (fun _ => True) (fun _ => False) rfl rfl ?aP (fun _ hk => hk.elim) ?aF ?aO (Below.refl _ _) ?aS ?aL ?_; (case aP => exact k23_mkM _ _ _ (⟨1, 40, 0, 0, 0, 0⟩ : S23)); (case aF => exact (fun _ _ => trivial)); (case aO => exact q13f); (case aS => exact (keep_size (w := w) (g := g) (row := none) (q13b))); (case aL => have := LMc62.out; omega); intro v295 w66 ho hb hg hat; rw [← Ny294.out] at ho; have n0_ := q13_ (blk_grown (g := gb264) (o := .cells #[.int .i64 0, .int .i64 0, .slice none 0 0] 33 (0, 0)) (q13d) hg (Kd.R_ne HO_276002.out BK264.out (by decide))); have n1_ := q13_ (blk_grown (g := gb275) (o := .cells #[.int .i64 t269, .int .i64 t270, u276002] 33 (0, 0)) (q13d) hg (Kd.R_ne HO_276002.out BK275.out (by decide))); have n2_ := q13_ (IsS61.grown (q13a) hg (IsS61.own_ne HI0.out HO_276002.out (by decide))); have n3_ := q13_ (below_weaken (q13c) HL.out hb); have n4_ := q13_ (KeepBut.trans (q13b) (KeepBut.of_grown hg g) (Kd.R_base2 HO_276002.out)); have n5_ := q13_ (ho); clear BK264 BK275 HI0 HB HK HO_276002; have BK264 := n0_; have BK275 := n1_; have HI0 := n2_; have HB := n3_; have HK := n4_; have HO296 := n5_; clear n0_ n1_ n2_ n3_ n4_ n5_ ho hb hg hat; obtain ⟨Ao67, co67, eo67⟩ := Kd.R_slice HO296.out; subst eo67; have hcz68_0 : w66.cell? ⟨gb275, 0, none⟩ = some (.int .i64 t269) := (blk_cell BK275.out 0).trans rfl; have hcz68_1 : w66.cell? ⟨gb275, 1, none⟩ = some (.int .i64 t270) := (blk_cell BK275.out 1).trans rfl; have hcz68_2 : w66.cell? ⟨gb275, 2, none⟩ = some (u276002) := (blk_cell BK275.out 2).trans rfl; have hfz68_0 := blk_frozen BK275.out 0; have hfz68_1 := blk_frozen BK275.out 1; have hfz68_2 := blk_frozen BK275.out 2))
            go_roundg k2
            case measure => have := HJ5.out; have := HK2.out; omega
            case rel => exact ⟨(wrap64 (x6_2 + 1)), (y294), (.slice Ao67 y294.length co67), q13j, H', ⟨by have := HJ5.out; have := HK2.out; omega⟩, ⟨by (with_reducible repeat (first | apply Kd.R_alloc | apply Kd.R_drewN | apply Kd.R_drew)); exact Kd.R_mono (Kd.R_far (p := ⟨gb275, 2, none⟩) (Kd.R_types HO296.out BK275.out (by decide)) (fun _ hk => hk.2) (.slice Ao67 y294.length co67)) (fun _ hk => trivial)⟩, ⟨q13d⟩, ⟨by (with_reducible repeat (first | refine blk_drewN ?_ _ | refine blk_drew ?_ | refine blk_alloc ?_ _)); refine blk_put (cs := #[.int .i64 t269, .int .i64 t270, u276002]) ?_ 2 _ rfl; (with_reducible repeat (first | refine blk_drewN ?_ _ | refine blk_drew ?_ | refine blk_alloc ?_ _)); exact BK275.out⟩, ⟨q13a⟩, ⟨q13b⟩, ⟨q13c⟩⟩
           ·rw [if_neg c62] at H
            exact absurd H (by simp)
          ·rw [if_neg c61] at H
           have c61b0 : decide (x6_2 < 6) = false := decide_eq_false c61
           clear c61
           simp only [Option.some.injEq, Prod.mk.injEq] at H
           obtain ⟨rfl, rfl, rfl, rfl⟩ := H
           have hnb69 := NB275_264.out
           have hnc69 := NB264_275.out
           have hnb70 := NB275_0.out
           have hnc70 := NB0_275.out
           have hcz71_0 : wr.cell? ⟨gb275, 0, none⟩ = some (.int .i64 t269) := (blk_cell BK275.out 0).trans rfl
           have hcz71_1 : wr.cell? ⟨gb275, 1, none⟩ = some (.int .i64 t270) := (blk_cell BK275.out 1).trans rfl
           have hcz71_2 : wr.cell? ⟨gb275, 2, none⟩ = some (u276002) := (blk_cell BK275.out 2).trans rfl
           have hfz71_0 := blk_frozen BK275.out 0
           have hfz71_1 := blk_frozen BK275.out 1
           have hfz71_2 := blk_frozen BK275.out 2
           have hnb72 := NB264_0.out
           have hnc72 := NB0_264.out
           have hcz73_0 : wr.cell? ⟨gb264, 0, none⟩ = some (.int .i64 0) := (blk_cell BK264.out 0).trans rfl
           have hcz73_1 : wr.cell? ⟨gb264, 1, none⟩ = some (.int .i64 0) := (blk_cell BK264.out 1).trans rfl
           have hcz73_2 : wr.cell? ⟨gb264, 2, none⟩ = some (.slice none 0 0) := (blk_cell BK264.out 2).trans rfl
           have hfz73_0 := blk_frozen BK264.out 0
           have hfz73_1 := blk_frozen BK264.out 1
           have hfz73_2 := blk_frozen BK264.out 2
           obtain ⟨Ao74, co74, eo74⟩ := Kd.R_slice HO_276002.out
           subst eo74
           go_wp2
           refine bodyPost_ret (results_cell_row rfl _ _ gb264 33 #[.int .i64 t269, .int .i64 t270, .slice Ao74 x276002_2.length co74] (0, 0) _ rfl q13h Try.underlying33 rfl (by kernel_rfl)) rfl ?_
           exact ⟨_, by first | rfl | (simp [errW_none, errW_some] <;> rfl) | (simp [*, errW_none, errW_some] <;> rfl), by (with_reducible repeat (first | apply Kd.R_alloc | apply Kd.R_drewN | apply Kd.R_drew)); exact Kd.R_mono (Kd.R_far (p := ⟨gb264, 2, none⟩) (Kd.R_far (p := ⟨gb264, 1, none⟩) (Kd.R_far (p := ⟨gb264, 0, none⟩) (Kd.R_types HO_276002.out BK264.out (by decide)) (fun _ hk => hk.2) (.int .i64 t269)) (fun _ hk => hk.2) (.int .i64 t270)) (fun _ hk => hk.2) (.slice Ao74 x276002_2.length co74)) (fun _ hk => trivial), q13a, q13c, q13b⟩
   ·replace c19 := Bool.eq_false_iff.mpr c19
    subst c19
    have H1 : (some (t269, t270, t271, x1001_5)) = some (r1, r2, r3, r4) := by rw [if_neg (show ¬ (false = true) by decide)] at H; exact H
    clear H; have H := H1; clear H1
    simp only [Option.some.injEq, Prod.mk.injEq] at H
    obtain ⟨rfl, rfl, rfl, rfl⟩ := H
    have hnb75 := NB275_264.out
    have hnc75 := NB264_275.out
    have hnb76 := NB275_0.out
    have hnc76 := NB0_275.out
    have hcz77_0 : wc.cell? ⟨gb275, 0, none⟩ = some (.int .i64 t269) := (blk_cell BK275.out 0).trans rfl
    have hcz77_1 : wc.cell? ⟨gb275, 1, none⟩ = some (.int .i64 t270) := (blk_cell BK275.out 1).trans rfl
    have hcz77_2 : wc.cell? ⟨gb275, 2, none⟩ = some (.slice Ao15 t271.length co15) := (blk_cell BK275.out 2).trans rfl
    have hfz77_0 := blk_frozen BK275.out 0
    have hfz77_1 := blk_frozen BK275.out 1
    have hfz77_2 := blk_frozen BK275.out 2
    have hnb78 := NB264_0.out
    have hnc78 := NB0_264.out
    have hcz79_0 : wc.cell? ⟨gb264, 0, none⟩ = some (.int .i64 0) := (blk_cell BK264.out 0).trans rfl
    have hcz79_1 : wc.cell? ⟨gb264, 1, none⟩ = some (.int .i64 0) := (blk_cell BK264.out 1).trans rfl
    have hcz79_2 : wc.cell? ⟨gb264, 2, none⟩ = some (.slice none 0 0) := (blk_cell BK264.out 2).trans rfl
    have hfz79_0 := blk_frozen BK264.out 0
    have hfz79_1 := blk_frozen BK264.out 1
    have hfz79_2 := blk_frozen BK264.out 2
    go_wp2
    refine bodyPost_ret (results_cell_row rfl _ _ gb264 33 #[.int .i64 t269, .int .i64 t270, .slice Ao15 t271.length co15] (0, 0) _ rfl q13h Try.underlying33 rfl (by kernel_rfl)) rfl ?_
    exact ⟨_, by first | rfl | (simp [errW_none, errW_some] <;> rfl) | (simp [*, errW_none, errW_some] <;> rfl), by (with_reducible repeat (first | apply Kd.R_alloc | apply Kd.R_drewN | apply Kd.R_drew)); exact Kd.R_mono (Kd.R_far (p := ⟨gb264, 2, none⟩) (Kd.R_far (p := ⟨gb264, 1, none⟩) (Kd.R_far (p := ⟨gb264, 0, none⟩) (Kd.R_types HO_276002.out BK264.out (by decide)) (fun _ hk => hk.2) (.int .i64 t269)) (fun _ hk => hk.2) (.int .i64 t270)) (fun _ hk => hk.2) (.slice Ao15 t271.length co15)) (fun _ hk => trivial), q13a, q13c, q13b⟩

end Go.Proofs.Ytdmlbgdefapcjaa.Print
