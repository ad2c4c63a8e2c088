-- Printed by a program of this session (wip/own_print.py) out of the translation; Lean checks it.
import Derived.Test.YtdmlbgdefapcjaaPrint0
import Derived.Test.YtdmlbgdefapcjaaPrint10
import Derived.Test.YtdmlbgdefapcjaaPrint11
namespace Go.Proofs.Ytdmlbgdefapcjaa.Print
open Go.RowKit Go.Proofs.YtdmlbgdefapcjaaW.PrintWords Go.Proofs.YtdmlbgdefapcjaaW.PrintLast Go.Proofs.YtdmlbgdefapcjaaW.PrintMore
attribute [local go_sem] max2_int min2_int max_two min_two max_three min_three max_four min_four   -- for this text's walks alone
set_option linter.unusedVariables false
set_option linter.unusedSimpArgs false

/-! ### awardingbodymake_Tape_Paper: function 33 -/
def awardingbodymake_Tape_Paper.l0 : Nat → Int → List Int → Int → Int → Int → List (S23) → Option (Int × Int × (List (S23)) × Int)
  | 0, _, _, _, _, _, _ => none
  | k + 1, x8, x1000, x1001, x252000, x252001, x252002 => if x8 > 0 then ((awardingbodymake_Tape_Part.f k x1000 x1001 0).bind fun bt254 => (if x252002.length < 2932031007402 then (awardingbodymake_Tape_Paper.l0 k (wrap64 (x8 - 1)) x1000 bt254.2.2.2.2.2.2 x252000 x252001 (x252002 ++ [(⟨bt254.1, bt254.2.1, bt254.2.2.1, bt254.2.2.2.1, bt254.2.2.2.2.1, bt254.2.2.2.2.2.1⟩ : S23)])) else (none))) else (some (x252000, x252001, x252002, x1001))
def awardingbodymake_Tape_Paper.f (k : Nat) (s0_0 : List Int) (s0_1 : Int) (a1 : Int) (a2 : Int) : Option (Int × Int × (List (S23)) × Int) := (awardingbodymake_Tape_Range.f s0_0 s0_1 1 6).bind fun bt252 => (awardingbodymake_Tape_Paper.l0 k bt252.1 s0_0 bt252.2 a1 a2 ([] : List (S23)))
theorem awardingbodymake_Tape_Paper.mono_l : ∀ k, (∀ y0 y1 y2 y3 y4 y5, LeO (awardingbodymake_Tape_Paper.l0 k y0 y1 y2 y3 y4 y5) (awardingbodymake_Tape_Paper.l0 (k + 1) y0 y1 y2 y3 y4 y5))
  | 0 => fun _ _ _ _ _ _ r h => by simp [awardingbodymake_Tape_Paper.l0] at h
  | k + 1 => by
    have ih0 := awardingbodymake_Tape_Paper.mono_l k
    · intro y0 y1 y2 y3 y4 y5
      unfold awardingbodymake_Tape_Paper.l0
      repeat' first
      | (with_reducible exact ih0 _ _ _ _ _ _)
      | (with_reducible exact awardingbodymake_Tape_Part.mono _ _ _ _)
      | (with_reducible exact LeO.refl _)
      | (with_reducible exact LeO.none _)
      | (with_reducible refine LeO.ite ?_ ?_)
      | (with_reducible refine LeO.bind ?_ (fun _ => ?_))
      | exact ih0 _ _ _ _ _ _
      | exact awardingbodymake_Tape_Part.mono _ _ _ _
      | exact LeO.none _
      | refine LeO.ite ?_ ?_
      | refine LeO.bind ?_ (fun _ => ?_)
theorem awardingbodymake_Tape_Paper.mono : ∀ a0 a1 a2 a3 k, LeO (awardingbodymake_Tape_Paper.f k a0 a1 a2 a3) (awardingbodymake_Tape_Paper.f (k + 1) a0 a1 a2 a3) := by
  intro a0 a1 a2 a3 k
  have ih0 := awardingbodymake_Tape_Paper.mono_l k
  unfold awardingbodymake_Tape_Paper.f
  repeat' first
      | (with_reducible exact ih0 _ _ _ _ _ _)
      | (with_reducible exact awardingbodymake_Tape_Part.mono _ _ _ _)
      | (with_reducible exact LeO.refl _)
      | (with_reducible exact LeO.none _)
      | (with_reducible refine LeO.ite ?_ ?_)
      | (with_reducible refine LeO.bind ?_ (fun _ => ?_))
      | exact ih0 _ _ _ _ _ _
      | exact awardingbodymake_Tape_Part.mono _ _ _ _
      | exact LeO.none _
      | refine LeO.ite ?_ ?_
      | refine LeO.bind ?_ (fun _ => ?_)
def awardingbodymake_Tape_Paper.T5 : Bool × List (List Nat × List Nat) := (true, [([], []), ([0], [0]), ([], []), ([2], [2]), ([3], [3]), ([1, 4, 3], [1, 4]), ([0, 1, 2, 3, 4, 5], []), ([6, 5, 5, 0, 1, 2, 3, 4, 5], [5, 6])])
def awardingbodymake_Tape_Paper.B5 : List Nat := [0, 1, 0, 4, 12, 31, 63, 127]
theorem awardingbodymake_Tape_Paper.tab5 : rtab .any (opsOf Try.f33 5) = awardingbodymake_Tape_Paper.T5 := by kernel_rfl
theorem awardingbodymake_Tape_Paper.bits5 : waitsOk awardingbodymake_Tape_Paper.T5.2 awardingbodymake_Tape_Paper.B5 = true := by kernel_rfl
theorem q12_ {p : Prop} (h : p) : Aside0 p := ⟨h⟩
theorem q12a {p : Prop} (h : p := by (repeat (first | (with_reducible first | exact HI0.out | apply IsS61.alloc | apply IsS61.drewN | apply IsS61.drew | apply IsS61.set_1 | refine IsS61.far ?_ NB0_250.out _ | refine IsS61.far ?_ NB0_251.out _) | exact HI0.out))) : p := h
theorem q12b {p : Prop} (h : p := by (repeat (first | (with_reducible first | exact HK.out | apply KeepBut.set_ | apply keep_drewN | apply keep_drew | apply keep_alloc | refine keep_far ?_ GW250.out _ | refine keep_far ?_ GW251.out _) | exact HK.out))) : p := h
theorem q12c {p : Prop} (h : p := by (repeat (first | (with_reducible first | exact HB.out | apply below_alloc | apply pw_below_drewN | apply below_drew1 | refine below_set ?_ (IsS61.ge HI0.out) | refine below_set ?_ GE250.out | refine below_set ?_ GE251.out) | exact HB.out))) : p := h
theorem q12d {p : Prop} (h : p := by ((repeat (first | (with_reducible first | refine blk_drewN ?_ _ | refine blk_drew ?_ | refine blk_alloc ?_ _) | refine blk_far ?_ (Aside0.out (by assumption)) _)); first | (with_reducible exact (Aside0.out (by assumption))) | exact (Aside0.out (by assumption)))) : p := h
theorem q12e {p : Prop} (h : p := by (rw [hg]; exact (keep_size (w := w) (g := g) (row := none) (q12b)))) : p := h
theorem q12f {p : Prop} (h : p := by ((try simp only [List.map_toArray, List.map_cons, List.map_nil]); first | done | rfl | (simp only [List.length_drop, List.length_take]; rfl))) : p := h
set_option maxHeartbeats 8000000 in
set_option maxRecDepth 100000 in
theorem awardingbodymake_Tape_Paper.calls (k : Nat) (g : Nat) (s0_0 : List Int) (s0_1 : Int) (a1 : Int) (a2 : Int) (r1 : Int) (r2 : Int) (r3 : List (S23)) (r4 : Int) (w0 w : World) (hI : IsS61 w0 w g s0_0 s0_1) (hB : Below w0.heap.size w0 w) (h : awardingbodymake_Tape_Paper.f k s0_0 s0_1 a1 a2 = some (r1, r2, r3, r4)) :
    Calls Try.prog 33 #[.pointer (some ⟨g, 0, none⟩), .int .i64 a1, .int .i64 a2] w fun e w' => ∃ v2_ : Value, e = .returned (.agg #[.int .i64 r1, .int .i64 r2, v2_]) ∧ Kd.R k23 23 w' w.heap.size (fun _ => True) v2_ r3 ∧ IsS61 w0 w' g s0_0 r4 ∧ Below w0.heap.size w0 w' ∧ KeepBut w w' g none := by
 have hu33 := Try.underlying33
 have HI0 := q12_ hI
 have HK := q12_ (KeepBut.refl w g none)
 have HL := q12_ hB.size
 clear hI
 have HW0 := q12_ hB.size
 have HB := q12_ hB; clear hB
 have H : ((awardingbodymake_Tape_Range.f s0_0 s0_1 1 6).bind fun bt252 => (awardingbodymake_Tape_Paper.l0 k bt252.1 s0_0 bt252.2 a1 a2 ([] : List (S23)))) = some (r1, r2, r3, r4) := h
 clear h
 replace H := Option.bind_eq_some_iff.mp H
 obtain ⟨⟨t252, t253⟩, A40, H⟩ := H
 replace H : (awardingbodymake_Tape_Paper.l0 k t252 s0_0 t253 a1 a2 ([] : List (S23))) = some (r1, r2, r3, r4) := H
 have A4 := q12_ A40; clear A40; have H' := q12_ H; clear H
 go_enter Try.func33, Try.ntmps33
 go_wp2_with (first | ((with_reducible refine gate_dst (N := 6) rfl ?_); refine box_event ?hg (N := 6) ?hd (cs := #[.int .i64 0, .int .i64 0, .slice none 0 0]) (t := 33) ?hr ?_; (case hd => rfl); (case hg => rfl); (case hr => first | (go_simp; done) | (go_simp; rfl)); intro gb250 hg w5 hbox hb; have n0_ := q12_ (IsS61.below (q12a) hb); have n1_ := q12_ (KeepBut.trans (q12b) (KeepBut.of_below hb g none) (.inl rfl)); have n2_ := q12_ (below_step (q12c) hb); have n3_ := q12_ (hbox); have n4_ := q12_ ((q12e : w.heap.size ≤ gb250)); have n5_ := q12_ ((Nat.le_trans HW0.out (q12e : w.heap.size ≤ gb250) : w0.heap.size ≤ gb250)); have n6_ := q12_ ((by rw [hg]; exact Nat.ne_of_lt (IsS61.lt (show IsS61 w0 _ g s0_0 s0_1 from q12a)) : g ≠ gb250)); have n7_ := q12_ ((by rw [hg]; exact Nat.ne_of_gt (IsS61.lt (show IsS61 w0 _ g s0_0 s0_1 from q12a)) : gb250 ≠ g)); clear HI0 HK HB; have HI0 := n0_; have HK := n1_; have HB := n2_; have BK250 := n3_; have GW250 := n4_; have GE250 := n5_; have NB0_250 := n6_; have NB250_0 := n7_; clear n0_ n1_ n2_ n3_ n4_ n5_ n6_ n7_ hb hbox hg) | ((with_reducible refine gate_dst (N := 7) rfl ?_); refine box_event ?hg (N := 7) ?hd (cs := #[.int .i64 0, .int .i64 0, .slice none 0 0]) (t := 33) ?hr ?_; (case hd => rfl); (case hg => rfl); (case hr => first | (go_simp; done) | (go_simp; rfl)); intro gb251 hg w6 hbox hb; have n0_ := q12_ (IsS61.below (q12a) hb); have n1_ := q12_ (blk_below (g := gb250) (o := .cells #[.int .i64 0, .int .i64 0, .slice none 0 0] 33 (0, 0)) (q12d) hb); have n2_ := q12_ (KeepBut.trans (q12b) (KeepBut.of_below hb g none) (.inl rfl)); have n3_ := q12_ (below_step (q12c) hb); have n4_ := q12_ (hbox); have n5_ := q12_ ((q12e : w.heap.size ≤ gb251)); have n6_ := q12_ ((Nat.le_trans HW0.out (q12e : w.heap.size ≤ gb251) : w0.heap.size ≤ gb251)); have n7_ := q12_ ((by rw [hg]; exact Nat.ne_of_lt (blk_lt (g := gb250) (o := .cells #[.int .i64 0, .int .i64 0, .slice none 0 0] 33 (0, 0)) (q12d)) : gb250 ≠ gb251)); have n8_ := q12_ ((by rw [hg]; exact Nat.ne_of_gt (blk_lt (g := gb250) (o := .cells #[.int .i64 0, .int .i64 0, .slice none 0 0] 33 (0, 0)) (q12d)) : gb251 ≠ gb250)); have n9_ := q12_ ((by rw [hg]; exact Nat.ne_of_lt (IsS61.lt (show IsS61 w0 _ g s0_0 s0_1 from q12a)) : g ≠ gb251)); have n10_ := q12_ ((by rw [hg]; exact Nat.ne_of_gt (IsS61.lt (show IsS61 w0 _ g s0_0 s0_1 from q12a)) : gb251 ≠ g)); clear HI0 BK250 HK HB; have HI0 := n0_; have BK250 := n1_; have HK := n2_; have HB := n3_; have BK251 := n4_; have GW251 := n5_; have GE251 := n6_; have NB250_251 := n7_; have NB251_250 := n8_; have NB0_251 := n9_; have NB251_0 := n10_; clear n0_ n1_ n2_ n3_ n4_ n5_ n6_ n7_ n8_ n9_ n10_ hb hbox hg; have hnb7 := NB251_250.out; have hnc7 := NB250_251.out; have hnb8 := NB251_0.out; have hnc8 := NB0_251.out; have hcz9_0 : w6.cell? ⟨gb251, 0, none⟩ = some (.int .i64 0) := (blk_cell BK251.out 0).trans rfl; have hcz9_1 : w6.cell? ⟨gb251, 1, none⟩ = some (.int .i64 0) := (blk_cell BK251.out 1).trans rfl; have hcz9_2 : w6.cell? ⟨gb251, 2, none⟩ = some (.slice none 0 0) := (blk_cell BK251.out 2).trans rfl; have hfz9_0 := blk_frozen BK251.out 0; have hfz9_1 := blk_frozen BK251.out 1; have hfz9_2 := blk_frozen BK251.out 2) | ((with_reducible refine gate_callee (f := 34) rfl ?_); refine goesL_ (some 13) rfl rfl Try.func34 (by kernel_rfl) rfl #[.pointer (some ⟨g, 0, none⟩), .int .i64 1, .int .i64 6] rfl q12f ?_; (with_reducible refine (awardingbodymake_Tape_Range.calls g s0_0 s0_1 1 6 t252 t253 w0 _ ?side1 ?side2 A4.out).mono ?_); (case side1 => repeat (first | (with_reducible first | exact HI0.out | apply IsS61.alloc | apply IsS61.drewN | apply IsS61.drew | apply IsS61.set_1 | refine IsS61.far ?_ NB0_250.out _ | refine IsS61.far ?_ NB0_251.out _) | exact HI0.out)); (case side2 => repeat (first | (with_reducible first | exact HB.out | apply below_alloc | apply pw_below_drewN | apply below_drew1 | refine below_set ?_ (IsS61.ge HI0.out) | refine below_set ?_ GE250.out | refine below_set ?_ GE251.out) | exact HB.out)); rintro e w10 ⟨rfl, hi, hb, hk⟩; refine ⟨_, rfl, ?_⟩; have n0_ := q12_ (KeepBut.blk hk (g' := gb250) (o := .cells #[.int .i64 0, .int .i64 0, .slice none 0 0] 33 (0, 0)) (q12d) NB250_0.out (by simp)); have n1_ := q12_ (KeepBut.blk hk (g' := gb251) (o := .cells #[.int .i64 a1, .int .i64 a2, .slice none 0 0] 33 (0, 0)) (by (with_reducible repeat (first | refine blk_drewN ?_ _ | refine blk_drew ?_ | refine blk_alloc ?_ _)); refine blk_put (cs := #[.int .i64 a1, .int .i64 a2, .slice none 0 0]) ?_ 2 _ rfl; (with_reducible repeat (first | refine blk_drewN ?_ _ | refine blk_drew ?_ | refine blk_alloc ?_ _)); refine blk_put (cs := #[.int .i64 a1, .int .i64 0, .slice none 0 0]) ?_ 1 _ rfl; (with_reducible repeat (first | refine blk_drewN ?_ _ | refine blk_drew ?_ | refine blk_alloc ?_ _)); refine blk_put (cs := #[.int .i64 0, .int .i64 0, .slice none 0 0]) ?_ 0 _ rfl; (with_reducible repeat (first | refine blk_drewN ?_ _ | refine blk_drew ?_ | refine blk_alloc ?_ _)); exact BK251.out) NB251_0.out (by simp)); have n2_ := q12_ (KeepBut.trans (q12b) hk (.inl rfl)); have n3_ := q12_ (hb); have n4_ := q12_ (hi); clear BK250 BK251 HK HB HI0; have BK250 := n0_; have BK251 := n1_; have HK := n2_; have HB := n3_; have HI0 := n4_; clear n0_ n1_ n2_ n3_ n4_; (try clear hb); (try clear hb2); (try clear hk); (try clear hi)))
 go_loopg [8] k (fun kq v8 w' => ∃ (x8_1 : Int) (x1001_1 : Int) (x252002_1 : List (S23)) (u252002 : Value), v8 = .int .i64 x8_1 ∧ Aside0 (awardingbodymake_Tape_Paper.l0 kq x8_1 s0_0 x1001_1 a1 a2 x252002_1 = some (r1, r2, r3, r4)) ∧ Aside0 (kq ≤ k) ∧ Aside0 (Kd.R k23 23 w' w.heap.size (fun _ => True) u252002 x252002_1) ∧ Aside0 (w'.heap[gb250]? = some (.cells #[.int .i64 0, .int .i64 0, (.slice none 0 0)] 33 (0, 0))) ∧ Aside0 (w'.heap[gb251]? = some (.cells #[.int .i64 a1, .int .i64 a2, u252002] 33 (0, 0))) ∧ Aside0 (IsS61 w0 w' g s0_0 x1001_1) ∧ Aside0 (KeepBut w w' g none) ∧ Aside0 (Below w0.heap.size w0 w'))
 case atStart => exact ⟨(t252), (t253), (([] : List (S23))), (.slice none 0 0), (by first | rfl | (simp; done) | (simp [*]; done)), H', ⟨Nat.le_refl _⟩, ⟨by first | exact Kd.R_nil _ _ _ _ _ | exact Kd.N_nil _ _ _ _ _ | exact Kd.V_nil _ _ _ _ _ | exact Kd.Q_nil _ _ _ _ _ | exact Kd.S_nil _ _ _ _ _⟩, ⟨q12d⟩, ⟨q12d⟩, ⟨q12a⟩, ⟨q12b⟩, ⟨q12c⟩⟩
 case round =>
  clear H'; (try clear p2); (try clear c3); (try clear c7); (try clear c8); (try clear hcz9_0); (try clear hcz9_1); (try clear hcz9_2); (try clear hfz9_0); (try clear hfz9_1); (try clear hfz9_2)
  obtain ⟨x8_1, x1001_1, x252002_1, u252002, rfl, HA, HK1, HO_252002, BK250, BK251, HI0, HK, HB⟩ := hrel
  cases gk with
  | zero => exact absurd HA.out (by simp [awardingbodymake_Tape_Paper.l0])
  | succ k1 =>
   have H := HA.out
   clear HA
   simp only [awardingbodymake_Tape_Paper.l0] at H
   by_cases c11 : x8_1 > 0
   ·rw [if_pos c11] at H
    have c11b0 : decide (0 < x8_1) = true := decide_eq_true c11
    clear c11
    replace H := Option.bind_eq_some_iff.mp H
    obtain ⟨⟨t254, t255, t256, t257, t258, t259, t260⟩, A120, H⟩ := H
    replace H : (if x252002_1.length < 2932031007402 then (awardingbodymake_Tape_Paper.l0 k1 (wrap64 (x8_1 - 1)) s0_0 t260 a1 a2 (x252002_1 ++ [(⟨t254, t255, t256, t257, t258, t259⟩ : S23)])) else (none)) = some (r1, r2, r3, r4) := H
    have A12 := q12_ A120; clear A120
    by_cases c13 : x252002_1.length < 2932031007402
    ·rw [if_pos c13] at H
     have LMc13 := q12_ c13; clear c13
     obtain ⟨y261, hy_⟩ : ∃ y_ : List (S23), y_ = (x252002_1 ++ [(⟨t254, t255, t256, t257, t258, t259⟩ : S23)]) := ⟨_, rfl⟩
     replace H : (awardingbodymake_Tape_Paper.l0 k1 (wrap64 (x8_1 - 1)) s0_0 t260 a1 a2 y261) = some (r1, r2, r3, r4) := by first | (rw [hy_]; with_reducible exact H) | (have H2_ := (Option.bind_some _ _).symm.trans H; rw [hy_]; with_reducible exact H2_) | (have H2_ := (Option.bind_some _ _).symm.trans H; with_reducible exact H2_) | with_reducible exact H | (rw [hy_]; exact H) | exact H
     have Ny261 := q12_ hy_; clear hy_; have H' := q12_ H; clear H
     try go_wp2
     have n0_ := q12_ (Kd.R_drew HO_252002.out)
     have n1_ := q12_ (blk_drew BK250.out)
     have n2_ := q12_ (blk_drew BK251.out)
     have n3_ := q12_ (IsS61.drew HI0.out)
     have n4_ := q12_ (keep_drew HK.out)
     have n5_ := q12_ (below_drew1 HB.out)
     clear HO_252002 BK250 BK251 HI0 HK HB; have HO_252002 := n0_; have BK250 := n1_; have BK251 := n2_; have HI0 := n3_; have HK := n4_; have HB := n5_; clear n0_ n1_ n2_ n3_ n4_ n5_
     refine start_ (n := 8) (S := fun w' => w'.cell? ⟨gb251, 0, none⟩ = some (.int .i64 a1) ∧ w'.cell? ⟨gb251, 1, none⟩ = some (.int .i64 a2) ∧ w'.cell? ⟨gb251, 2, none⟩ = some (u252002)) (ds := [7]) #[false, false, false, false, false, false, false, false] (by kernel_rfl) rfl rfl ⟨(blk_cell BK251.out 0).trans rfl, (blk_cell BK251.out 1).trans rfl, (blk_cell BK251.out 2).trans rfl⟩ (fun hHeld => ?_); refine with_tabW awardingbodymake_Tape_Paper.tab5 awardingbodymake_Tape_Paper.bits5 (fun HT_ HW_ => ?_)
     generalize wr.drew = w14 at HO_252002 BK250 BK251 HI0 HK HB hHeld ⊢
     refine pure_ (i := 0) (N := some 18) (v := ?_) (a' := ?_) #[true, false, false, false, false, false, false, false] rfl rfl (any_of HT_.out (by kernel_rfl)) (fun _ _ _ h => h) (Or.inl ⟨by rfl, ?_⟩) ?_ ?_
     rotate_left
     ·intro w'
      go_simp
      with_reducible rfl
     rotate_left
     ·simp only [Act.put, List.setIfInBounds_toArray, List.set_cons_zero, List.set_cons_succ, i64_w, i32_w]
      rfl
     refine pure_ (i := 2) (N := some 20) (v := ?_) (a' := ?_) #[true, false, true, false, false, false, false, false] rfl rfl (any_of HT_.out (by kernel_rfl)) (fun _ _ _ h => h) (Or.inl ⟨by rfl, ?_⟩) ?_ ?_
     rotate_left
     ·intro w'
      go_simp
      with_reducible rfl
     rotate_left
     ·simp only [Act.put, List.setIfInBounds_toArray, List.set_cons_zero, List.set_cons_succ, i64_w, i32_w]
      rfl
     refine take_ (i := 1) (N := some 19) (v := ?_) (a' := ?_) #[true, true, true, false, false, false, false, false] rfl rfl (take_ofW HT_.out HW_.out (by kernel_rfl)) (fun _ _ _ h => h) (Or.inl ⟨by rfl, ?_⟩) hHeld ?_ ?_
     rotate_left
     ·rintro w' ⟨s0, s1, s2⟩
      go_simp
      with_reducible rfl
     rotate_left
     ·simp only [Act.put, List.setIfInBounds_toArray, List.set_cons_zero, List.set_cons_succ, i64_w, i32_w]
      rfl
     refine one_ (i := 3) (N := some 21) #[true, true, true, true, false, false, false, false] rfl rfl (one_of HT_.out (by kernel_rfl)) (by decide) (fun K hK => ?_)
     refine goes_ Try.func37 (by kernel_rfl) rfl #[.pointer (some ⟨g, 0, none⟩), .int .i64 0] (by rfl) rfl rfl q12f ?_
     with_reducible refine (awardingbodymake_Tape_Part.calls k1 g s0_0 x1001_1 0 t254 t255 t256 t257 t258 t259 t260 w0 _ ?side1 ?side2 A12.out).mono ?_
     (case side1 => repeat (first | (with_reducible first | exact HI0.out | apply IsS61.alloc | apply IsS61.drewN | apply IsS61.drew | apply IsS61.set_1 | refine IsS61.far ?_ NB0_250.out _ | refine IsS61.far ?_ NB0_251.out _) | exact HI0.out))
     (case side2 => repeat (first | (with_reducible first | exact HB.out | apply below_alloc | apply pw_below_drewN | apply below_drew1 | refine below_set ?_ (IsS61.ge HI0.out) | refine below_set ?_ GE250.out | refine below_set ?_ GE251.out) | exact HB.out))
     rintro e w15 ⟨rfl, hi, hb, hk⟩
     refine ⟨_, rfl, ?_⟩
     have n0_ := q12_ (Kd.R_mono (Kd.R_keep (IsS61.apart (show IsS61 w0 _ g s0_0 x1001_1 from q12a) (by (with_reducible repeat (first | apply Kd.R_alloc | apply Kd.R_drewN | apply Kd.R_drew)); exact HO_252002.out) (by decide)) hk (fun _ h => h.2)) (fun _ h => h.1))
     have n1_ := q12_ (KeepBut.blk hk (g' := gb250) (o := .cells #[.int .i64 0, .int .i64 0, .slice none 0 0] 33 (0, 0)) (q12d) NB250_0.out (by simp))
     have n2_ := q12_ (KeepBut.blk hk (g' := gb251) (o := .cells #[.int .i64 a1, .int .i64 a2, u252002] 33 (0, 0)) (q12d) NB251_0.out (by simp))
     have n3_ := q12_ (KeepBut.trans (q12b) hk (.inl rfl))
     have n4_ := q12_ (hb)
     have n5_ := q12_ (hi)
     clear HO_252002 BK250 BK251 HK HB HI0; have HO_252002 := n0_; have BK250 := n1_; have BK251 := n2_; have HK := n3_; have HB := n4_; have HI0 := n5_; clear n0_ n1_ n2_ n3_ n4_ n5_
     (try clear hb)
     (try clear hb2)
     (try clear hk)
     (try clear hi)
     refine hK.out _ _ ⟨(blk_cell BK251.out 0).trans rfl, (blk_cell BK251.out 1).trans rfl, (blk_cell BK251.out 2).trans rfl⟩ (fun hHeld => ?_)
     clear hK K
     refine norm_ (a' := ?_) ?_ ?_
     rotate_left
     ·show Act.put _ (some 21) _ = _
      simp only [Act.put, List.setIfInBounds_toArray, List.set_cons_zero, List.set_cons_succ, i64_w, i32_w]
      rfl
     refine one_ (i := 4) (N := some 22) #[true, true, true, true, true, false, false, false] rfl rfl (one_of HT_.out (by kernel_rfl)) (by decide) (fun K hK => ?_)
     refine value_ (w1 := ?_) (v := ?_) (by rfl) rfl ?_ ?_
     rotate_left 2
     ·go_simp
      constructor
      ·rfl
      ·rfl
     refine hK.out _ _ ⟨(blk_cell (blk_alloc BK251.out _) 0).trans rfl, (blk_cell (blk_alloc BK251.out _) 1).trans rfl, (blk_cell (blk_alloc BK251.out _) 2).trans rfl⟩ (fun hHeld => ?_)
     clear hK K
     refine norm_ (a' := ?_) ?_ ?_
     rotate_left
     ·show Act.put _ (some 22) _ = _
      simp only [Act.put, List.setIfInBounds_toArray, List.set_cons_zero, List.set_cons_succ, i64_w, i32_w]
      rfl
     refine one_ (i := 5) (N := some 23) #[true, true, true, true, true, true, false, false] rfl rfl (one_of HT_.out (by kernel_rfl)) (by decide) (fun K hK => ?_)
     refine Kd.R_append_step k23 w.heap.size (by rfl) (.tmp 19) (.tmp 22) 31 23 (.agg #[(.int .i64 0), (.int .i64 0), (.int .i64 0), (.int .i64 0), (.int .i64 0), (.int .i64 0)]) 48 rfl Try.underlying31 info23 rfl (by decide) (by omega) u252002 x252002_1 (⟨t254, t255, t256, t257, t258, t259⟩ : S23) [.int .i64 t254, .int .i64 t255, .int .i64 t256, .int .i64 t257, .int .i64 t258, .int .i64 t259] (fun _ => True) (fun _ => False) rfl rfl ?aP (fun _ hk => hk.elim) ?aF ?aO (Below.refl _ _) ?aS ?aL ?_
     (case aP => exact k23_mkM _ _ _ (⟨t254, t255, t256, t257, t258, t259⟩ : S23))
     (case aF => exact (fun _ _ => trivial))
     (case aO => exact (by (with_reducible repeat (first | apply Kd.R_alloc | apply Kd.R_drewN | apply Kd.R_drew)); exact HO_252002.out))
     (case aS => exact (keep_size (w := w) (g := g) (row := none) (q12b)))
     (case aL => have := LMc13.out; omega)
     intro v262 w16 ho hb hg hat
     rw [← Ny261.out] at ho
     have n0_ := q12_ (blk_grown (g := gb250) (o := .cells #[.int .i64 0, .int .i64 0, .slice none 0 0] 33 (0, 0)) (q12d) hg (Kd.R_ne HO_252002.out BK250.out (by decide)))
     have n1_ := q12_ (blk_grown (g := gb251) (o := .cells #[.int .i64 a1, .int .i64 a2, u252002] 33 (0, 0)) (q12d) hg (Kd.R_ne HO_252002.out BK251.out (by decide)))
     have n2_ := q12_ (IsS61.grown (q12a) hg (IsS61.own_ne HI0.out HO_252002.out (by decide)))
     have n3_ := q12_ (below_weaken (q12c) HL.out hb)
     have n4_ := q12_ (KeepBut.trans (q12b) (KeepBut.of_grown hg g) (Kd.R_base2 HO_252002.out))
     have n5_ := q12_ (ho)
     clear BK250 BK251 HI0 HB HK HO_252002; have BK250 := n0_; have BK251 := n1_; have HI0 := n2_; have HB := n3_; have HK := n4_; have HO263 := n5_; clear n0_ n1_ n2_ n3_ n4_ n5_ ho hb hg hat
     obtain ⟨Ao17, co17, eo17⟩ := Kd.R_slice HO263.out
     (first | subst eo17 | (injection eo17 with f1_ f2_ f3_; have f4_ := f1_.symm; have f5_ := f3_.symm; clear f1_ f2_ f3_; subst f4_; subst f5_))
     refine hK.out _ _ ⟨(blk_cell BK251.out 0).trans rfl, (blk_cell BK251.out 1).trans rfl, (blk_cell BK251.out 2).trans rfl⟩ (fun hHeld => ?_)
     clear hK K
     refine norm_ (a' := ?_) ?_ ?_
     rotate_left
     ·show Act.put _ (some 23) _ = _
      simp only [Act.put, List.setIfInBounds_toArray, List.set_cons_zero, List.set_cons_succ, i64_w, i32_w]
      rfl
     refine pure_ (i := 6) (N := some 24) (v := ?_) (a' := ?_) #[true, true, true, true, true, true, true, false] rfl rfl (any_of HT_.out (by kernel_rfl)) (fun _ _ _ h => h) (Or.inl ⟨by rfl, ?_⟩) ?_ ?_
     rotate_left
     ·intro w'
      go_simp
      with_reducible rfl
     rotate_left
     ·simp only [Act.put, List.setIfInBounds_toArray, List.set_cons_zero, List.set_cons_succ, i64_w, i32_w]
      rfl
     refine last_ (i := 7) (N := none) #[true, true, true, true, true, true, true, true] rfl rfl (one_of HT_.out (by kernel_rfl)) (by decide) (fun K hK => ?_)
     have hs18 : w16.cell? ⟨gb251, 2, none⟩ = some (u252002) := (blk_cell BK251.out 2).trans rfl
     have hfs18 := blk_frozen BK251.out 2
     have hns18_0 := NB250_251.out
     have hms18_0 := NB251_250.out
     refine skip_ (w1 := ?_) (by rfl) rfl ?_ ?_
     rotate_left
     ·go_simp
      rfl
     refine hK.out _ _ ?_
     clear hK K
     refine done_ (done_of HT_.out (by kernel_rfl)) ?_
     try go_wp2
     go_roundg k1
     case measure => have := HK1.out; omega
     case rel => exact ⟨(wrap64 (x8_1 - 1)), (t260), (y261), (.slice Ao17 y261.length co17), (by first | rfl | (simp; done) | (simp [*]; done)), H', ⟨by have := HK1.out; omega⟩, ⟨by (with_reducible repeat (first | apply Kd.R_alloc | apply Kd.R_drewN | apply Kd.R_drew)); exact Kd.R_mono (Kd.R_far (p := ⟨gb251, 2, none⟩) (Kd.R_types HO263.out BK251.out (by decide)) (fun _ hk => hk.2) (.slice Ao17 y261.length co17)) (fun _ hk => trivial)⟩, ⟨q12d⟩, ⟨by (with_reducible repeat (first | refine blk_drewN ?_ _ | refine blk_drew ?_ | refine blk_alloc ?_ _)); refine blk_put (cs := #[.int .i64 a1, .int .i64 a2, u252002]) ?_ 2 _ rfl; (with_reducible repeat (first | refine blk_drewN ?_ _ | refine blk_drew ?_ | refine blk_alloc ?_ _)); exact BK251.out⟩, ⟨q12a⟩, ⟨q12b⟩, ⟨q12c⟩⟩
    ·rw [if_neg c13] at H
     exact absurd H (by simp)
   ·rw [if_neg c11] at H
    have c11b0 : decide (0 < x8_1) = false := decide_eq_false c11
    clear c11
    simp only [Option.some.injEq, Prod.mk.injEq] at H
    obtain ⟨rfl, rfl, rfl, rfl⟩ := H
    have hnb19 := NB251_250.out
    have hnc19 := NB250_251.out
    have hnb20 := NB251_0.out
    have hnc20 := NB0_251.out
    have hcz21_0 : wr.cell? ⟨gb251, 0, none⟩ = some (.int .i64 a1) := (blk_cell BK251.out 0).trans rfl
    have hcz21_1 : wr.cell? ⟨gb251, 1, none⟩ = some (.int .i64 a2) := (blk_cell BK251.out 1).trans rfl
    have hcz21_2 : wr.cell? ⟨gb251, 2, none⟩ = some (u252002) := (blk_cell BK251.out 2).trans rfl
    have hfz21_0 := blk_frozen BK251.out 0
    have hfz21_1 := blk_frozen BK251.out 1
    have hfz21_2 := blk_frozen BK251.out 2
    have hnb22 := NB250_0.out
    have hnc22 := NB0_250.out
    have hcz23_0 : wr.cell? ⟨gb250, 0, none⟩ = some (.int .i64 0) := (blk_cell BK250.out 0).trans rfl
    have hcz23_1 : wr.cell? ⟨gb250, 1, none⟩ = some (.int .i64 0) := (blk_cell BK250.out 1).trans rfl
    have hcz23_2 : wr.cell? ⟨gb250, 2, none⟩ = some (.slice none 0 0) := (blk_cell BK250.out 2).trans rfl
    have hfz23_0 := blk_frozen BK250.out 0
    have hfz23_1 := blk_frozen BK250.out 1
    have hfz23_2 := blk_frozen BK250.out 2
    obtain ⟨Ao24, co24, eo24⟩ := Kd.R_slice HO_252002.out
    subst eo24
    go_wp2
    refine bodyPost_ret (results_cell_row rfl _ _ gb250 33 #[.int .i64 a1, .int .i64 a2, .slice Ao24 x252002_1.length co24] (0, 0) _ rfl (by (with_reducible repeat (first | refine blk_drewN ?_ _ | refine blk_drew ?_ | refine blk_alloc ?_ _)); refine blk_put (cs := #[.int .i64 a1, .int .i64 a2, .slice none 0 0]) ?_ 2 _ rfl; (with_reducible repeat (first | refine blk_drewN ?_ _ | refine blk_drew ?_ | refine blk_alloc ?_ _)); refine blk_put (cs := #[.int .i64 a1, .int .i64 0, .slice none 0 0]) ?_ 1 _ rfl; (with_reducible repeat (first | refine blk_drewN ?_ _ | refine blk_drew ?_ | refine blk_alloc ?_ _)); refine blk_put (cs := #[.int .i64 0, .int .i64 0, .slice none 0 0]) ?_ 0 _ rfl; (with_reducible repeat (first | refine blk_drewN ?_ _ | refine blk_drew ?_ | refine blk_alloc ?_ _)); exact BK250.out) Try.underlying33 rfl (by kernel_rfl)) rfl ?_
    exact ⟨_, by first | rfl | (simp [errW_none, errW_some] <;> rfl) | (simp [*, errW_none, errW_some] <;> rfl), by (with_reducible repeat (first | apply Kd.R_alloc | apply Kd.R_drewN | apply Kd.R_drew)); exact Kd.R_mono (Kd.R_far (p := ⟨gb250, 2, none⟩) (Kd.R_far (p := ⟨gb250, 1, none⟩) (Kd.R_far (p := ⟨gb250, 0, none⟩) (Kd.R_types HO_252002.out BK250.out (by decide)) (fun _ hk => hk.2) (.int .i64 a1)) (fun _ hk => hk.2) (.int .i64 a2)) (fun _ hk => hk.2) (.slice Ao24 x252002_1.length co24)) (fun _ hk => trivial), q12a, q12c, q12b⟩

end Go.Proofs.Ytdmlbgdefapcjaa.Print
