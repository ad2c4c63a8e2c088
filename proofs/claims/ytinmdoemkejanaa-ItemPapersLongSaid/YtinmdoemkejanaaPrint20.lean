-- Printed by a program of this session (wip/own_print.py) out of the translation; Lean checks it.
import Derived.Test.YtinmdoemkejanaaPrint0
import Derived.Test.YtinmdoemkejanaaPrint2
import Derived.Test.YtinmdoemkejanaaPrint7
import Derived.Test.YtinmdoemkejanaaPrint19
namespace Go.Proofs.Ytinmdoemkejanaa.Print
open Go.RowKit Go.Proofs.YtinmdoemkejanaaW.PrintWords Go.Proofs.YtinmdoemkejanaaW.PrintLast Go.Proofs.YtinmdoemkejanaaW.PrintMore
attribute [local go_sem] max2_int min2_int max_two min_two max_three min_three max_four min_four   -- for this text's walks alone
set_option linter.unusedVariables false
set_option linter.unusedSimpArgs false

/-! ### awardingbodylaw06_ItemPapersLong: function 7 -/
def awardingbodylaw06_ItemPapersLong.l0 : Nat → Int → Int → Int → Int → Int → Int → List (S23) → Option (Bool)
  | 0, _, _, _, _, _, _, _ => none
  | k + 1, x1, x2, x3, x10, x469000, x469001, x469002 => if x10 > 0 then ((awardingbodymake_Cut.f x1 40).bind fun t470 => (if x469002.length < 2932031007402 then (awardingbodylaw06_ItemPapersLong.l0 k x1 x2 x3 (wrap64 (x10 - 1)) x469000 x469001 (x469002 ++ [(⟨1, wrap64 (1 + t470), 0, 0, 0, 0⟩ : S23)])) else (none))) else ((item_ValidPaper.f k x469000 x469001 x469002).bind fun t475 => ((awardingbodyref06_ValidPaper.f k x469000 x469001 x469002).bind fun t476 => (if (t475 == t476) = true then ((item_PaperTotal.f k x469000 x469001 x469002).bind fun t477 => ((awardingbodyref06_PaperTotal.f k x469000 x469001 x469002).bind fun t478 => (if t477 = t478 then ((item_ValidPaper.f k x2 x3 x469002).bind fun t479 => ((awardingbodyref06_ValidPaper.f k x2 x3 x469002).bind fun t480 => (if (t479 == t480) = true then ((awardingbodylaw06_awake.f k).bind fun t481 => (some t481)) else (none)))) else (none)))) else (none))))
def awardingbodylaw06_ItemPapersLong.f (k : Nat) (a0 : Int) (a1 : Int) (a2 : Int) (a3 : Int) : Option (Bool) := (awardingbodymake_Cut.f a2 33).bind fun t466 => ((awardingbodymake_Cut.f a3 5).bind fun t467 => ((awardingbodymake_Cut.f a0 27).bind fun t469 => (awardingbodylaw06_ItemPapersLong.l0 k a1 a2 a3 t469 t466 t467 ([] : List (S23)))))
theorem awardingbodylaw06_ItemPapersLong.mono_l : ∀ k, (∀ y0 y1 y2 y3 y4 y5 y6, LeO (awardingbodylaw06_ItemPapersLong.l0 k y0 y1 y2 y3 y4 y5 y6) (awardingbodylaw06_ItemPapersLong.l0 (k + 1) y0 y1 y2 y3 y4 y5 y6))
  | 0 => fun _ _ _ _ _ _ _ r h => by simp [awardingbodylaw06_ItemPapersLong.l0] at h
  | k + 1 => by
    have ih0 := awardingbodylaw06_ItemPapersLong.mono_l k
    · intro y0 y1 y2 y3 y4 y5 y6
      unfold awardingbodylaw06_ItemPapersLong.l0
      repeat' first
      | (with_reducible exact ih0 _ _ _ _ _ _ _)
      | (with_reducible exact awardingbodylaw06_awake.mono _)
      | (with_reducible exact awardingbodyref06_PaperTotal.mono _ _ _ _)
      | (with_reducible exact awardingbodyref06_ValidPaper.mono _ _ _ _)
      | (with_reducible exact item_PaperTotal.mono _ _ _ _)
      | (with_reducible exact item_ValidPaper.mono _ _ _ _)
      | (with_reducible exact LeO.refl _)
      | (with_reducible exact LeO.none _)
      | (with_reducible refine LeO.ite ?_ ?_)
      | (with_reducible refine LeO.bind ?_ (fun _ => ?_))
      | exact ih0 _ _ _ _ _ _ _
      | exact awardingbodylaw06_awake.mono _
      | exact awardingbodyref06_PaperTotal.mono _ _ _ _
      | exact awardingbodyref06_ValidPaper.mono _ _ _ _
      | exact item_PaperTotal.mono _ _ _ _
      | exact item_ValidPaper.mono _ _ _ _
      | exact LeO.none _
      | refine LeO.ite ?_ ?_
      | refine LeO.bind ?_ (fun _ => ?_)
theorem awardingbodylaw06_ItemPapersLong.mono : ∀ a0 a1 a2 a3 k, LeO (awardingbodylaw06_ItemPapersLong.f k a0 a1 a2 a3) (awardingbodylaw06_ItemPapersLong.f (k + 1) a0 a1 a2 a3) := by
  intro a0 a1 a2 a3 k
  have ih0 := awardingbodylaw06_ItemPapersLong.mono_l k
  unfold awardingbodylaw06_ItemPapersLong.f
  repeat' first
      | (with_reducible exact ih0 _ _ _ _ _ _ _)
      | (with_reducible exact awardingbodylaw06_awake.mono _)
      | (with_reducible exact awardingbodyref06_PaperTotal.mono _ _ _ _)
      | (with_reducible exact awardingbodyref06_ValidPaper.mono _ _ _ _)
      | (with_reducible exact item_PaperTotal.mono _ _ _ _)
      | (with_reducible exact item_ValidPaper.mono _ _ _ _)
      | (with_reducible exact LeO.refl _)
      | (with_reducible exact LeO.none _)
      | (with_reducible refine LeO.ite ?_ ?_)
      | (with_reducible refine LeO.bind ?_ (fun _ => ?_))
      | exact ih0 _ _ _ _ _ _ _
      | exact awardingbodylaw06_awake.mono _
      | exact awardingbodyref06_PaperTotal.mono _ _ _ _
      | exact awardingbodyref06_ValidPaper.mono _ _ _ _
      | exact item_PaperTotal.mono _ _ _ _
      | exact item_ValidPaper.mono _ _ _ _
      | exact LeO.none _
      | refine LeO.ite ?_ ?_
      | refine LeO.bind ?_ (fun _ => ?_)
def awardingbodylaw06_ItemPapersLong.T5 : Bool × List (List Nat × List Nat) := (true, [([], []), ([0], [0]), ([], []), ([2], [2]), ([3], [3]), ([4], [4]), ([5], [5]), ([1, 6, 3], [1, 6]), ([0, 1, 2, 3, 4, 5, 6, 7], []), ([8, 7, 7, 0, 1, 2, 3, 4, 5, 6, 7], [7, 8])])
def awardingbodylaw06_ItemPapersLong.B5 : List Nat := [0, 1, 0, 4, 12, 28, 60, 127, 255, 511]
theorem awardingbodylaw06_ItemPapersLong.tab5 : rtab .any (opsOf Try.f7 5) = awardingbodylaw06_ItemPapersLong.T5 := by kernel_rfl
theorem awardingbodylaw06_ItemPapersLong.bits5 : waitsOk awardingbodylaw06_ItemPapersLong.T5.2 awardingbodylaw06_ItemPapersLong.B5 = true := by kernel_rfl
def awardingbodylaw06_ItemPapersLong.T8 : Bool × List (List Nat × List Nat) := (true, [([], []), ([0], [0]), ([], []), ([2, 1], [2]), ([1, 3], [1, 3]), ([4, 3], [4]), ([5], [5]), ([6, 5, 5], [5, 6]), ([5], [5]), ([8, 7, 5], [5, 8]), ([7, 9, 5], [5, 7, 9]), ([5, 10], [5, 10]), ([11, 9], [11]), ([12], [12]), ([13, 12, 12], [12, 13]), ([12], [12]), ([15, 14, 12], [12, 15]), ([14, 16, 12], [12, 14, 16]), ([12, 17], [12, 17]), ([18, 16], [18]), ([19, 19], [19]), ([19, 20], [19, 20]), ([21, 20, 0, 1, 2, 3, 4, 5, 6, 7, 8, 9, 10, 11, 12, 13, 14, 15, 16, 17, 18, 19, 20, 21], [21])])
def awardingbodylaw06_ItemPapersLong.B8 : List Nat := [0, 1, 0, 7, 15, 31, 63, 127, 63, 511, 1023, 2047, 4095, 8191, 16383, 8191, 65535, 131071, 262143, 524287, 1048575, 2097151, 4194303]
theorem awardingbodylaw06_ItemPapersLong.tab8 : rtab .any (opsOf Try.f7 8) = awardingbodylaw06_ItemPapersLong.T8 := by kernel_rfl
theorem awardingbodylaw06_ItemPapersLong.bits8 : waitsOk awardingbodylaw06_ItemPapersLong.T8.2 awardingbodylaw06_ItemPapersLong.B8 = true := by kernel_rfl
set_option maxHeartbeats 8000000 in
set_option maxRecDepth 100000 in
theorem awardingbodylaw06_ItemPapersLong.calls (k : Nat) (a0 : Int) (a1 : Int) (a2 : Int) (a3 : Int) (r : Bool) (w : World) (h : awardingbodylaw06_ItemPapersLong.f k a0 a1 a2 a3 = some r) :
    Calls Try.prog 7 #[.int .i64 a0, .int .i64 a1, .int .i64 a2, .int .i64 a3] w fun e w' => e = .returned (.bool r) ∧ Below w.heap.size w w' := by
 have hu45 := Try.underlying45
 have hu23 := Try.underlying23
 have HB := Aside0.mk (Below.refl w.heap.size w)
 have H : ((awardingbodymake_Cut.f a2 33).bind fun t466 => ((awardingbodymake_Cut.f a3 5).bind fun t467 => ((awardingbodymake_Cut.f a0 27).bind fun t469 => (awardingbodylaw06_ItemPapersLong.l0 k a1 a2 a3 t469 t466 t467 ([] : List (S23)))))) = some r := h
 clear h
 replace H := Option.bind_eq_some_iff.mp H
 obtain ⟨t466, A50, H⟩ := H
 replace H : ((awardingbodymake_Cut.f a3 5).bind fun t467 => ((awardingbodymake_Cut.f a0 27).bind fun t469 => (awardingbodylaw06_ItemPapersLong.l0 k a1 a2 a3 t469 t466 t467 ([] : List (S23))))) = some r := H
 have A5 := Aside0.mk A50
 clear A50
 replace H := Option.bind_eq_some_iff.mp H
 obtain ⟨t467, A60, H⟩ := H
 replace H : ((awardingbodymake_Cut.f a0 27).bind fun t469 => (awardingbodylaw06_ItemPapersLong.l0 k a1 a2 a3 t469 t466 t467 ([] : List (S23)))) = some r := H
 have A6 := Aside0.mk A60
 clear A60
 replace H := Option.bind_eq_some_iff.mp H
 obtain ⟨t469, A70, H⟩ := H
 replace H : (awardingbodylaw06_ItemPapersLong.l0 k a1 a2 a3 t469 t466 t467 ([] : List (S23))) = some r := H
 have A7 := Aside0.mk A70
 clear A70
 have H' := Aside0.mk H
 clear H
 go_enter Try.func7, Try.ntmps7
 go_wp2_with (first | ((with_reducible refine gate_callee (f := 11) rfl ?_); refine goesL_ (some 13) rfl rfl Try.func11 (by kernel_rfl) rfl #[.int .i64 a2, .int .i64 33] rfl (by (try simp only [List.map_toArray, List.map_cons, List.map_nil]); first | done | rfl | (simp only [List.length_drop, List.length_take]; rfl)) ?_; (with_reducible refine (awardingbodymake_Cut.calls a2 33 t466 _ A5.out).mono ?_); rintro e w' ⟨rfl, ⟨nd, rfl⟩⟩; refine ⟨_, rfl, ?_⟩) | ((with_reducible refine gate_callee (f := 11) rfl ?_); refine goesL_ (some 15) rfl rfl Try.func11 (by kernel_rfl) rfl #[.int .i64 a3, .int .i64 5] rfl (by (try simp only [List.map_toArray, List.map_cons, List.map_nil]); first | done | rfl | (simp only [List.length_drop, List.length_take]; rfl)) ?_; (with_reducible refine (awardingbodymake_Cut.calls a3 5 t467 _ A6.out).mono ?_); rintro e w' ⟨rfl, ⟨nd, rfl⟩⟩; refine ⟨_, rfl, ?_⟩) | ((with_reducible refine gate_dst (N := 9) rfl ?_); refine box_event ?hg (N := 9) ?hd (cs := #[.int .i64 0, .int .i64 0, .slice none 0 0]) (t := 45) ?hr ?_; (case hd => rfl); (case hg => rfl); (case hr => first | (go_simp; done) | (go_simp; rfl)); intro gb468 hg w8 hbox hb; have n0_ := Aside0.mk (below_step (by repeat (first | (with_reducible first | exact HB.out | apply below_alloc | apply pw_below_drewN | apply below_drew1) | exact HB.out)) hb); have n1_ := Aside0.mk (hbox); have n2_ := Aside0.mk ((by rw [hg]; exact (below_size (by repeat (first | (with_reducible first | exact HB.out | apply below_alloc | apply pw_below_drewN | apply below_drew1) | exact HB.out))) : w.heap.size ≤ gb468)); have n3_ := Aside0.mk ((by rw [hg]; exact (below_size (by repeat (first | (with_reducible first | exact HB.out | apply below_alloc | apply pw_below_drewN | apply below_drew1) | exact HB.out))) : w.heap.size ≤ gb468)); clear HB; have HB := n0_; have BK468 := n1_; have GW468 := n2_; have GE468 := n3_; clear n0_ n1_ n2_ n3_ hb hbox hg; have hcz9_0 : w8.cell? ⟨gb468, 0, none⟩ = some (.int .i64 0) := (blk_cell BK468.out 0).trans rfl; have hcz9_1 : w8.cell? ⟨gb468, 1, none⟩ = some (.int .i64 0) := (blk_cell BK468.out 1).trans rfl; have hcz9_2 : w8.cell? ⟨gb468, 2, none⟩ = some (.slice none 0 0) := (blk_cell BK468.out 2).trans rfl; have hfz9_0 := blk_frozen BK468.out 0; have hfz9_1 := blk_frozen BK468.out 1; have hfz9_2 := blk_frozen BK468.out 2) | ((with_reducible refine gate_callee (f := 11) rfl ?_); refine goesL_ (some 18) rfl rfl Try.func11 (by kernel_rfl) rfl #[.int .i64 a0, .int .i64 27] rfl (by (try simp only [List.map_toArray, List.map_cons, List.map_nil]); first | done | rfl | (simp only [List.length_drop, List.length_take]; rfl)) ?_; (with_reducible refine (awardingbodymake_Cut.calls a0 27 t469 _ A7.out).mono ?_); rintro e w' ⟨rfl, ⟨nd, rfl⟩⟩; refine ⟨_, rfl, ?_⟩))
 go_loopg [10] k (fun kq v10 w' => ∃ (x10_1 : Int) (x469002_1 : List (S23)) (u469002 : Value), v10 = .int .i64 x10_1 ∧ Aside0 (awardingbodylaw06_ItemPapersLong.l0 kq a1 a2 a3 x10_1 t466 t467 x469002_1 = some r) ∧ Aside0 (kq ≤ k) ∧ Aside0 (Kd.R k23 23 w' w.heap.size (fun _ => True) u469002 x469002_1) ∧ Aside0 (w'.heap[gb468]? = some (.cells #[.int .i64 t466, .int .i64 t467, u469002] 45 (0, 0))) ∧ Aside0 (Below w.heap.size w w'))
 case atStart => exact ⟨(t469), (([] : List (S23))), (.slice none 0 0), (by first | rfl | (simp; done) | (simp [*]; done)), H', ⟨Nat.le_refl _⟩, ⟨by first | exact Kd.R_nil _ _ _ _ _ | exact Kd.N_nil _ _ _ _ _ | exact Kd.V_nil _ _ _ _ _ | exact Kd.Q_nil _ _ _ _ _ | exact Kd.S_nil _ _ _ _ _⟩, ⟨by (with_reducible repeat (first | refine blk_drewN ?_ _ | refine blk_drew ?_ | refine blk_alloc ?_ _)); refine blk_put (cs := #[.int .i64 t466, .int .i64 t467, .slice none 0 0]) ?_ 2 _ rfl; (with_reducible repeat (first | refine blk_drewN ?_ _ | refine blk_drew ?_ | refine blk_alloc ?_ _)); refine blk_put (cs := #[.int .i64 t466, .int .i64 0, .slice none 0 0]) ?_ 1 _ rfl; (with_reducible repeat (first | refine blk_drewN ?_ _ | refine blk_drew ?_ | refine blk_alloc ?_ _)); refine blk_put (cs := #[.int .i64 0, .int .i64 0, .slice none 0 0]) ?_ 0 _ rfl; (with_reducible repeat (first | refine blk_drewN ?_ _ | refine blk_drew ?_ | refine blk_alloc ?_ _)); exact BK468.out⟩, ⟨by repeat (first | (with_reducible first | exact HB.out | apply below_alloc | apply pw_below_drewN | apply below_drew1 | refine below_set ?_ GE468.out) | exact HB.out)⟩⟩
 case round =>
  clear H'
  try clear c1
  try clear p2
  try clear c7
  try clear hcz9_0
  try clear hcz9_1
  try clear hcz9_2
  try clear hfz9_0
  try clear hfz9_1
  try clear hfz9_2
  obtain ⟨x10_1, x469002_1, u469002, rfl, HA, HK1, HO_469002, BK468, HB⟩ := hrel
  cases gk with
  | zero => exact absurd HA.out (by simp [awardingbodylaw06_ItemPapersLong.l0])
  | succ k1 =>
   have H := HA.out
   clear HA
   simp only [awardingbodylaw06_ItemPapersLong.l0] at H
   by_cases c10 : x10_1 > 0
   ·rw [if_pos c10] at H
    have c10b0 : decide (0 < x10_1) = true := decide_eq_true c10
    clear c10
    replace H := Option.bind_eq_some_iff.mp H
    obtain ⟨t470, A110, H⟩ := H
    replace H : (if x469002_1.length < 2932031007402 then (awardingbodylaw06_ItemPapersLong.l0 k1 a1 a2 a3 (wrap64 (x10_1 - 1)) t466 t467 (x469002_1 ++ [(⟨1, wrap64 (1 + t470), 0, 0, 0, 0⟩ : S23)])) else (none)) = some r := H
    have A11 := Aside0.mk A110
    clear A110
    by_cases c12 : x469002_1.length < 2932031007402
    ·rw [if_pos c12] at H
     have LMc12 := Aside0.mk c12
     clear c12
     obtain ⟨y471, hy471⟩ : ∃ y_ : List (S23), y_ = (x469002_1 ++ [(⟨1, wrap64 (1 + t470), 0, 0, 0, 0⟩ : S23)]) := ⟨_, rfl⟩
     replace H : (awardingbodylaw06_ItemPapersLong.l0 k1 a1 a2 a3 (wrap64 (x10_1 - 1)) t466 t467 y471) = some r := by first | (rw [hy471]; with_reducible exact H) | (have H2_ := (Option.bind_some _ _).symm.trans H; rw [hy471]; with_reducible exact H2_) | (have H2_ := (Option.bind_some _ _).symm.trans H; with_reducible exact H2_) | with_reducible exact H | (rw [hy471]; exact H) | exact H
     have Ny471 := Aside0.mk hy471
     clear hy471
     have H' := Aside0.mk H
     clear H
     try go_wp2
     have n0_ := Aside0.mk (Kd.R_drew HO_469002.out)
     have n1_ := Aside0.mk (blk_drew BK468.out)
     have n2_ := Aside0.mk (below_drew1 HB.out)
     clear HO_469002 BK468 HB
     have HO_469002 := n0_
     have BK468 := n1_
     have HB := n2_
     clear n0_ n1_ n2_
     refine start_ (n := 10) (S := fun w' => w'.cell? ⟨gb468, 0, none⟩ = some (.int .i64 t466) ∧ w'.cell? ⟨gb468, 1, none⟩ = some (.int .i64 t467) ∧ w'.cell? ⟨gb468, 2, none⟩ = some (u469002)) (ds := [9]) #[false, false, false, false, false, false, false, false, false, false] (by kernel_rfl) rfl rfl ⟨(blk_cell BK468.out 0).trans rfl, (blk_cell BK468.out 1).trans rfl, (blk_cell BK468.out 2).trans rfl⟩ (fun hHeld => ?_); refine with_tabW awardingbodylaw06_ItemPapersLong.tab5 awardingbodylaw06_ItemPapersLong.bits5 (fun HT_ HW_ => ?_)
     generalize wr.drew = w13 at HO_469002 BK468 HB hHeld ⊢
     refine pure_ (i := 0) (N := some 23) (v := ?_) (a' := ?_) #[true, false, false, false, false, false, false, false, false, false] rfl rfl (any_of HT_.out (by kernel_rfl)) (fun _ _ _ h => h) (Or.inl ⟨by rfl, ?_⟩) ?_ ?_
     rotate_left
     ·intro w'
      go_simp
      with_reducible rfl
     rotate_left
     ·simp only [Act.put, List.setIfInBounds_toArray, List.set_cons_zero, List.set_cons_succ, i64_w, i32_w]
      rfl
     refine pure_ (i := 2) (N := some 25) (v := ?_) (a' := ?_) #[true, false, true, false, false, false, false, false, false, false] rfl rfl (any_of HT_.out (by kernel_rfl)) (fun _ _ _ h => h) (Or.inl ⟨by rfl, ?_⟩) ?_ ?_
     rotate_left
     ·intro w'
      go_simp
      with_reducible rfl
     rotate_left
     ·simp only [Act.put, List.setIfInBounds_toArray, List.set_cons_zero, List.set_cons_succ, i64_w, i32_w]
      rfl
     refine take_ (i := 1) (N := some 24) (v := ?_) (a' := ?_) #[true, true, true, false, false, false, false, false, false, false] rfl rfl (take_ofW HT_.out HW_.out (by kernel_rfl)) (fun _ _ _ h => h) (Or.inl ⟨by rfl, ?_⟩) hHeld ?_ ?_
     rotate_left
     ·rintro w' ⟨s0, s1, s2⟩
      go_simp
      with_reducible rfl
     rotate_left
     ·simp only [Act.put, List.setIfInBounds_toArray, List.set_cons_zero, List.set_cons_succ, i64_w, i32_w]
      rfl
     refine one_ (i := 3) (N := some 26) #[true, true, true, true, false, false, false, false, false, false] rfl rfl (one_of HT_.out (by kernel_rfl)) (by decide) (fun K hK => ?_)
     refine goes_ Try.func11 (by kernel_rfl) rfl #[.int .i64 a1, .int .i64 40] (by rfl) rfl rfl (by (try simp only [List.map_toArray, List.map_cons, List.map_nil]); first | done | rfl | (simp only [List.length_drop, List.length_take]; rfl)) ?_
     with_reducible refine (awardingbodymake_Cut.calls a1 40 t470 _ A11.out).mono ?_
     rintro e w' ⟨rfl, ⟨nd, rfl⟩⟩
     refine ⟨_, rfl, ?_⟩
     refine hK.out _ _ ⟨(blk_cell BK468.out 0).trans rfl, (blk_cell BK468.out 1).trans rfl, (blk_cell BK468.out 2).trans rfl⟩ (fun hHeld => ?_)
     clear hK K
     refine norm_ (a' := ?_) ?_ ?_
     rotate_left
     ·show Act.put _ (some 26) _ = _
      simp only [Act.put, List.setIfInBounds_toArray, List.set_cons_zero, List.set_cons_succ, i64_w, i32_w]
      rfl
     refine pure_ (i := 4) (N := some 27) (v := ?_) (a' := ?_) #[true, true, true, true, true, false, false, false, false, false] rfl rfl (any_of HT_.out (by kernel_rfl)) (fun _ _ _ h => h) (Or.inl ⟨by rfl, ?_⟩) ?_ ?_
     rotate_left
     ·intro w'
      go_simp
      with_reducible rfl
     rotate_left
     ·simp only [Act.put, List.setIfInBounds_toArray, List.set_cons_zero, List.set_cons_succ, i64_w, i32_w]
      rfl
     refine pure_ (i := 5) (N := some 28) (v := ?_) (a' := ?_) #[true, true, true, true, true, true, false, false, false, false] rfl rfl (any_of HT_.out (by kernel_rfl)) (fun _ _ _ h => h) (Or.inl ⟨by rfl, ?_⟩) ?_ ?_
     rotate_left
     ·intro w'
      go_simp
      with_reducible rfl
     rotate_left
     ·simp only [Act.put, List.setIfInBounds_toArray, List.set_cons_zero, List.set_cons_succ, i64_w, i32_w]
      rfl
     refine one_ (i := 6) (N := some 29) #[true, true, true, true, true, true, true, false, false, false] rfl rfl (one_of HT_.out (by kernel_rfl)) (by decide) (fun K hK => ?_)
     refine value_ (w1 := ?_) (v := ?_) (by rfl) rfl ?_ ?_
     rotate_left 2
     ·go_simp
      constructor
      ·rfl
      ·rfl
     refine hK.out _ _ ⟨(blk_cell (blk_alloc BK468.out _) 0).trans rfl, (blk_cell (blk_alloc BK468.out _) 1).trans rfl, (blk_cell (blk_alloc BK468.out _) 2).trans rfl⟩ (fun hHeld => ?_)
     clear hK K
     refine norm_ (a' := ?_) ?_ ?_
     rotate_left
     ·show Act.put _ (some 29) _ = _
      simp only [Act.put, List.setIfInBounds_toArray, List.set_cons_zero, List.set_cons_succ, i64_w, i32_w]
      rfl
     refine one_ (i := 7) (N := some 30) #[true, true, true, true, true, true, true, true, false, false] rfl rfl (one_of HT_.out (by kernel_rfl)) (by decide) (fun K hK => ?_)
     refine Kd.R_append_step k23 (w0 := w) w.heap.size (by rfl) (.tmp 24) (.tmp 29) 31 23 (.agg #[(.int .i64 0), (.int .i64 0), (.int .i64 0), (.int .i64 0), (.int .i64 0), (.int .i64 0)]) 48 rfl Try.underlying31 info23 rfl (by decide) (by omega) u469002 x469002_1 (⟨1, wrap64 (1 + t470), 0, 0, 0, 0⟩ : S23) [.int .i64 1, .int .i64 (wrap64 (1 + t470)), .int .i64 0, .int .i64 0, .int .i64 0, .int .i64 0] (fun _ => True) (fun _ => False) rfl rfl ?aP (fun _ hk => hk.elim) ?aF ?aO ?aB ?aS ?aL ?_
     (case aP => exact k23_mkM _ _ _ (⟨1, wrap64 (1 + t470), 0, 0, 0, 0⟩ : S23))
     (case aB => exact (by repeat (first | (with_reducible first | exact HB.out | apply below_alloc | apply pw_below_drewN | apply below_drew1 | refine below_set ?_ GE468.out) | exact HB.out)))
     (case aF => exact (fun _ _ => trivial))
     (case aO => exact (by (with_reducible repeat (first | apply Kd.R_alloc | apply Kd.R_drewN | apply Kd.R_drew)); exact HO_469002.out))
     (case aS => exact (below_size (by repeat (first | (with_reducible first | exact HB.out | apply below_alloc | apply pw_below_drewN | apply below_drew1 | refine below_set ?_ GE468.out) | exact HB.out))))
     (case aL => have := LMc12.out; omega)
     intro v472 w14 ho hb hg hat
     rw [← Ny471.out] at ho
     have n0_ := Aside0.mk (blk_grown (g := gb468) (o := .cells #[.int .i64 t466, .int .i64 t467, u469002] 45 (0, 0)) (by (with_reducible repeat (first | refine blk_drewN ?_ _ | refine blk_drew ?_ | refine blk_alloc ?_ _)); exact BK468.out) hg (Kd.R_ne HO_469002.out BK468.out (by decide)))
     have n1_ := Aside0.mk (hb)
     have n2_ := Aside0.mk (ho)
     clear BK468 HB HO_469002
     have BK468 := n0_
     have HB := n1_
     have HO473 := n2_
     clear n0_ n1_ n2_ ho hb hg hat
     obtain ⟨Ao15, co15, eo15⟩ := Kd.R_slice HO473.out
     (first | subst eo15 | (injection eo15 with f1_ f2_ f3_; have f4_ := f1_.symm; have f5_ := f3_.symm; clear f1_ f2_ f3_; subst f4_; subst f5_))
     refine hK.out _ _ ⟨(blk_cell BK468.out 0).trans rfl, (blk_cell BK468.out 1).trans rfl, (blk_cell BK468.out 2).trans rfl⟩ (fun hHeld => ?_)
     clear hK K
     refine norm_ (a' := ?_) ?_ ?_
     rotate_left
     ·show Act.put _ (some 30) _ = _
      simp only [Act.put, List.setIfInBounds_toArray, List.set_cons_zero, List.set_cons_succ, i64_w, i32_w]
      rfl
     refine pure_ (i := 8) (N := some 31) (v := ?_) (a' := ?_) #[true, true, true, true, true, true, true, true, true, false] rfl rfl (any_of HT_.out (by kernel_rfl)) (fun _ _ _ h => h) (Or.inl ⟨by rfl, ?_⟩) ?_ ?_
     rotate_left
     ·intro w'
      go_simp
      with_reducible rfl
     rotate_left
     ·simp only [Act.put, List.setIfInBounds_toArray, List.set_cons_zero, List.set_cons_succ, i64_w, i32_w]
      rfl
     refine last_ (i := 9) (N := none) #[true, true, true, true, true, true, true, true, true, true] rfl rfl (one_of HT_.out (by kernel_rfl)) (by decide) (fun K hK => ?_)
     have hs16 : w14.cell? ⟨gb468, 2, none⟩ = some (u469002) := (blk_cell BK468.out 2).trans rfl
     have hfs16 := blk_frozen BK468.out 2
     refine skip_ (w1 := ?_) (by rfl) rfl ?_ ?_
     rotate_left
     ·go_simp
      rfl
     refine hK.out _ _ ?_
     clear hK K
     refine done_ (done_of HT_.out (by kernel_rfl)) ?_
     try go_wp2
     go_roundg k1
     case measure => have := HK1.out; omega
     case rel => exact ⟨(wrap64 (x10_1 - 1)), (y471), (.slice Ao15 y471.length co15), (by first | rfl | (simp; done) | (simp [*]; done)), H', ⟨by have := HK1.out; omega⟩, ⟨by (with_reducible repeat (first | apply Kd.R_alloc | apply Kd.R_drewN | apply Kd.R_drew)); exact Kd.R_mono (Kd.R_far (p := ⟨gb468, 2, none⟩) (Kd.R_types HO473.out BK468.out (by decide)) (fun _ hk => hk.2) (.slice Ao15 y471.length co15)) (fun _ hk => trivial)⟩, ⟨by (with_reducible repeat (first | refine blk_drewN ?_ _ | refine blk_drew ?_ | refine blk_alloc ?_ _)); refine blk_put (cs := #[.int .i64 t466, .int .i64 t467, u469002]) ?_ 2 _ rfl; (with_reducible repeat (first | refine blk_drewN ?_ _ | refine blk_drew ?_ | refine blk_alloc ?_ _)); exact BK468.out⟩, ⟨by repeat (first | (with_reducible first | exact HB.out | apply below_alloc | apply pw_below_drewN | apply below_drew1 | refine below_set ?_ GE468.out) | exact HB.out)⟩⟩
    ·rw [if_neg c12] at H
     exact absurd H (by simp)
   ·rw [if_neg c10] at H
    have c10b0 : decide (0 < x10_1) = false := decide_eq_false c10
    clear c10
    replace H := Option.bind_eq_some_iff.mp H
    obtain ⟨t475, A170, H⟩ := H
    replace H : ((awardingbodyref06_ValidPaper.f k1 t466 t467 x469002_1).bind fun t476 => (if (t475 == t476) = true then ((item_PaperTotal.f k1 t466 t467 x469002_1).bind fun t477 => ((awardingbodyref06_PaperTotal.f k1 t466 t467 x469002_1).bind fun t478 => (if t477 = t478 then ((item_ValidPaper.f k1 a2 a3 x469002_1).bind fun t479 => ((awardingbodyref06_ValidPaper.f k1 a2 a3 x469002_1).bind fun t480 => (if (t479 == t480) = true then ((awardingbodylaw06_awake.f k1).bind fun t481 => (some t481)) else (none)))) else (none)))) else (none))) = some r := H
    have A17 := Aside0.mk A170
    clear A170
    replace H := Option.bind_eq_some_iff.mp H
    obtain ⟨t476, A180, H⟩ := H
    replace H : (if (t475 == t476) = true then ((item_PaperTotal.f k1 t466 t467 x469002_1).bind fun t477 => ((awardingbodyref06_PaperTotal.f k1 t466 t467 x469002_1).bind fun t478 => (if t477 = t478 then ((item_ValidPaper.f k1 a2 a3 x469002_1).bind fun t479 => ((awardingbodyref06_ValidPaper.f k1 a2 a3 x469002_1).bind fun t480 => (if (t479 == t480) = true then ((awardingbodylaw06_awake.f k1).bind fun t481 => (some t481)) else (none)))) else (none)))) else (none)) = some r := H
    have A18 := Aside0.mk A180
    clear A180
    by_cases c19 : (t475 == t476) = true
    ·rw [if_pos c19] at H
     have c19b0 : (t475 == t476) = true := c19
     (try (have c19b1 : decide (t475 = t476) = true := by simpa using c19))
     (try (have c19b2 : (t475 == t476) = true := by simpa using c19))
     clear c19
     replace H := Option.bind_eq_some_iff.mp H
     obtain ⟨t477, A200, H⟩ := H
     replace H : ((awardingbodyref06_PaperTotal.f k1 t466 t467 x469002_1).bind fun t478 => (if t477 = t478 then ((item_ValidPaper.f k1 a2 a3 x469002_1).bind fun t479 => ((awardingbodyref06_ValidPaper.f k1 a2 a3 x469002_1).bind fun t480 => (if (t479 == t480) = true then ((awardingbodylaw06_awake.f k1).bind fun t481 => (some t481)) else (none)))) else (none))) = some r := H
     have A20 := Aside0.mk A200
     clear A200
     replace H := Option.bind_eq_some_iff.mp H
     obtain ⟨t478, A210, H⟩ := H
     replace H : (if t477 = t478 then ((item_ValidPaper.f k1 a2 a3 x469002_1).bind fun t479 => ((awardingbodyref06_ValidPaper.f k1 a2 a3 x469002_1).bind fun t480 => (if (t479 == t480) = true then ((awardingbodylaw06_awake.f k1).bind fun t481 => (some t481)) else (none)))) else (none)) = some r := H
     have A21 := Aside0.mk A210
     clear A210
     by_cases c22 : t477 = t478
     ·rw [if_pos c22] at H
      have c22b0 : (t477 == t478) = true := beq_iff_eq.mpr c22
      have c22b1 : (t477 != t478) = false := bne_eq_false_iff_eq.mpr c22
      clear c22
      replace H := Option.bind_eq_some_iff.mp H
      obtain ⟨t479, A230, H⟩ := H
      replace H : ((awardingbodyref06_ValidPaper.f k1 a2 a3 x469002_1).bind fun t480 => (if (t479 == t480) = true then ((awardingbodylaw06_awake.f k1).bind fun t481 => (some t481)) else (none))) = some r := H
      have A23 := Aside0.mk A230
      clear A230
      replace H := Option.bind_eq_some_iff.mp H
      obtain ⟨t480, A240, H⟩ := H
      replace H : (if (t479 == t480) = true then ((awardingbodylaw06_awake.f k1).bind fun t481 => (some t481)) else (none)) = some r := H
      have A24 := Aside0.mk A240
      clear A240
      by_cases c25 : (t479 == t480) = true
      ·rw [if_pos c25] at H
       have c25b0 : (t479 == t480) = true := c25
       (try (have c25b1 : decide (t479 = t480) = true := by simpa using c25))
       (try (have c25b2 : (t479 == t480) = true := by simpa using c25))
       clear c25
       replace H := Option.bind_eq_some_iff.mp H
       obtain ⟨t481, A260, H⟩ := H
       replace H : (some t481) = some r := H
       have A26 := Aside0.mk A260
       clear A260
       obtain rfl := Option.some.inj H
       have hcz27_0 : wr.cell? ⟨gb468, 0, none⟩ = some (.int .i64 t466) := (blk_cell BK468.out 0).trans rfl
       have hcz27_1 : wr.cell? ⟨gb468, 1, none⟩ = some (.int .i64 t467) := (blk_cell BK468.out 1).trans rfl
       have hcz27_2 : wr.cell? ⟨gb468, 2, none⟩ = some (u469002) := (blk_cell BK468.out 2).trans rfl
       have hfz27_0 := blk_frozen BK468.out 0
       have hfz27_1 := blk_frozen BK468.out 1
       have hfz27_2 := blk_frozen BK468.out 2
       try go_wp2_with (first | ((with_reducible refine gate_dst (N := 11) rfl ?_); refine box_event ?hg (N := 11) ?hd (cs := #[.int .i64 0, .int .i64 0, .slice none 0 0]) (t := 45) ?hr ?_; (case hd => rfl); (case hg => rfl); (case hr => first | (go_simp; done) | (go_simp; rfl)); intro gb474 hg w28 hbox hb; have n0_ := Aside0.mk (Kd.R_below (by (with_reducible repeat (first | apply Kd.R_alloc | apply Kd.R_drewN | apply Kd.R_drew)); exact HO_469002.out) hb); have n1_ := Aside0.mk (blk_below (g := gb468) (o := .cells #[.int .i64 t466, .int .i64 t467, u469002] 45 (0, 0)) (by (with_reducible repeat (first | refine blk_drewN ?_ _ | refine blk_drew ?_ | refine blk_alloc ?_ _)); exact BK468.out) hb); have n2_ := Aside0.mk (below_step (by repeat (first | (with_reducible first | exact HB.out | apply below_alloc | apply pw_below_drewN | apply below_drew1 | refine below_set ?_ GE468.out) | exact HB.out)) hb); have n3_ := Aside0.mk (hbox); have n4_ := Aside0.mk ((by rw [hg]; exact (below_size (by repeat (first | (with_reducible first | exact HB.out | apply below_alloc | apply pw_below_drewN | apply below_drew1 | refine below_set ?_ GE468.out) | exact HB.out))) : w.heap.size ≤ gb474)); have n5_ := Aside0.mk ((by rw [hg]; exact (below_size (by repeat (first | (with_reducible first | exact HB.out | apply below_alloc | apply pw_below_drewN | apply below_drew1 | refine below_set ?_ GE468.out) | exact HB.out))) : w.heap.size ≤ gb474)); have n6_ := Aside0.mk ((by rw [hg]; exact Nat.ne_of_lt (blk_lt (g := gb468) (o := .cells #[.int .i64 t466, .int .i64 t467, u469002] 45 (0, 0)) (by (with_reducible repeat (first | refine blk_drewN ?_ _ | refine blk_drew ?_ | refine blk_alloc ?_ _)); exact BK468.out)) : gb468 ≠ gb474)); have n7_ := Aside0.mk ((by rw [hg]; exact Nat.ne_of_gt (blk_lt (g := gb468) (o := .cells #[.int .i64 t466, .int .i64 t467, u469002] 45 (0, 0)) (by (with_reducible repeat (first | refine blk_drewN ?_ _ | refine blk_drew ?_ | refine blk_alloc ?_ _)); exact BK468.out)) : gb474 ≠ gb468)); clear HO_469002 BK468 HB; have HO_469002 := n0_; have BK468 := n1_; have HB := n2_; have BK474 := n3_; have GW474 := n4_; have GE474 := n5_; have NB468_474 := n6_; have NB474_468 := n7_; clear n0_ n1_ n2_ n3_ n4_ n5_ n6_ n7_ hb hbox hg; have hnb29 := NB474_468.out; have hnc29 := NB468_474.out; have hcz30_0 : w28.cell? ⟨gb474, 0, none⟩ = some (.int .i64 0) := (blk_cell BK474.out 0).trans rfl; have hcz30_1 : w28.cell? ⟨gb474, 1, none⟩ = some (.int .i64 0) := (blk_cell BK474.out 1).trans rfl; have hcz30_2 : w28.cell? ⟨gb474, 2, none⟩ = some (.slice none 0 0) := (blk_cell BK474.out 2).trans rfl; have hfz30_0 := blk_frozen BK474.out 0; have hfz30_1 := blk_frozen BK474.out 1; have hfz30_2 := blk_frozen BK474.out 2; obtain ⟨Ao31, co31, eo31⟩ := Kd.R_slice HO_469002.out; subst eo31))
       have n0_ : Aside0 (Kd.R k23 23 (((((w28.setCell ⟨gb474, 0, none⟩ (.int .i64 t466)).setCell ⟨gb474, 1, none⟩ (.int .i64 t467)).setCell ⟨gb474, 2, none⟩ (.slice Ao31 x469002_1.length co31)).setCell ⟨gb474, 0, none⟩ (.int .i64 a2)).setCell ⟨gb474, 1, none⟩ (.int .i64 a3)) w.heap.size (fun _ => True) (.slice Ao31 x469002_1.length co31) x469002_1) := ⟨by (with_reducible repeat (first | apply Kd.R_alloc | apply Kd.R_drewN | apply Kd.R_drew)); exact Kd.R_mono (Kd.R_far (p := ⟨gb474, 1, none⟩) (Kd.R_far (p := ⟨gb474, 0, none⟩) (Kd.R_far (p := ⟨gb474, 2, none⟩) (Kd.R_far (p := ⟨gb474, 1, none⟩) (Kd.R_far (p := ⟨gb474, 0, none⟩) (Kd.R_types HO_469002.out BK474.out (by decide)) (fun _ hk => hk.2) (.int .i64 t466)) (fun _ hk => hk.2) (.int .i64 t467)) (fun _ hk => hk.2) (.slice Ao31 x469002_1.length co31)) (fun _ hk => hk.2) (.int .i64 a2)) (fun _ hk => hk.2) (.int .i64 a3)) (fun _ hk => trivial)⟩
       have n1_ : Aside0 ((((((w28.setCell ⟨gb474, 0, none⟩ (.int .i64 t466)).setCell ⟨gb474, 1, none⟩ (.int .i64 t467)).setCell ⟨gb474, 2, none⟩ (.slice Ao31 x469002_1.length co31)).setCell ⟨gb474, 0, none⟩ (.int .i64 a2)).setCell ⟨gb474, 1, none⟩ (.int .i64 a3)).heap[gb468]? = some (.cells #[.int .i64 t466, .int .i64 t467, .slice Ao31 x469002_1.length co31] 45 (0, 0))) := ⟨by (with_reducible repeat (first | refine blk_drewN ?_ _ | refine blk_drew ?_ | refine blk_alloc ?_ _)); refine blk_far ?_ NB468_474.out _; (with_reducible repeat (first | refine blk_drewN ?_ _ | refine blk_drew ?_ | refine blk_alloc ?_ _)); refine blk_far ?_ NB468_474.out _; (with_reducible repeat (first | refine blk_drewN ?_ _ | refine blk_drew ?_ | refine blk_alloc ?_ _)); refine blk_far ?_ NB468_474.out _; (with_reducible repeat (first | refine blk_drewN ?_ _ | refine blk_drew ?_ | refine blk_alloc ?_ _)); refine blk_far ?_ NB468_474.out _; (with_reducible repeat (first | refine blk_drewN ?_ _ | refine blk_drew ?_ | refine blk_alloc ?_ _)); refine blk_far ?_ NB468_474.out _; (with_reducible repeat (first | refine blk_drewN ?_ _ | refine blk_drew ?_ | refine blk_alloc ?_ _)); exact BK468.out⟩
       have n2_ : Aside0 ((((((w28.setCell ⟨gb474, 0, none⟩ (.int .i64 t466)).setCell ⟨gb474, 1, none⟩ (.int .i64 t467)).setCell ⟨gb474, 2, none⟩ (.slice Ao31 x469002_1.length co31)).setCell ⟨gb474, 0, none⟩ (.int .i64 a2)).setCell ⟨gb474, 1, none⟩ (.int .i64 a3)).heap[gb474]? = some (.cells #[.int .i64 a2, .int .i64 a3, .slice Ao31 x469002_1.length co31] 45 (0, 0))) := ⟨by (with_reducible repeat (first | refine blk_drewN ?_ _ | refine blk_drew ?_ | refine blk_alloc ?_ _)); refine blk_put (cs := #[.int .i64 a2, .int .i64 t467, .slice Ao31 x469002_1.length co31]) ?_ 1 _ rfl; (with_reducible repeat (first | refine blk_drewN ?_ _ | refine blk_drew ?_ | refine blk_alloc ?_ _)); refine blk_put (cs := #[.int .i64 t466, .int .i64 t467, .slice Ao31 x469002_1.length co31]) ?_ 0 _ rfl; (with_reducible repeat (first | refine blk_drewN ?_ _ | refine blk_drew ?_ | refine blk_alloc ?_ _)); refine blk_put (cs := #[.int .i64 t466, .int .i64 t467, .slice none 0 0]) ?_ 2 _ rfl; (with_reducible repeat (first | refine blk_drewN ?_ _ | refine blk_drew ?_ | refine blk_alloc ?_ _)); refine blk_put (cs := #[.int .i64 t466, .int .i64 0, .slice none 0 0]) ?_ 1 _ rfl; (with_reducible repeat (first | refine blk_drewN ?_ _ | refine blk_drew ?_ | refine blk_alloc ?_ _)); refine blk_put (cs := #[.int .i64 0, .int .i64 0, .slice none 0 0]) ?_ 0 _ rfl; (with_reducible repeat (first | refine blk_drewN ?_ _ | refine blk_drew ?_ | refine blk_alloc ?_ _)); exact BK474.out⟩
       have n3_ : Aside0 (Below w.heap.size w (((((w28.setCell ⟨gb474, 0, none⟩ (.int .i64 t466)).setCell ⟨gb474, 1, none⟩ (.int .i64 t467)).setCell ⟨gb474, 2, none⟩ (.slice Ao31 x469002_1.length co31)).setCell ⟨gb474, 0, none⟩ (.int .i64 a2)).setCell ⟨gb474, 1, none⟩ (.int .i64 a3))) := ⟨by repeat (first | (with_reducible first | exact HB.out | apply below_alloc | apply pw_below_drewN | apply below_drew1 | refine below_set ?_ GE468.out | refine below_set ?_ GE474.out) | exact HB.out)⟩
       (try clear HO_469002)
       (try clear BK468)
       (try clear BK474)
       (try clear HB)
       generalize (((((w28.setCell ⟨gb474, 0, none⟩ (.int .i64 t466)).setCell ⟨gb474, 1, none⟩ (.int .i64 t467)).setCell ⟨gb474, 2, none⟩ (.slice Ao31 x469002_1.length co31)).setCell ⟨gb474, 0, none⟩ (.int .i64 a2)).setCell ⟨gb474, 1, none⟩ (.int .i64 a3)) = w32 at n0_ n1_ n2_ n3_ ⊢
       have HO_469002 := n0_
       have BK468 := n1_
       have BK474 := n2_
       have HB := n3_
       clear n0_ n1_ n2_ n3_
       have n0_ := Aside0.mk (Kd.R_drew HO_469002.out)
       have n1_ := Aside0.mk (blk_drew BK468.out)
       have n2_ := Aside0.mk (blk_drew BK474.out)
       have n3_ := Aside0.mk (below_drew1 HB.out)
       clear HO_469002 BK468 BK474 HB
       have HO_469002 := n0_
       have BK468 := n1_
       have BK474 := n2_
       have HB := n3_
       clear n0_ n1_ n2_ n3_
       refine start_ (n := 23) (S := fun w' => w'.cell? ⟨gb468, 0, none⟩ = some (.int .i64 t466) ∧ w'.cell? ⟨gb468, 1, none⟩ = some (.int .i64 t467) ∧ w'.cell? ⟨gb468, 2, none⟩ = some (.slice Ao31 x469002_1.length co31) ∧ w'.cell? ⟨gb474, 0, none⟩ = some (.int .i64 a2) ∧ w'.cell? ⟨gb474, 1, none⟩ = some (.int .i64 a3) ∧ w'.cell? ⟨gb474, 2, none⟩ = some (.slice Ao31 x469002_1.length co31)) (ds := []) #[false, false, false, false, false, false, false, false, false, false, false, false, false, false, false, false, false, false, false, false, false, false, false] (by kernel_rfl) rfl rfl ⟨(blk_cell BK468.out 0).trans rfl, (blk_cell BK468.out 1).trans rfl, (blk_cell BK468.out 2).trans rfl, (blk_cell BK474.out 0).trans rfl, (blk_cell BK474.out 1).trans rfl, (blk_cell BK474.out 2).trans rfl⟩ (fun hHeld => ?_); refine with_tabW awardingbodylaw06_ItemPapersLong.tab8 awardingbodylaw06_ItemPapersLong.bits8 (fun HT_ HW_ => ?_)
       generalize w32.drew = w33 at HO_469002 BK468 BK474 HB hHeld ⊢
       refine take_ (i := 0) (N := some 37) (v := ?_) (a' := ?_) #[true, false, false, false, false, false, false, false, false, false, false, false, false, false, false, false, false, false, false, false, false, false, false] rfl rfl (take_ofW HT_.out HW_.out (by kernel_rfl)) (fun _ _ _ h => h) (Or.inl ⟨by rfl, ?_⟩) hHeld ?_ ?_
       rotate_left
       ·rintro w' ⟨s0, s1, s2, s3, s4, s5⟩
        go_simp
        with_reducible rfl
       rotate_left
       ·simp only [Act.put, List.setIfInBounds_toArray, List.set_cons_zero, List.set_cons_succ, i64_w, i32_w]
        rfl
       refine take_ (i := 2) (N := some 39) (v := ?_) (a' := ?_) #[true, false, true, false, false, false, false, false, false, false, false, false, false, false, false, false, false, false, false, false, false, false, false] rfl rfl (take_ofW HT_.out HW_.out (by kernel_rfl)) (fun _ _ _ h => h) (Or.inl ⟨by rfl, ?_⟩) hHeld ?_ ?_
       rotate_left
       ·rintro w' ⟨s0, s1, s2, s3, s4, s5⟩
        go_simp
        with_reducible rfl
       rotate_left
       ·simp only [Act.put, List.setIfInBounds_toArray, List.set_cons_zero, List.set_cons_succ, i64_w, i32_w]
        rfl
       refine one_ (i := 1) (N := some 38) #[true, true, true, false, false, false, false, false, false, false, false, false, false, false, false, false, false, false, false, false, false, false, false] rfl rfl (one_of HT_.out (by kernel_rfl)) (by decide) (fun K hK => ?_)
       refine goes_ Try.func27 (by kernel_rfl) rfl #[.agg #[.int .i64 t466, .int .i64 t467, .slice Ao31 x469002_1.length co31]] (by rfl) rfl rfl (by (try simp only [List.map_toArray, List.map_cons, List.map_nil]); first | done | rfl | (simp only [List.length_drop, List.length_take]; rfl)) ?_
       with_reducible refine (item_ValidPaper.calls k1 t466 t467 _ _ x469002_1 t475 _ ?side1 ?side2 A17.out).mono ?_
       (case side1 => repeat (first | exact (Kd.R_reads' HO_469002.out).2.2 | (with_reducible refine Kd.C_alloc ?_ _) | (with_reducible refine Kd.C_drewN ?_ _) | (with_reducible refine Kd.C_drew ?_)))
       (case side2 => exact (Kd.R_reads' HO_469002.out).2.1)
       rintro e w34 ⟨rfl, hb⟩
       refine ⟨_, rfl, ?_⟩
       have n0_ := Aside0.mk (Kd.R_below (by (with_reducible repeat (first | apply Kd.R_alloc | apply Kd.R_drewN | apply Kd.R_drew)); exact HO_469002.out) hb)
       have n1_ := Aside0.mk (blk_below (g := gb468) (o := .cells #[.int .i64 t466, .int .i64 t467, .slice Ao31 x469002_1.length co31] 45 (0, 0)) (by (with_reducible repeat (first | refine blk_drewN ?_ _ | refine blk_drew ?_ | refine blk_alloc ?_ _)); exact BK468.out) hb)
       have n2_ := Aside0.mk (blk_below (g := gb474) (o := .cells #[.int .i64 a2, .int .i64 a3, .slice Ao31 x469002_1.length co31] 45 (0, 0)) (by (with_reducible repeat (first | refine blk_drewN ?_ _ | refine blk_drew ?_ | refine blk_alloc ?_ _)); exact BK474.out) hb)
       have n3_ := Aside0.mk (below_step (by repeat (first | (with_reducible first | exact HB.out | apply below_alloc | apply pw_below_drewN | apply below_drew1 | refine below_set ?_ GE468.out | refine below_set ?_ GE474.out) | exact HB.out)) hb)
       clear HO_469002 BK468 BK474 HB
       have HO_469002 := n0_
       have BK468 := n1_
       have BK474 := n2_
       have HB := n3_
       clear n0_ n1_ n2_ n3_
       (try clear hb)
       (try clear hb2)
       (try clear hk)
       (try clear hi)
       refine hK.out _ _ ⟨(blk_cell BK468.out 0).trans rfl, (blk_cell BK468.out 1).trans rfl, (blk_cell BK468.out 2).trans rfl, (blk_cell BK474.out 0).trans rfl, (blk_cell BK474.out 1).trans rfl, (blk_cell BK474.out 2).trans rfl⟩ (fun hHeld => ?_)
       clear hK K
       refine norm_ (a' := ?_) ?_ ?_
       rotate_left
       ·show Act.put _ (some 38) _ = _
        simp only [Act.put, List.setIfInBounds_toArray, List.set_cons_zero, List.set_cons_succ, i64_w, i32_w]
        rfl
       refine one_ (i := 3) (N := some 40) #[true, true, true, true, false, false, false, false, false, false, false, false, false, false, false, false, false, false, false, false, false, false, false] rfl rfl (one_of HT_.out (by kernel_rfl)) (by decide) (fun K hK => ?_)
       refine goes_ Try.func28 (by kernel_rfl) rfl #[.agg #[.int .i64 t466, .int .i64 t467, .slice Ao31 x469002_1.length co31]] (by rfl) rfl rfl (by (try simp only [List.map_toArray, List.map_cons, List.map_nil]); first | done | rfl | (simp only [List.length_drop, List.length_take]; rfl)) ?_
       with_reducible refine (awardingbodyref06_ValidPaper.calls k1 t466 t467 _ _ x469002_1 t476 _ ?side1 ?side2 A18.out).mono ?_
       (case side1 => repeat (first | exact (Kd.R_reads' HO_469002.out).2.2 | (with_reducible refine Kd.C_alloc ?_ _) | (with_reducible refine Kd.C_drewN ?_ _) | (with_reducible refine Kd.C_drew ?_)))
       (case side2 => exact (Kd.R_reads' HO_469002.out).2.1)
       rintro e w35 ⟨rfl, hb⟩
       refine ⟨_, rfl, ?_⟩
       have n0_ := Aside0.mk (Kd.R_below (by (with_reducible repeat (first | apply Kd.R_alloc | apply Kd.R_drewN | apply Kd.R_drew)); exact HO_469002.out) hb)
       have n1_ := Aside0.mk (blk_below (g := gb468) (o := .cells #[.int .i64 t466, .int .i64 t467, .slice Ao31 x469002_1.length co31] 45 (0, 0)) (by (with_reducible repeat (first | refine blk_drewN ?_ _ | refine blk_drew ?_ | refine blk_alloc ?_ _)); exact BK468.out) hb)
       have n2_ := Aside0.mk (blk_below (g := gb474) (o := .cells #[.int .i64 a2, .int .i64 a3, .slice Ao31 x469002_1.length co31] 45 (0, 0)) (by (with_reducible repeat (first | refine blk_drewN ?_ _ | refine blk_drew ?_ | refine blk_alloc ?_ _)); exact BK474.out) hb)
       have n3_ := Aside0.mk (below_step (by repeat (first | (with_reducible first | exact HB.out | apply below_alloc | apply pw_below_drewN | apply below_drew1 | refine below_set ?_ GE468.out | refine below_set ?_ GE474.out) | exact HB.out)) hb)
       clear HO_469002 BK468 BK474 HB
       have HO_469002 := n0_
       have BK468 := n1_
       have BK474 := n2_
       have HB := n3_
       clear n0_ n1_ n2_ n3_
       (try clear hb)
       (try clear hb2)
       (try clear hk)
       (try clear hi)
       refine hK.out _ _ ⟨(blk_cell BK468.out 0).trans rfl, (blk_cell BK468.out 1).trans rfl, (blk_cell BK468.out 2).trans rfl, (blk_cell BK474.out 0).trans rfl, (blk_cell BK474.out 1).trans rfl, (blk_cell BK474.out 2).trans rfl⟩ (fun hHeld => ?_)
       clear hK K
       refine norm_ (a' := ?_) ?_ ?_
       rotate_left
       ·show Act.put _ (some 40) _ = _
        simp only [Act.put, List.setIfInBounds_toArray, List.set_cons_zero, List.set_cons_succ, i64_w, i32_w]
        rfl
       refine pure_ (i := 4) (N := some 41) (v := ?_) (a' := ?_) #[true, true, true, true, true, false, false, false, false, false, false, false, false, false, false, false, false, false, false, false, false, false, false] rfl rfl (any_of HT_.out (by kernel_rfl)) (fun _ _ _ h => h) (Or.inl ⟨by rfl, ?_⟩) ?_ ?_
       rotate_left
       ·intro w'
        go_simp
        with_reducible rfl
       rotate_left
       ·simp only [Act.put, List.setIfInBounds_toArray, List.set_cons_zero, List.set_cons_succ, i64_w, i32_w]
        rfl
       refine pure_ (i := 5) (N := some 42) (v := ?_) (a' := ?_) #[true, true, true, true, true, true, false, false, false, false, false, false, false, false, false, false, false, false, false, false, false, false, false] rfl rfl (any_of HT_.out (by kernel_rfl)) (fun _ _ _ h => h) (Or.inl ⟨by rfl, ?_⟩) ?_ ?_
       rotate_left
       ·intro w'
        go_simp
        with_reducible rfl
       rotate_left
       ·simp only [Act.put, List.setIfInBounds_toArray, List.set_cons_zero, List.set_cons_succ, i64_w, i32_w]
        rfl
       refine take_ (i := 6) (N := some 43) (v := ?_) (a' := ?_) #[true, true, true, true, true, true, true, false, false, false, false, false, false, false, false, false, false, false, false, false, false, false, false] rfl rfl (take_ofW HT_.out HW_.out (by kernel_rfl)) (fun _ _ _ h => h) (Or.inl ⟨by rfl, ?_⟩) hHeld ?_ ?_
       rotate_left
       ·rintro w' ⟨s0, s1, s2, s3, s4, s5⟩
        go_simp
        with_reducible rfl
       rotate_left
       ·simp only [Act.put, List.setIfInBounds_toArray, List.set_cons_zero, List.set_cons_succ, i64_w, i32_w]
        rfl
       refine take_ (i := 8) (N := some 45) (v := ?_) (a' := ?_) #[true, true, true, true, true, true, true, false, true, false, false, false, false, false, false, false, false, false, false, false, false, false, false] rfl rfl (take_ofW HT_.out HW_.out (by kernel_rfl)) (fun _ _ _ h => h) (Or.inl ⟨by rfl, ?_⟩) hHeld ?_ ?_
       rotate_left
       ·rintro w' ⟨s0, s1, s2, s3, s4, s5⟩
        go_simp
        with_reducible rfl
       rotate_left
       ·simp only [Act.put, List.setIfInBounds_toArray, List.set_cons_zero, List.set_cons_succ, i64_w, i32_w]
        rfl
       refine one_ (i := 7) (N := some 44) #[true, true, true, true, true, true, true, true, true, false, false, false, false, false, false, false, false, false, false, false, false, false, false] rfl rfl (one_of HT_.out (by kernel_rfl)) (by decide) (fun K hK => ?_)
       refine goes_ Try.func29 (by kernel_rfl) rfl #[.agg #[.int .i64 t466, .int .i64 t467, .slice Ao31 x469002_1.length co31]] (by rfl) rfl rfl (by (try simp only [List.map_toArray, List.map_cons, List.map_nil]); first | done | rfl | (simp only [List.length_drop, List.length_take]; rfl)) ?_
       with_reducible refine (item_PaperTotal.calls k1 t466 t467 _ _ x469002_1 t477 _ ?side1 ?side2 A20.out).mono ?_
       (case side1 => repeat (first | exact (Kd.R_reads' HO_469002.out).2.2 | (with_reducible refine Kd.C_alloc ?_ _) | (with_reducible refine Kd.C_drewN ?_ _) | (with_reducible refine Kd.C_drew ?_)))
       (case side2 => exact (Kd.R_reads' HO_469002.out).2.1)
       rintro e w36 ⟨rfl, hb⟩
       refine ⟨_, rfl, ?_⟩
       have n0_ := Aside0.mk (Kd.R_below (by (with_reducible repeat (first | apply Kd.R_alloc | apply Kd.R_drewN | apply Kd.R_drew)); exact HO_469002.out) hb)
       have n1_ := Aside0.mk (blk_below (g := gb468) (o := .cells #[.int .i64 t466, .int .i64 t467, .slice Ao31 x469002_1.length co31] 45 (0, 0)) (by (with_reducible repeat (first | refine blk_drewN ?_ _ | refine blk_drew ?_ | refine blk_alloc ?_ _)); exact BK468.out) hb)
       have n2_ := Aside0.mk (blk_below (g := gb474) (o := .cells #[.int .i64 a2, .int .i64 a3, .slice Ao31 x469002_1.length co31] 45 (0, 0)) (by (with_reducible repeat (first | refine blk_drewN ?_ _ | refine blk_drew ?_ | refine blk_alloc ?_ _)); exact BK474.out) hb)
       have n3_ := Aside0.mk (below_step (by repeat (first | (with_reducible first | exact HB.out | apply below_alloc | apply pw_below_drewN | apply below_drew1 | refine below_set ?_ GE468.out | refine below_set ?_ GE474.out) | exact HB.out)) hb)
       clear HO_469002 BK468 BK474 HB
       have HO_469002 := n0_
       have BK468 := n1_
       have BK474 := n2_
       have HB := n3_
       clear n0_ n1_ n2_ n3_
       (try clear hb)
       (try clear hb2)
       (try clear hk)
       (try clear hi)
       refine hK.out _ _ ⟨(blk_cell BK468.out 0).trans rfl, (blk_cell BK468.out 1).trans rfl, (blk_cell BK468.out 2).trans rfl, (blk_cell BK474.out 0).trans rfl, (blk_cell BK474.out 1).trans rfl, (blk_cell BK474.out 2).trans rfl⟩ (fun hHeld => ?_)
       clear hK K
       refine norm_ (a' := ?_) ?_ ?_
       rotate_left
       ·show Act.put _ (some 44) _ = _
        simp only [Act.put, List.setIfInBounds_toArray, List.set_cons_zero, List.set_cons_succ, i64_w, i32_w]
        rfl
       refine one_ (i := 9) (N := some 46) #[true, true, true, true, true, true, true, true, true, true, false, false, false, false, false, false, false, false, false, false, false, false, false] rfl rfl (one_of HT_.out (by kernel_rfl)) (by decide) (fun K hK => ?_)
       refine goes_ Try.func30 (by kernel_rfl) rfl #[.agg #[.int .i64 t466, .int .i64 t467, .slice Ao31 x469002_1.length co31]] (by rfl) rfl rfl (by (try simp only [List.map_toArray, List.map_cons, List.map_nil]); first | done | rfl | (simp only [List.length_drop, List.length_take]; rfl)) ?_
       with_reducible refine (awardingbodyref06_PaperTotal.calls k1 t466 t467 _ _ x469002_1 t478 _ ?side1 ?side2 A21.out).mono ?_
       (case side1 => repeat (first | exact (Kd.R_reads' HO_469002.out).2.2 | (with_reducible refine Kd.C_alloc ?_ _) | (with_reducible refine Kd.C_drewN ?_ _) | (with_reducible refine Kd.C_drew ?_)))
       (case side2 => exact (Kd.R_reads' HO_469002.out).2.1)
       rintro e w37 ⟨rfl, hb⟩
       refine ⟨_, rfl, ?_⟩
       have n0_ := Aside0.mk (Kd.R_below (by (with_reducible repeat (first | apply Kd.R_alloc | apply Kd.R_drewN | apply Kd.R_drew)); exact HO_469002.out) hb)
       have n1_ := Aside0.mk (blk_below (g := gb468) (o := .cells #[.int .i64 t466, .int .i64 t467, .slice Ao31 x469002_1.length co31] 45 (0, 0)) (by (with_reducible repeat (first | refine blk_drewN ?_ _ | refine blk_drew ?_ | refine blk_alloc ?_ _)); exact BK468.out) hb)
       have n2_ := Aside0.mk (blk_below (g := gb474) (o := .cells #[.int .i64 a2, .int .i64 a3, .slice Ao31 x469002_1.length co31] 45 (0, 0)) (by (with_reducible repeat (first | refine blk_drewN ?_ _ | refine blk_drew ?_ | refine blk_alloc ?_ _)); exact BK474.out) hb)
       have n3_ := Aside0.mk (below_step (by repeat (first | (with_reducible first | exact HB.out | apply below_alloc | apply pw_below_drewN | apply below_drew1 | refine below_set ?_ GE468.out | refine below_set ?_ GE474.out) | exact HB.out)) hb)
       clear HO_469002 BK468 BK474 HB
       have HO_469002 := n0_
       have BK468 := n1_
       have BK474 := n2_
       have HB := n3_
       clear n0_ n1_ n2_ n3_
       (try clear hb)
       (try clear hb2)
       (try clear hk)
       (try clear hi)
       refine hK.out _ _ ⟨(blk_cell BK468.out 0).trans rfl, (blk_cell BK468.out 1).trans rfl, (blk_cell BK468.out 2).trans rfl, (blk_cell BK474.out 0).trans rfl, (blk_cell BK474.out 1).trans rfl, (blk_cell BK474.out 2).trans rfl⟩ (fun hHeld => ?_)
       clear hK K
       refine norm_ (a' := ?_) ?_ ?_
       rotate_left
       ·show Act.put _ (some 46) _ = _
        simp only [Act.put, List.setIfInBounds_toArray, List.set_cons_zero, List.set_cons_succ, i64_w, i32_w]
        rfl
       refine pure_ (i := 10) (N := some 47) (v := ?_) (a' := ?_) #[true, true, true, true, true, true, true, true, true, true, true, false, false, false, false, false, false, false, false, false, false, false, false] rfl rfl (any_of HT_.out (by kernel_rfl)) (fun _ _ _ h => h) (Or.inl ⟨by rfl, ?_⟩) ?_ ?_
       rotate_left
       ·intro w'
        go_simp
        with_reducible rfl
       rotate_left
       ·simp only [Act.put, List.setIfInBounds_toArray, List.set_cons_zero, List.set_cons_succ, i64_w, i32_w]
        rfl
       refine pure_ (i := 11) (N := some 48) (v := ?_) (a' := ?_) #[true, true, true, true, true, true, true, true, true, true, true, true, false, false, false, false, false, false, false, false, false, false, false] rfl rfl (any_of HT_.out (by kernel_rfl)) (fun _ _ _ h => h) (Or.inl ⟨by rfl, ?_⟩) ?_ ?_
       rotate_left
       ·intro w'
        go_simp
        with_reducible rfl
       rotate_left
       ·simp only [Act.put, List.setIfInBounds_toArray, List.set_cons_zero, List.set_cons_succ, i64_w, i32_w]
        rfl
       refine pure_ (i := 12) (N := some 49) (v := ?_) (a' := ?_) #[true, true, true, true, true, true, true, true, true, true, true, true, true, false, false, false, false, false, false, false, false, false, false] rfl rfl (any_of HT_.out (by kernel_rfl)) (fun _ _ _ h => h) (Or.inl ⟨by rfl, ?_⟩) ?_ ?_
       rotate_left
       ·intro w'
        go_simp
        with_reducible rfl
       rotate_left
       ·simp only [Act.put, List.setIfInBounds_toArray, List.set_cons_zero, List.set_cons_succ, i64_w, i32_w]
        rfl
       refine take_ (i := 13) (N := some 50) (v := ?_) (a' := ?_) #[true, true, true, true, true, true, true, true, true, true, true, true, true, true, false, false, false, false, false, false, false, false, false] rfl rfl (take_ofW HT_.out HW_.out (by kernel_rfl)) (fun _ _ _ h => h) (Or.inl ⟨by rfl, ?_⟩) hHeld ?_ ?_
       rotate_left
       ·rintro w' ⟨s0, s1, s2, s3, s4, s5⟩
        go_simp
        with_reducible rfl
       rotate_left
       ·simp only [Act.put, List.setIfInBounds_toArray, List.set_cons_zero, List.set_cons_succ, i64_w, i32_w]
        rfl
       refine take_ (i := 15) (N := some 52) (v := ?_) (a' := ?_) #[true, true, true, true, true, true, true, true, true, true, true, true, true, true, false, true, false, false, false, false, false, false, false] rfl rfl (take_ofW HT_.out HW_.out (by kernel_rfl)) (fun _ _ _ h => h) (Or.inl ⟨by rfl, ?_⟩) hHeld ?_ ?_
       rotate_left
       ·rintro w' ⟨s0, s1, s2, s3, s4, s5⟩
        go_simp
        with_reducible rfl
       rotate_left
       ·simp only [Act.put, List.setIfInBounds_toArray, List.set_cons_zero, List.set_cons_succ, i64_w, i32_w]
        rfl
       refine one_ (i := 14) (N := some 51) #[true, true, true, true, true, true, true, true, true, true, true, true, true, true, true, true, false, false, false, false, false, false, false] rfl rfl (one_of HT_.out (by kernel_rfl)) (by decide) (fun K hK => ?_)
       refine goes_ Try.func27 (by kernel_rfl) rfl #[.agg #[.int .i64 a2, .int .i64 a3, .slice Ao31 x469002_1.length co31]] (by rfl) rfl rfl (by (try simp only [List.map_toArray, List.map_cons, List.map_nil]); first | done | rfl | (simp only [List.length_drop, List.length_take]; rfl)) ?_
       with_reducible refine (item_ValidPaper.calls k1 a2 a3 _ _ x469002_1 t479 _ ?side1 ?side2 A23.out).mono ?_
       (case side1 => repeat (first | exact (Kd.R_reads' HO_469002.out).2.2 | (with_reducible refine Kd.C_alloc ?_ _) | (with_reducible refine Kd.C_drewN ?_ _) | (with_reducible refine Kd.C_drew ?_)))
       (case side2 => exact (Kd.R_reads' HO_469002.out).2.1)
       rintro e w38 ⟨rfl, hb⟩
       refine ⟨_, rfl, ?_⟩
       have n0_ := Aside0.mk (Kd.R_below (by (with_reducible repeat (first | apply Kd.R_alloc | apply Kd.R_drewN | apply Kd.R_drew)); exact HO_469002.out) hb)
       have n1_ := Aside0.mk (blk_below (g := gb468) (o := .cells #[.int .i64 t466, .int .i64 t467, .slice Ao31 x469002_1.length co31] 45 (0, 0)) (by (with_reducible repeat (first | refine blk_drewN ?_ _ | refine blk_drew ?_ | refine blk_alloc ?_ _)); exact BK468.out) hb)
       have n2_ := Aside0.mk (blk_below (g := gb474) (o := .cells #[.int .i64 a2, .int .i64 a3, .slice Ao31 x469002_1.length co31] 45 (0, 0)) (by (with_reducible repeat (first | refine blk_drewN ?_ _ | refine blk_drew ?_ | refine blk_alloc ?_ _)); exact BK474.out) hb)
       have n3_ := Aside0.mk (below_step (by repeat (first | (with_reducible first | exact HB.out | apply below_alloc | apply pw_below_drewN | apply below_drew1 | refine below_set ?_ GE468.out | refine below_set ?_ GE474.out) | exact HB.out)) hb)
       clear HO_469002 BK468 BK474 HB
       have HO_469002 := n0_
       have BK468 := n1_
       have BK474 := n2_
       have HB := n3_
       clear n0_ n1_ n2_ n3_
       (try clear hb)
       (try clear hb2)
       (try clear hk)
       (try clear hi)
       refine hK.out _ _ ⟨(blk_cell BK468.out 0).trans rfl, (blk_cell BK468.out 1).trans rfl, (blk_cell BK468.out 2).trans rfl, (blk_cell BK474.out 0).trans rfl, (blk_cell BK474.out 1).trans rfl, (blk_cell BK474.out 2).trans rfl⟩ (fun hHeld => ?_)
       clear hK K
       refine norm_ (a' := ?_) ?_ ?_
       rotate_left
       ·show Act.put _ (some 51) _ = _
        simp only [Act.put, List.setIfInBounds_toArray, List.set_cons_zero, List.set_cons_succ, i64_w, i32_w]
        rfl
       refine one_ (i := 16) (N := some 53) #[true, true, true, true, true, true, true, true, true, true, true, true, true, true, true, true, true, false, false, false, false, false, false] rfl rfl (one_of HT_.out (by kernel_rfl)) (by decide) (fun K hK => ?_)
       refine goes_ Try.func28 (by kernel_rfl) rfl #[.agg #[.int .i64 a2, .int .i64 a3, .slice Ao31 x469002_1.length co31]] (by rfl) rfl rfl (by (try simp only [List.map_toArray, List.map_cons, List.map_nil]); first | done | rfl | (simp only [List.length_drop, List.length_take]; rfl)) ?_
       with_reducible refine (awardingbodyref06_ValidPaper.calls k1 a2 a3 _ _ x469002_1 t480 _ ?side1 ?side2 A24.out).mono ?_
       (case side1 => repeat (first | exact (Kd.R_reads' HO_469002.out).2.2 | (with_reducible refine Kd.C_alloc ?_ _) | (with_reducible refine Kd.C_drewN ?_ _) | (with_reducible refine Kd.C_drew ?_)))
       (case side2 => exact (Kd.R_reads' HO_469002.out).2.1)
       rintro e w39 ⟨rfl, hb⟩
       refine ⟨_, rfl, ?_⟩
       have n0_ := Aside0.mk (Kd.R_below (by (with_reducible repeat (first | apply Kd.R_alloc | apply Kd.R_drewN | apply Kd.R_drew)); exact HO_469002.out) hb)
       have n1_ := Aside0.mk (blk_below (g := gb468) (o := .cells #[.int .i64 t466, .int .i64 t467, .slice Ao31 x469002_1.length co31] 45 (0, 0)) (by (with_reducible repeat (first | refine blk_drewN ?_ _ | refine blk_drew ?_ | refine blk_alloc ?_ _)); exact BK468.out) hb)
       have n2_ := Aside0.mk (blk_below (g := gb474) (o := .cells #[.int .i64 a2, .int .i64 a3, .slice Ao31 x469002_1.length co31] 45 (0, 0)) (by (with_reducible repeat (first | refine blk_drewN ?_ _ | refine blk_drew ?_ | refine blk_alloc ?_ _)); exact BK474.out) hb)
       have n3_ := Aside0.mk (below_step (by repeat (first | (with_reducible first | exact HB.out | apply below_alloc | apply pw_below_drewN | apply below_drew1 | refine below_set ?_ GE468.out | refine below_set ?_ GE474.out) | exact HB.out)) hb)
       clear HO_469002 BK468 BK474 HB
       have HO_469002 := n0_
       have BK468 := n1_
       have BK474 := n2_
       have HB := n3_
       clear n0_ n1_ n2_ n3_
       (try clear hb)
       (try clear hb2)
       (try clear hk)
       (try clear hi)
       refine hK.out _ _ ⟨(blk_cell BK468.out 0).trans rfl, (blk_cell BK468.out 1).trans rfl, (blk_cell BK468.out 2).trans rfl, (blk_cell BK474.out 0).trans rfl, (blk_cell BK474.out 1).trans rfl, (blk_cell BK474.out 2).trans rfl⟩ (fun hHeld => ?_)
       clear hK K
       refine norm_ (a' := ?_) ?_ ?_
       rotate_left
       ·show Act.put _ (some 53) _ = _
        simp only [Act.put, List.setIfInBounds_toArray, List.set_cons_zero, List.set_cons_succ, i64_w, i32_w]
        rfl
       refine pure_ (i := 17) (N := some 54) (v := ?_) (a' := ?_) #[true, true, true, true, true, true, true, true, true, true, true, true, true, true, true, true, true, true, false, false, false, false, false] rfl rfl (any_of HT_.out (by kernel_rfl)) (fun _ _ _ h => h) (Or.inl ⟨by rfl, ?_⟩) ?_ ?_
       rotate_left
       ·intro w'
        go_simp
        with_reducible rfl
       rotate_left
       ·simp only [Act.put, List.setIfInBounds_toArray, List.set_cons_zero, List.set_cons_succ, i64_w, i32_w]
        rfl
       refine pure_ (i := 18) (N := some 55) (v := ?_) (a' := ?_) #[true, true, true, true, true, true, true, true, true, true, true, true, true, true, true, true, true, true, true, false, false, false, false] rfl rfl (any_of HT_.out (by kernel_rfl)) (fun _ _ _ h => h) (Or.inl ⟨by rfl, ?_⟩) ?_ ?_
       rotate_left
       ·intro w'
        go_simp
        with_reducible rfl
       rotate_left
       ·simp only [Act.put, List.setIfInBounds_toArray, List.set_cons_zero, List.set_cons_succ, i64_w, i32_w]
        rfl
       refine pure_ (i := 19) (N := some 56) (v := ?_) (a' := ?_) #[true, true, true, true, true, true, true, true, true, true, true, true, true, true, true, true, true, true, true, true, false, false, false] rfl rfl (any_of HT_.out (by kernel_rfl)) (fun _ _ _ h => h) (Or.inl ⟨by rfl, ?_⟩) ?_ ?_
       rotate_left
       ·intro w'
        go_simp
        with_reducible rfl
       rotate_left
       ·simp only [Act.put, List.setIfInBounds_toArray, List.set_cons_zero, List.set_cons_succ, i64_w, i32_w]
        rfl
       refine one_ (i := 20) (N := some 57) #[true, true, true, true, true, true, true, true, true, true, true, true, true, true, true, true, true, true, true, true, true, false, false] rfl rfl (one_of HT_.out (by kernel_rfl)) (by decide) (fun K hK => ?_)
       refine goes_ Try.func14 (by kernel_rfl) rfl #[] (by rfl) rfl rfl (by (try simp only [List.map_toArray, List.map_cons, List.map_nil]); first | done | rfl | (simp only [List.length_drop, List.length_take]; rfl)) ?_
       with_reducible refine (awardingbodylaw06_awake.calls k1  t481 _ A26.out).mono ?_
       rintro e w40 ⟨rfl, hb⟩
       refine ⟨_, rfl, ?_⟩
       have n0_ := Aside0.mk (Kd.R_below (by (with_reducible repeat (first | apply Kd.R_alloc | apply Kd.R_drewN | apply Kd.R_drew)); exact HO_469002.out) hb)
       have n1_ := Aside0.mk (blk_below (g := gb468) (o := .cells #[.int .i64 t466, .int .i64 t467, .slice Ao31 x469002_1.length co31] 45 (0, 0)) (by (with_reducible repeat (first | refine blk_drewN ?_ _ | refine blk_drew ?_ | refine blk_alloc ?_ _)); exact BK468.out) hb)
       have n2_ := Aside0.mk (blk_below (g := gb474) (o := .cells #[.int .i64 a2, .int .i64 a3, .slice Ao31 x469002_1.length co31] 45 (0, 0)) (by (with_reducible repeat (first | refine blk_drewN ?_ _ | refine blk_drew ?_ | refine blk_alloc ?_ _)); exact BK474.out) hb)
       have n3_ := Aside0.mk (below_step (by repeat (first | (with_reducible first | exact HB.out | apply below_alloc | apply pw_below_drewN | apply below_drew1 | refine below_set ?_ GE468.out | refine below_set ?_ GE474.out) | exact HB.out)) hb)
       clear HO_469002 BK468 BK474 HB
       have HO_469002 := n0_
       have BK468 := n1_
       have BK474 := n2_
       have HB := n3_
       clear n0_ n1_ n2_ n3_
       (try clear hb)
       (try clear hb2)
       (try clear hk)
       (try clear hi)
       refine hK.out _ _ ⟨(blk_cell BK468.out 0).trans rfl, (blk_cell BK468.out 1).trans rfl, (blk_cell BK468.out 2).trans rfl, (blk_cell BK474.out 0).trans rfl, (blk_cell BK474.out 1).trans rfl, (blk_cell BK474.out 2).trans rfl⟩ (fun hHeld => ?_)
       clear hK K
       refine norm_ (a' := ?_) ?_ ?_
       rotate_left
       ·show Act.put _ (some 57) _ = _
        simp only [Act.put, List.setIfInBounds_toArray, List.set_cons_zero, List.set_cons_succ, i64_w, i32_w]
        rfl
       refine pure_ (i := 21) (N := some 58) (v := ?_) (a' := ?_) #[true, true, true, true, true, true, true, true, true, true, true, true, true, true, true, true, true, true, true, true, true, true, false] rfl rfl (any_of HT_.out (by kernel_rfl)) (fun _ _ _ h => h) (Or.inl ⟨by rfl, ?_⟩) ?_ ?_
       rotate_left
       ·intro w'
        go_simp
        with_reducible rfl
       rotate_left
       ·simp only [Act.put, List.setIfInBounds_toArray, List.set_cons_zero, List.set_cons_succ, i64_w, i32_w]
        rfl
       refine pure_ (i := 22) (N := some 8) (v := ?_) (a' := ?_) #[true, true, true, true, true, true, true, true, true, true, true, true, true, true, true, true, true, true, true, true, true, true, true] rfl rfl (any_of HT_.out (by kernel_rfl)) (fun _ _ _ h => h) (Or.inl ⟨by rfl, ?_⟩) ?_ ?_
       rotate_left
       ·intro w'
        go_simp
        with_reducible rfl
       rotate_left
       ·simp only [Act.put, List.setIfInBounds_toArray, List.set_cons_zero, List.set_cons_succ, i64_w, i32_w]
        rfl
       refine done_ (done_of HT_.out (by kernel_rfl)) ?_
       try go_wp2
       go_ret
       exact ⟨by first | rfl | (simp [errW_none, errW_some] <;> rfl) | (simp [*, errW_none, errW_some] <;> rfl), by repeat (first | (with_reducible first | exact HB.out | apply below_alloc | apply pw_below_drewN | apply below_drew1 | refine below_set ?_ GE468.out | refine below_set ?_ GE474.out) | exact HB.out)⟩
      ·rw [if_neg c25] at H
       have c25b0 : (t479 == t480) = false := by simpa using c25
       (try (have c25b1 : decide (t479 = t480) = false := by simpa using c25))
       (try (have c25b2 : (t479 == t480) = false := by simpa using c25))
       (try (have c25b3 : ¬ (t479 = t480) := by simpa using c25))
       clear c25
       exact absurd H (by simp)
     ·rw [if_neg c22] at H
      have c22b0 : (t477 == t478) = false := beq_eq_false_iff_ne.mpr c22
      have c22b1 : (t477 != t478) = true := bne_iff_ne.mpr c22
      exact absurd H (by simp)
    ·rw [if_neg c19] at H
     have c19b0 : (t475 == t476) = false := by simpa using c19
     (try (have c19b1 : decide (t475 = t476) = false := by simpa using c19))
     (try (have c19b2 : (t475 == t476) = false := by simpa using c19))
     (try (have c19b3 : ¬ (t475 = t476) := by simpa using c19))
     clear c19
     exact absurd H (by simp)

/-- THE ONE PURE STATEMENT of awardingbodylaw06_ItemPapersLong: yours. -/
def awardingbodylaw06_ItemPapersLong.Pure : Prop := ∀ (a0 : Int) (a1 : Int) (a2 : Int) (a3 : Int), (Lit.int .i64 a0).wf = true → (Lit.int .i64 a1).wf = true → (Lit.int .i64 a2).wf = true → (Lit.int .i64 a3).wf = true → ∃ k, awardingbodylaw06_ItemPapersLong.f k a0 a1 a2 a3 = some true
theorem awardingbodylaw06_ItemPapersLong.walk (P : awardingbodylaw06_ItemPapersLong.Pure) (a0 : Int) (a1 : Int) (a2 : Int) (a3 : Int) (w : World) (w0 : (Lit.int .i64 a0).wf = true) (w1 : (Lit.int .i64 a1).wf = true) (w2 : (Lit.int .i64 a2).wf = true) (w3 : (Lit.int .i64 a3).wf = true) :
  Calls Try.prog 7 #[.int .i64 a0, .int .i64 a1, .int .i64 a2, .int .i64 a3] w fun e w' => e = .returned (.bool true) ∧ Below w.heap.size w w' := by
 obtain ⟨k, h⟩ := P a0 a1 a2 a3 w0 w1 w2 w3
 refine (awardingbodylaw06_ItemPapersLong.calls k a0 a1 a2 a3 true w h).mono ?_
 rintro e w' ⟨rfl, hd⟩
 exact ⟨rfl, hd⟩

end Go.Proofs.Ytinmdoemkejanaa.Print
