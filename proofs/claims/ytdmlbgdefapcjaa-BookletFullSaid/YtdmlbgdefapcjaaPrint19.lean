-- Printed by a program of this session (wip/own_print.py) out of the translation; Lean checks it.
import Derived.Test.YtdmlbgdefapcjaaPrint0
import Derived.Test.YtdmlbgdefapcjaaPrint2
import Derived.Test.YtdmlbgdefapcjaaPrint5
import Derived.Test.YtdmlbgdefapcjaaPrint8
import Derived.Test.YtdmlbgdefapcjaaPrint16
import Derived.Test.YtdmlbgdefapcjaaPrint17
namespace Go.Proofs.Ytdmlbgdefapcjaa.Print
open Go.RowKit Go.Proofs.YtdmlbgdefapcjaaW.PrintWords Go.Proofs.YtdmlbgdefapcjaaW.PrintLast Go.Proofs.YtdmlbgdefapcjaaW.PrintMore
attribute [local go_sem] max2_int min2_int max_two min_two max_three min_three max_four min_four   -- for this text's walks alone
set_option linter.unusedVariables false
set_option linter.unusedSimpArgs false

/-! ### awardingbodylaw12_BookletFull: function 5 -/
def awardingbodylaw12_BookletFull.l0 : Nat → Int → Int → Int → Int → List (S23) → Option (Bool)
  | 0, _, _, _, _, _ => none
  | k + 1, x1, x6, x401000, x401001, x401002 => if x6 > 0 then ((awardingbodymake_Cut.f x1 40).bind fun t402 => (if x401002.length < 2932031007402 then (awardingbodylaw12_BookletFull.l0 k x1 (wrap64 (x6 - 1)) x401000 x401001 (x401002 ++ [(⟨1, wrap64 (1 + t402), 0, 0, 0, 0⟩ : S23)])) else (none))) else ((booklet_Make.f k x401000 x401001 x401002).bind fun bt406 => ((awardingbodyref12_Make.f k x401000 x401001 x401002).bind fun bt411 => ((awardingbodylaw12_same.f k bt406.1 bt411.1).bind fun t416 => (if t416 = true then (if bt406.2 = bt411.2 then ((awardingbodylaw12_awake.f k).bind fun t417 => (some t417)) else (none)) else (none)))))
def awardingbodylaw12_BookletFull.f (k : Nat) (a0 : Int) (a1 : Int) : Option (Bool) := (awardingbodymake_Cut.f a0 25).bind fun t401 => (awardingbodylaw12_BookletFull.l0 k a1 t401 0 0 ([] : List (S23)))
theorem awardingbodylaw12_BookletFull.mono_l : ∀ k, (∀ y0 y1 y2 y3 y4, LeO (awardingbodylaw12_BookletFull.l0 k y0 y1 y2 y3 y4) (awardingbodylaw12_BookletFull.l0 (k + 1) y0 y1 y2 y3 y4))
  | 0 => fun _ _ _ _ _ r h => by simp [awardingbodylaw12_BookletFull.l0] at h
  | k + 1 => by
    have ih0 := awardingbodylaw12_BookletFull.mono_l k
    · intro y0 y1 y2 y3 y4
      unfold awardingbodylaw12_BookletFull.l0
      repeat' first
      | (with_reducible exact ih0 _ _ _ _ _)
      | (with_reducible exact awardingbodylaw12_awake.mono _)
      | (with_reducible exact awardingbodylaw12_same.mono _ _ _)
      | (with_reducible exact awardingbodyref12_Make.mono _ _ _ _)
      | (with_reducible exact booklet_Make.mono _ _ _ _)
      | (with_reducible exact LeO.refl _)
      | (with_reducible exact LeO.none _)
      | (with_reducible refine LeO.ite ?_ ?_)
      | (with_reducible refine LeO.bind ?_ (fun _ => ?_))
      | exact ih0 _ _ _ _ _
      | exact awardingbodylaw12_awake.mono _
      | exact awardingbodylaw12_same.mono _ _ _
      | exact awardingbodyref12_Make.mono _ _ _ _
      | exact booklet_Make.mono _ _ _ _
      | exact LeO.none _
      | refine LeO.ite ?_ ?_
      | refine LeO.bind ?_ (fun _ => ?_)
theorem awardingbodylaw12_BookletFull.mono : ∀ a0 a1 k, LeO (awardingbodylaw12_BookletFull.f k a0 a1) (awardingbodylaw12_BookletFull.f (k + 1) a0 a1) := by
  intro a0 a1 k
  have ih0 := awardingbodylaw12_BookletFull.mono_l k
  unfold awardingbodylaw12_BookletFull.f
  repeat' first
      | (with_reducible exact ih0 _ _ _ _ _)
      | (with_reducible exact awardingbodylaw12_awake.mono _)
      | (with_reducible exact awardingbodylaw12_same.mono _ _ _)
      | (with_reducible exact awardingbodyref12_Make.mono _ _ _ _)
      | (with_reducible exact booklet_Make.mono _ _ _ _)
      | (with_reducible exact LeO.refl _)
      | (with_reducible exact LeO.none _)
      | (with_reducible refine LeO.ite ?_ ?_)
      | (with_reducible refine LeO.bind ?_ (fun _ => ?_))
      | exact ih0 _ _ _ _ _
      | exact awardingbodylaw12_awake.mono _
      | exact awardingbodylaw12_same.mono _ _ _
      | exact awardingbodyref12_Make.mono _ _ _ _
      | exact booklet_Make.mono _ _ _ _
      | exact LeO.none _
      | refine LeO.ite ?_ ?_
      | refine LeO.bind ?_ (fun _ => ?_)
def awardingbodylaw12_BookletFull.T5 : Bool × List (List Nat × List Nat) := (true, [([], []), ([0], [0]), ([], []), ([2], [2]), ([3], [3]), ([4], [4]), ([5], [5]), ([1, 6, 3], [1, 6]), ([0, 1, 2, 3, 4, 5, 6, 7], []), ([8, 7, 7, 0, 1, 2, 3, 4, 5, 6, 7], [7, 8])])
def awardingbodylaw12_BookletFull.B5 : List Nat := [0, 1, 0, 4, 12, 28, 60, 127, 255, 511]
theorem awardingbodylaw12_BookletFull.tab5 : rtab .any (opsOf Try.f5 5) = awardingbodylaw12_BookletFull.T5 := by kernel_rfl
theorem awardingbodylaw12_BookletFull.bits5 : waitsOk awardingbodylaw12_BookletFull.T5.2 awardingbodylaw12_BookletFull.B5 = true := by kernel_rfl
set_option maxHeartbeats 8000000 in
set_option maxRecDepth 100000 in
theorem awardingbodylaw12_BookletFull.calls (k : Nat) (a0 : Int) (a1 : Int) (r : Bool) (w : World) (h : awardingbodylaw12_BookletFull.f k a0 a1 = some r) :
    Calls Try.prog 5 #[.int .i64 a0, .int .i64 a1] w fun e w' => e = .returned (.bool r) ∧ Below w.heap.size w w' := by
 have hu33 := Try.underlying33
 have hu23 := Try.underlying23
 have hu38 := Try.underlying38
 have HB := Aside0.mk (Below.refl w.heap.size w)
 have H : ((awardingbodymake_Cut.f a0 25).bind fun t401 => (awardingbodylaw12_BookletFull.l0 k a1 t401 0 0 ([] : List (S23)))) = some r := h
 clear h
 replace H := Option.bind_eq_some_iff.mp H
 obtain ⟨t401, A30, H⟩ := H
 replace H : (awardingbodylaw12_BookletFull.l0 k a1 t401 0 0 ([] : List (S23))) = some r := H
 have A3 := Aside0.mk A30
 clear A30
 have H' := Aside0.mk H
 clear H
 go_enter Try.func5, Try.ntmps5
 go_wp2_with (first | ((with_reducible refine gate_dst (N := 5) rfl ?_); refine box_event ?hg (N := 5) ?hd (cs := #[.int .i64 0, .int .i64 0, .slice none 0 0]) (t := 33) ?hr ?_; (case hd => rfl); (case hg => rfl); (case hr => first | (go_simp; done) | (go_simp; rfl)); intro gb400 hg w4 hbox hb; have n0_ := Aside0.mk (below_step (by repeat (first | (with_reducible first | exact HB.out | apply below_alloc | apply pw_below_drewN | apply below_drew1) | exact HB.out)) hb); have n1_ := Aside0.mk (hbox); have n2_ := Aside0.mk ((by rw [hg]; exact (below_size (by repeat (first | (with_reducible first | exact HB.out | apply below_alloc | apply pw_below_drewN | apply below_drew1) | exact HB.out))) : w.heap.size ≤ gb400)); have n3_ := Aside0.mk ((by rw [hg]; exact (below_size (by repeat (first | (with_reducible first | exact HB.out | apply below_alloc | apply pw_below_drewN | apply below_drew1) | exact HB.out))) : w.heap.size ≤ gb400)); clear HB; have HB := n0_; have BK400 := n1_; have GW400 := n2_; have GE400 := n3_; clear n0_ n1_ n2_ n3_ hb hbox hg; have hcz5_0 : w4.cell? ⟨gb400, 0, none⟩ = some (.int .i64 0) := (blk_cell BK400.out 0).trans rfl; have hcz5_1 : w4.cell? ⟨gb400, 1, none⟩ = some (.int .i64 0) := (blk_cell BK400.out 1).trans rfl; have hcz5_2 : w4.cell? ⟨gb400, 2, none⟩ = some (.slice none 0 0) := (blk_cell BK400.out 2).trans rfl; have hfz5_0 := blk_frozen BK400.out 0; have hfz5_1 := blk_frozen BK400.out 1; have hfz5_2 := blk_frozen BK400.out 2) | ((with_reducible refine gate_callee (f := 11) rfl ?_); refine goesL_ (some 13) rfl rfl Try.func11 (by kernel_rfl) rfl #[.int .i64 a0, .int .i64 25] rfl (by (try simp only [List.map_toArray, List.map_cons, List.map_nil]); first | done | rfl | (simp only [List.length_drop, List.length_take]; rfl)) ?_; (with_reducible refine (awardingbodymake_Cut.calls a0 25 t401 _ A3.out).mono ?_); rintro e w' ⟨rfl, ⟨nd, rfl⟩⟩; refine ⟨_, rfl, ?_⟩))
 go_loopg [6] k (fun kq v6 w' => ∃ (x6_1 : Int) (x401002_1 : List (S23)) (u401002 : Value), v6 = .int .i64 x6_1 ∧ Aside0 (awardingbodylaw12_BookletFull.l0 kq a1 x6_1 0 0 x401002_1 = some r) ∧ Aside0 (kq ≤ k) ∧ Aside0 (Kd.R k23 23 w' w.heap.size (fun _ => True) u401002 x401002_1) ∧ Aside0 (w'.heap[gb400]? = some (.cells #[.int .i64 0, .int .i64 0, u401002] 33 (0, 0))) ∧ Aside0 (Below w.heap.size w w'))
 case atStart => exact ⟨(t401), (([] : List (S23))), (.slice none 0 0), (by first | rfl | (simp; done) | (simp [*]; done)), H', ⟨Nat.le_refl _⟩, ⟨by first | exact Kd.R_nil _ _ _ _ _ | exact Kd.N_nil _ _ _ _ _ | exact Kd.V_nil _ _ _ _ _ | exact Kd.Q_nil _ _ _ _ _ | exact Kd.S_nil _ _ _ _ _⟩, ⟨by (with_reducible repeat (first | refine blk_drewN ?_ _ | refine blk_drew ?_ | refine blk_alloc ?_ _)); refine blk_put (cs := #[.int .i64 0, .int .i64 0, .slice none 0 0]) ?_ 2 _ rfl; (with_reducible repeat (first | refine blk_drewN ?_ _ | refine blk_drew ?_ | refine blk_alloc ?_ _)); refine blk_put (cs := #[.int .i64 0, .int .i64 0, .slice none 0 0]) ?_ 1 _ rfl; (with_reducible repeat (first | refine blk_drewN ?_ _ | refine blk_drew ?_ | refine blk_alloc ?_ _)); refine blk_put (cs := #[.int .i64 0, .int .i64 0, .slice none 0 0]) ?_ 0 _ rfl; (with_reducible repeat (first | refine blk_drewN ?_ _ | refine blk_drew ?_ | refine blk_alloc ?_ _)); exact BK400.out⟩, ⟨by repeat (first | (with_reducible first | exact HB.out | apply below_alloc | apply pw_below_drewN | apply below_drew1 | refine below_set ?_ GE400.out) | exact HB.out)⟩⟩
 case round =>
  clear H'
  try clear c1
  try clear p2
  try clear c5
  try clear hcz5_0
  try clear hcz5_1
  try clear hcz5_2
  try clear hfz5_0
  try clear hfz5_1
  try clear hfz5_2
  obtain ⟨x6_1, x401002_1, u401002, rfl, HA, HK1, HO_401002, BK400, HB⟩ := hrel
  cases gk with
  | zero => exact absurd HA.out (by simp [awardingbodylaw12_BookletFull.l0])
  | succ k1 =>
   have H := HA.out
   clear HA
   simp only [awardingbodylaw12_BookletFull.l0] at H
   by_cases c6 : x6_1 > 0
   ·rw [if_pos c6] at H
    have c6b0 : decide (0 < x6_1) = true := decide_eq_true c6
    clear c6
    replace H := Option.bind_eq_some_iff.mp H
    obtain ⟨t402, A70, H⟩ := H
    replace H : (if x401002_1.length < 2932031007402 then (awardingbodylaw12_BookletFull.l0 k1 a1 (wrap64 (x6_1 - 1)) 0 0 (x401002_1 ++ [(⟨1, wrap64 (1 + t402), 0, 0, 0, 0⟩ : S23)])) else (none)) = some r := H
    have A7 := Aside0.mk A70
    clear A70
    by_cases c8 : x401002_1.length < 2932031007402
    ·rw [if_pos c8] at H
     have LMc8 := Aside0.mk c8
     clear c8
     obtain ⟨y403, hy403⟩ : ∃ y_ : List (S23), y_ = (x401002_1 ++ [(⟨1, wrap64 (1 + t402), 0, 0, 0, 0⟩ : S23)]) := ⟨_, rfl⟩
     replace H : (awardingbodylaw12_BookletFull.l0 k1 a1 (wrap64 (x6_1 - 1)) 0 0 y403) = some r := by first | (rw [hy403]; with_reducible exact H) | (have H2_ := (Option.bind_some _ _).symm.trans H; rw [hy403]; with_reducible exact H2_) | (have H2_ := (Option.bind_some _ _).symm.trans H; with_reducible exact H2_) | with_reducible exact H | (rw [hy403]; exact H) | exact H
     have Ny403 := Aside0.mk hy403
     clear hy403
     have H' := Aside0.mk H
     clear H
     try go_wp2
     have n0_ := Aside0.mk (Kd.R_drew HO_401002.out)
     have n1_ := Aside0.mk (blk_drew BK400.out)
     have n2_ := Aside0.mk (below_drew1 HB.out)
     clear HO_401002 BK400 HB
     have HO_401002 := n0_
     have BK400 := n1_
     have HB := n2_
     clear n0_ n1_ n2_
     refine start_ (n := 10) (S := fun w' => w'.cell? ⟨gb400, 0, none⟩ = some (.int .i64 0) ∧ w'.cell? ⟨gb400, 1, none⟩ = some (.int .i64 0) ∧ w'.cell? ⟨gb400, 2, none⟩ = some (u401002)) (ds := [9]) #[false, false, false, false, false, false, false, false, false, false] (by kernel_rfl) rfl rfl ⟨(blk_cell BK400.out 0).trans rfl, (blk_cell BK400.out 1).trans rfl, (blk_cell BK400.out 2).trans rfl⟩ (fun hHeld => ?_); refine with_tabW awardingbodylaw12_BookletFull.tab5 awardingbodylaw12_BookletFull.bits5 (fun HT_ HW_ => ?_)
     generalize wr.drew = w9 at HO_401002 BK400 HB hHeld ⊢
     refine pure_ (i := 0) (N := some 18) (v := ?_) (a' := ?_) #[true, false, false, false, false, false, false, false, false, false] rfl rfl (any_of HT_.out (by kernel_rfl)) (fun _ _ _ h => h) (Or.inl ⟨by rfl, ?_⟩) ?_ ?_
     rotate_left
     ·intro w'
      go_simp
      with_reducible rfl
     rotate_left
     ·simp only [Act.put, List.setIfInBounds_toArray, List.set_cons_zero, List.set_cons_succ, i64_w, i32_w]
      rfl
     refine pure_ (i := 2) (N := some 20) (v := ?_) (a' := ?_) #[true, false, true, false, false, false, false, false, false, false] rfl rfl (any_of HT_.out (by kernel_rfl)) (fun _ _ _ h => h) (Or.inl ⟨by rfl, ?_⟩) ?_ ?_
     rotate_left
     ·intro w'
      go_simp
      with_reducible rfl
     rotate_left
     ·simp only [Act.put, List.setIfInBounds_toArray, List.set_cons_zero, List.set_cons_succ, i64_w, i32_w]
      rfl
     refine take_ (i := 1) (N := some 19) (v := ?_) (a' := ?_) #[true, true, true, false, false, false, false, false, false, false] rfl rfl (take_ofW HT_.out HW_.out (by kernel_rfl)) (fun _ _ _ h => h) (Or.inl ⟨by rfl, ?_⟩) hHeld ?_ ?_
     rotate_left
     ·rintro w' ⟨s0, s1, s2⟩
      go_simp
      with_reducible rfl
     rotate_left
     ·simp only [Act.put, List.setIfInBounds_toArray, List.set_cons_zero, List.set_cons_succ, i64_w, i32_w]
      rfl
     refine one_ (i := 3) (N := some 21) #[true, true, true, true, false, false, false, false, false, false] rfl rfl (one_of HT_.out (by kernel_rfl)) (by decide) (fun K hK => ?_)
     refine goes_ Try.func11 (by kernel_rfl) rfl #[.int .i64 a1, .int .i64 40] (by rfl) rfl rfl (by (try simp only [List.map_toArray, List.map_cons, List.map_nil]); first | done | rfl | (simp only [List.length_drop, List.length_take]; rfl)) ?_
     with_reducible refine (awardingbodymake_Cut.calls a1 40 t402 _ A7.out).mono ?_
     rintro e w' ⟨rfl, ⟨nd, rfl⟩⟩
     refine ⟨_, rfl, ?_⟩
     refine hK.out _ _ ⟨(blk_cell BK400.out 0).trans rfl, (blk_cell BK400.out 1).trans rfl, (blk_cell BK400.out 2).trans rfl⟩ (fun hHeld => ?_)
     clear hK K
     refine norm_ (a' := ?_) ?_ ?_
     rotate_left
     ·show Act.put _ (some 21) _ = _
      simp only [Act.put, List.setIfInBounds_toArray, List.set_cons_zero, List.set_cons_succ, i64_w, i32_w]
      rfl
     refine pure_ (i := 4) (N := some 22) (v := ?_) (a' := ?_) #[true, true, true, true, true, false, false, false, false, false] rfl rfl (any_of HT_.out (by kernel_rfl)) (fun _ _ _ h => h) (Or.inl ⟨by rfl, ?_⟩) ?_ ?_
     rotate_left
     ·intro w'
      go_simp
      with_reducible rfl
     rotate_left
     ·simp only [Act.put, List.setIfInBounds_toArray, List.set_cons_zero, List.set_cons_succ, i64_w, i32_w]
      rfl
     refine pure_ (i := 5) (N := some 23) (v := ?_) (a' := ?_) #[true, true, true, true, true, true, false, false, false, false] rfl rfl (any_of HT_.out (by kernel_rfl)) (fun _ _ _ h => h) (Or.inl ⟨by rfl, ?_⟩) ?_ ?_
     rotate_left
     ·intro w'
      go_simp
      with_reducible rfl
     rotate_left
     ·simp only [Act.put, List.setIfInBounds_toArray, List.set_cons_zero, List.set_cons_succ, i64_w, i32_w]
      rfl
     refine one_ (i := 6) (N := some 24) #[true, true, true, true, true, true, true, false, false, false] rfl rfl (one_of HT_.out (by kernel_rfl)) (by decide) (fun K hK => ?_)
     refine value_ (w1 := ?_) (v := ?_) (by rfl) rfl ?_ ?_
     rotate_left 2
     ·go_simp
      constructor
      ·rfl
      ·rfl
     refine hK.out _ _ ⟨(blk_cell (blk_alloc BK400.out _) 0).trans rfl, (blk_cell (blk_alloc BK400.out _) 1).trans rfl, (blk_cell (blk_alloc BK400.out _) 2).trans rfl⟩ (fun hHeld => ?_)
     clear hK K
     refine norm_ (a' := ?_) ?_ ?_
     rotate_left
     ·show Act.put _ (some 24) _ = _
      simp only [Act.put, List.setIfInBounds_toArray, List.set_cons_zero, List.set_cons_succ, i64_w, i32_w]
      rfl
     refine one_ (i := 7) (N := some 25) #[true, true, true, true, true, true, true, true, false, false] rfl rfl (one_of HT_.out (by kernel_rfl)) (by decide) (fun K hK => ?_)
     refine Kd.R_append_step k23 (w0 := w) w.heap.size (by rfl) (.tmp 19) (.tmp 24) 31 23 (.agg #[(.int .i64 0), (.int .i64 0), (.int .i64 0), (.int .i64 0), (.int .i64 0), (.int .i64 0)]) 48 rfl Try.underlying31 info23 rfl (by decide) (by omega) u401002 x401002_1 (⟨1, wrap64 (1 + t402), 0, 0, 0, 0⟩ : S23) [.int .i64 1, .int .i64 (wrap64 (1 + t402)), .int .i64 0, .int .i64 0, .int .i64 0, .int .i64 0] (fun _ => True) (fun _ => False) rfl rfl ?aP (fun _ hk => hk.elim) ?aF ?aO ?aB ?aS ?aL ?_
     (case aP => exact k23_mkM _ _ _ (⟨1, wrap64 (1 + t402), 0, 0, 0, 0⟩ : S23))
     (case aB => exact (by repeat (first | (with_reducible first | exact HB.out | apply below_alloc | apply pw_below_drewN | apply below_drew1 | refine below_set ?_ GE400.out) | exact HB.out)))
     (case aF => exact (fun _ _ => trivial))
     (case aO => exact (by (with_reducible repeat (first | apply Kd.R_alloc | apply Kd.R_drewN | apply Kd.R_drew)); exact HO_401002.out))
     (case aS => exact (below_size (by repeat (first | (with_reducible first | exact HB.out | apply below_alloc | apply pw_below_drewN | apply below_drew1 | refine below_set ?_ GE400.out) | exact HB.out))))
     (case aL => have := LMc8.out; omega)
     intro v404 w10 ho hb hg hat
     rw [← Ny403.out] at ho
     have n0_ := Aside0.mk (blk_grown (g := gb400) (o := .cells #[.int .i64 0, .int .i64 0, u401002] 33 (0, 0)) (by (with_reducible repeat (first | refine blk_drewN ?_ _ | refine blk_drew ?_ | refine blk_alloc ?_ _)); exact BK400.out) hg (Kd.R_ne HO_401002.out BK400.out (by decide)))
     have n1_ := Aside0.mk (hb)
     have n2_ := Aside0.mk (ho)
     clear BK400 HB HO_401002
     have BK400 := n0_
     have HB := n1_
     have HO405 := n2_
     clear n0_ n1_ n2_ ho hb hg hat
     obtain ⟨Ao11, co11, eo11⟩ := Kd.R_slice HO405.out
     (first | subst eo11 | (injection eo11 with f1_ f2_ f3_; have f4_ := f1_.symm; have f5_ := f3_.symm; clear f1_ f2_ f3_; subst f4_; subst f5_))
     refine hK.out _ _ ⟨(blk_cell BK400.out 0).trans rfl, (blk_cell BK400.out 1).trans rfl, (blk_cell BK400.out 2).trans rfl⟩ (fun hHeld => ?_)
     clear hK K
     refine norm_ (a' := ?_) ?_ ?_
     rotate_left
     ·show Act.put _ (some 25) _ = _
      simp only [Act.put, List.setIfInBounds_toArray, List.set_cons_zero, List.set_cons_succ, i64_w, i32_w]
      rfl
     refine pure_ (i := 8) (N := some 26) (v := ?_) (a' := ?_) #[true, true, true, true, true, true, true, true, true, false] rfl rfl (any_of HT_.out (by kernel_rfl)) (fun _ _ _ h => h) (Or.inl ⟨by rfl, ?_⟩) ?_ ?_
     rotate_left
     ·intro w'
      go_simp
      with_reducible rfl
     rotate_left
     ·simp only [Act.put, List.setIfInBounds_toArray, List.set_cons_zero, List.set_cons_succ, i64_w, i32_w]
      rfl
     refine last_ (i := 9) (N := none) #[true, true, true, true, true, true, true, true, true, true] rfl rfl (one_of HT_.out (by kernel_rfl)) (by decide) (fun K hK => ?_)
     have hs12 : w10.cell? ⟨gb400, 2, none⟩ = some (u401002) := (blk_cell BK400.out 2).trans rfl
     have hfs12 := blk_frozen BK400.out 2
     refine skip_ (w1 := ?_) (by rfl) rfl ?_ ?_
     rotate_left
     ·go_simp
      rfl
     refine hK.out _ _ ?_
     clear hK K
     refine done_ (done_of HT_.out (by kernel_rfl)) ?_
     try go_wp2
     go_roundg k1
     case measure => have := HK1.out; omega
     case rel => exact ⟨(wrap64 (x6_1 - 1)), (y403), (.slice Ao11 y403.length co11), (by first | rfl | (simp; done) | (simp [*]; done)), H', ⟨by have := HK1.out; omega⟩, ⟨by (with_reducible repeat (first | apply Kd.R_alloc | apply Kd.R_drewN | apply Kd.R_drew)); exact Kd.R_mono (Kd.R_far (p := ⟨gb400, 2, none⟩) (Kd.R_types HO405.out BK400.out (by decide)) (fun _ hk => hk.2) (.slice Ao11 y403.length co11)) (fun _ hk => trivial)⟩, ⟨by (with_reducible repeat (first | refine blk_drewN ?_ _ | refine blk_drew ?_ | refine blk_alloc ?_ _)); refine blk_put (cs := #[.int .i64 0, .int .i64 0, u401002]) ?_ 2 _ rfl; (with_reducible repeat (first | refine blk_drewN ?_ _ | refine blk_drew ?_ | refine blk_alloc ?_ _)); exact BK400.out⟩, ⟨by repeat (first | (with_reducible first | exact HB.out | apply below_alloc | apply pw_below_drewN | apply below_drew1 | refine below_set ?_ GE400.out) | exact HB.out)⟩⟩
    ·rw [if_neg c8] at H
     exact absurd H (by simp)
   ·rw [if_neg c6] at H
    have c6b0 : decide (0 < x6_1) = false := decide_eq_false c6
    clear c6
    replace H := Option.bind_eq_some_iff.mp H
    obtain ⟨⟨t406, t409⟩, A130, H⟩ := H
    replace H : ((awardingbodyref12_Make.f k1 0 0 x401002_1).bind fun bt411 => ((awardingbodylaw12_same.f k1 t406 bt411.1).bind fun t416 => (if t416 = true then (if t409 = bt411.2 then ((awardingbodylaw12_awake.f k1).bind fun t417 => (some t417)) else (none)) else (none)))) = some r := H
    have A13 := Aside0.mk A130
    clear A130
    replace H := Option.bind_eq_some_iff.mp H
    obtain ⟨⟨t411, t414⟩, A140, H⟩ := H
    replace H : ((awardingbodylaw12_same.f k1 t406 t411).bind fun t416 => (if t416 = true then (if t409 = t414 then ((awardingbodylaw12_awake.f k1).bind fun t417 => (some t417)) else (none)) else (none))) = some r := H
    have A14 := Aside0.mk A140
    clear A140
    replace H := Option.bind_eq_some_iff.mp H
    obtain ⟨t416, A150, H⟩ := H
    replace H : (if t416 = true then (if t409 = t414 then ((awardingbodylaw12_awake.f k1).bind fun t417 => (some t417)) else (none)) else (none)) = some r := H
    have A15 := Aside0.mk A150
    clear A150
    by_cases c16 : t416 = true
    ·subst c16
     have H1 : (if t409 = t414 then ((awardingbodylaw12_awake.f k1).bind fun t417 => (some t417)) else (none)) = some r := by rw [if_pos rfl] at H; exact H
     clear H
     have H := H1
     clear H1
     by_cases c17 : t409 = t414
     ·rw [if_pos c17] at H
      have c17b0 : (t409 == t414) = true := beq_iff_eq.mpr c17
      have c17b1 : (t409 != t414) = false := bne_eq_false_iff_eq.mpr c17
      clear c17
      replace H := Option.bind_eq_some_iff.mp H
      obtain ⟨t417, A180, H⟩ := H
      replace H : (some t417) = some r := H
      have A18 := Aside0.mk A180
      clear A180
      obtain rfl := Option.some.inj H
      have hcz19_0 : wr.cell? ⟨gb400, 0, none⟩ = some (.int .i64 0) := (blk_cell BK400.out 0).trans rfl
      have hcz19_1 : wr.cell? ⟨gb400, 1, none⟩ = some (.int .i64 0) := (blk_cell BK400.out 1).trans rfl
      have hcz19_2 : wr.cell? ⟨gb400, 2, none⟩ = some (u401002) := (blk_cell BK400.out 2).trans rfl
      have hfz19_0 := blk_frozen BK400.out 0
      have hfz19_1 := blk_frozen BK400.out 1
      have hfz19_2 := blk_frozen BK400.out 2
      obtain ⟨Ao20, co20, eo20⟩ := Kd.R_slice HO_401002.out
      subst eo20
      go_wp2_with (first | ((with_reducible refine gate_callee (f := 18) rfl ?_); refine goesL_ (some 29) rfl rfl Try.func18 (by kernel_rfl) rfl #[.agg #[.int .i64 0, .int .i64 0, .slice Ao20 x401002_1.length co20]] rfl (by (try simp only [List.map_toArray, List.map_cons, List.map_nil]); first | done | rfl | (simp only [List.length_drop, List.length_take]; rfl)) ?_; (with_reducible refine (booklet_Make.calls k1 0 0 _ _ x401002_1 t406 t409 _ ?side1 ?side2 A13.out).mono ?_); (case side1 => repeat (first | exact (Kd.R_reads' HO_401002.out).2.2 | (with_reducible refine Kd.C_alloc ?_ _) | (with_reducible refine Kd.C_drewN ?_ _) | (with_reducible refine Kd.C_drew ?_))); (case side2 => exact (Kd.R_reads' HO_401002.out).2.1); rintro e w21 ⟨v407, rfl, ho0, hb⟩; refine ⟨_, rfl, ?_⟩; have n0_ := Aside0.mk (Kd.R_below (by (with_reducible repeat (first | apply Kd.R_alloc | apply Kd.R_drewN | apply Kd.R_drew)); exact HO_401002.out) hb); have n1_ := Aside0.mk (Kd.S_lower ho0 (below_size (by repeat (first | (with_reducible first | exact HB.out | apply below_alloc | apply pw_below_drewN | apply below_drew1 | refine below_set ?_ GE400.out) | exact HB.out)))); have n2_ := Aside0.mk (blk_below (g := gb400) (o := .cells #[.int .i64 0, .int .i64 0, .slice Ao20 x401002_1.length co20] 33 (0, 0)) (by (with_reducible repeat (first | refine blk_drewN ?_ _ | refine blk_drew ?_ | refine blk_alloc ?_ _)); exact BK400.out) hb); have n3_ := Aside0.mk (below_step (by repeat (first | (with_reducible first | exact HB.out | apply below_alloc | apply pw_below_drewN | apply below_drew1 | refine below_set ?_ GE400.out) | exact HB.out)) hb); clear HO_401002 BK400 HB; have HO_401002 := n0_; have HO408 := n1_; have BK400 := n2_; have HB := n3_; clear n0_ n1_ n2_ n3_; (try clear hb); (try clear hb2); (try clear hk); (try clear hi); (try clear ho0)) | ((with_reducible refine gate_dst (N := 7) rfl ?_); refine box_event ?hg (N := 7) ?hd (cs := #[.slice none 0 0]) (t := 38) ?hr ?_; (case hd => rfl); (case hg => rfl); (case hr => first | (go_simp; done) | (go_simp; rfl)); intro gb410 hg w22 hbox hb; have n0_ := Aside0.mk (Kd.R_below (by (with_reducible repeat (first | apply Kd.R_alloc | apply Kd.R_drewN | apply Kd.R_drew)); exact HO_401002.out) hb); have n1_ := Aside0.mk (Kd.S_below (by (with_reducible repeat (first | apply Kd.S_alloc | apply Kd.S_drewN | apply Kd.S_drew)); exact HO408.out) hb); have n2_ := Aside0.mk (blk_below (g := gb400) (o := .cells #[.int .i64 0, .int .i64 0, .slice Ao20 x401002_1.length co20] 33 (0, 0)) (by (with_reducible repeat (first | refine blk_drewN ?_ _ | refine blk_drew ?_ | refine blk_alloc ?_ _)); exact BK400.out) hb); have n3_ := Aside0.mk (below_step (by repeat (first | (with_reducible first | exact HB.out | apply below_alloc | apply pw_below_drewN | apply below_drew1 | refine below_set ?_ GE400.out) | exact HB.out)) hb); have n4_ := Aside0.mk (hbox); have n5_ := Aside0.mk ((by rw [hg]; exact (below_size (by repeat (first | (with_reducible first | exact HB.out | apply below_alloc | apply pw_below_drewN | apply below_drew1 | refine below_set ?_ GE400.out) | exact HB.out))) : w.heap.size ≤ gb410)); have n6_ := Aside0.mk ((by rw [hg]; exact (below_size (by repeat (first | (with_reducible first | exact HB.out | apply below_alloc | apply pw_below_drewN | apply below_drew1 | refine below_set ?_ GE400.out) | exact HB.out))) : w.heap.size ≤ gb410)); have n7_ := Aside0.mk ((by rw [hg]; exact Nat.ne_of_lt (blk_lt (g := gb400) (o := .cells #[.int .i64 0, .int .i64 0, .slice Ao20 x401002_1.length co20] 33 (0, 0)) (by (with_reducible repeat (first | refine blk_drewN ?_ _ | refine blk_drew ?_ | refine blk_alloc ?_ _)); exact BK400.out)) : gb400 ≠ gb410)); have n8_ := Aside0.mk ((by rw [hg]; exact Nat.ne_of_gt (blk_lt (g := gb400) (o := .cells #[.int .i64 0, .int .i64 0, .slice Ao20 x401002_1.length co20] 33 (0, 0)) (by (with_reducible repeat (first | refine blk_drewN ?_ _ | refine blk_drew ?_ | refine blk_alloc ?_ _)); exact BK400.out)) : gb410 ≠ gb400)); clear HO_401002 HO408 BK400 HB; have HO_401002 := n0_; have HO408 := n1_; have BK400 := n2_; have HB := n3_; have BK410 := n4_; have GW410 := n5_; have GE410 := n6_; have NB400_410 := n7_; have NB410_400 := n8_; clear n0_ n1_ n2_ n3_ n4_ n5_ n6_ n7_ n8_ hb hbox hg; obtain ⟨Ao23, co23, eo23⟩ := Kd.S_slice HO408.out; subst eo23; have hnb24 := NB410_400.out; have hnc24 := NB400_410.out; have hcz25_0 : w22.cell? ⟨gb410, 0, none⟩ = some (.slice none 0 0) := (blk_cell BK410.out 0).trans rfl; have hfz25_0 := blk_frozen BK410.out 0; have hcz26_0 : w22.cell? ⟨gb400, 0, none⟩ = some (.int .i64 0) := (blk_cell BK400.out 0).trans rfl; have hcz26_1 : w22.cell? ⟨gb400, 1, none⟩ = some (.int .i64 0) := (blk_cell BK400.out 1).trans rfl; have hcz26_2 : w22.cell? ⟨gb400, 2, none⟩ = some (.slice Ao20 x401002_1.length co20) := (blk_cell BK400.out 2).trans rfl; have hfz26_0 := blk_frozen BK400.out 0; have hfz26_1 := blk_frozen BK400.out 1; have hfz26_2 := blk_frozen BK400.out 2) | ((with_reducible refine gate_callee (f := 19) rfl ?_); refine goesL_ (some 34) rfl rfl Try.func19 (by kernel_rfl) rfl #[.agg #[.int .i64 0, .int .i64 0, .slice Ao20 x401002_1.length co20]] rfl (by (try simp only [List.map_toArray, List.map_cons, List.map_nil]); first | done | rfl | (simp only [List.length_drop, List.length_take]; rfl)) ?_; (with_reducible refine (awardingbodyref12_Make.calls k1 0 0 _ _ x401002_1 t411 t414 _ ?side1 ?side2 A14.out).mono ?_); (case side1 => refine (Kd.R_reads' (e := 23) (base := w.heap.size) (ok := fun k_ => True) (n := x401002_1.length) (c := co20) ?_).2.2; exact (by (with_reducible repeat (first | apply Kd.R_alloc | apply Kd.R_drewN | apply Kd.R_drew)); exact (Kd.R_mono (Kd.R_far (p := ⟨gb410, 0, none⟩) (Kd.R_types HO_401002.out BK410.out (by decide)) (fun _ hk => hk.2) (.slice Ao23 t406.length co23)) (fun _ h_ => h_.1)))); (case side2 => exact (Kd.R_reads' HO_401002.out).2.1); rintro e w27 ⟨v412, rfl, ho0, hb⟩; refine ⟨_, rfl, ?_⟩; have n0_ := Aside0.mk (Kd.R_below (by (with_reducible repeat (first | apply Kd.R_alloc | apply Kd.R_drewN | apply Kd.R_drew)); exact (Kd.R_mono (Kd.R_far (p := ⟨gb410, 0, none⟩) (Kd.R_types HO_401002.out BK410.out (by decide)) (fun _ hk => hk.2) (.slice Ao23 t406.length co23)) (fun _ h_ => h_.1))) hb); have n1_ := Aside0.mk (Kd.S_elder' (by (with_reducible repeat (first | apply Kd.S_alloc | apply Kd.S_drewN | apply Kd.S_drew)); exact (Kd.S_mono (Kd.S_far (p := ⟨gb410, 0, none⟩) (Kd.S_types HO408.out BK410.out (by decide)) (fun _ hk => hk.2) (.slice Ao23 t406.length co23)) (fun _ h_ => h_.1))) (Kd.S_base ho0) hb); have n2_ := Aside0.mk (Kd.S_lower (Kd.S_new' ho0 (Kd.S_lt (by (with_reducible repeat (first | apply Kd.S_alloc | apply Kd.S_drewN | apply Kd.S_drew)); exact (Kd.S_mono (Kd.S_far (p := ⟨gb410, 0, none⟩) (Kd.S_types HO408.out BK410.out (by decide)) (fun _ hk => hk.2) (.slice Ao23 t406.length co23)) (fun _ h_ => h_.1))))) (below_size (by repeat (first | (with_reducible first | exact HB.out | apply below_alloc | apply pw_below_drewN | apply below_drew1 | refine below_set ?_ GE400.out | refine below_set ?_ GE410.out) | exact HB.out)))); have n3_ := Aside0.mk (blk_below (g := gb400) (o := .cells #[.int .i64 0, .int .i64 0, .slice Ao20 x401002_1.length co20] 33 (0, 0)) (by (with_reducible repeat (first | refine blk_drewN ?_ _ | refine blk_drew ?_ | refine blk_alloc ?_ _)); refine blk_far ?_ NB400_410.out _; (with_reducible repeat (first | refine blk_drewN ?_ _ | refine blk_drew ?_ | refine blk_alloc ?_ _)); exact BK400.out) hb); have n4_ := Aside0.mk (blk_below (g := gb410) (o := .cells #[.slice Ao23 t406.length co23] 38 (0, 0)) (by (with_reducible repeat (first | refine blk_drewN ?_ _ | refine blk_drew ?_ | refine blk_alloc ?_ _)); refine blk_put (cs := #[.slice none 0 0]) ?_ 0 _ rfl; (with_reducible repeat (first | refine blk_drewN ?_ _ | refine blk_drew ?_ | refine blk_alloc ?_ _)); exact BK410.out) hb); have n5_ := Aside0.mk (below_step (by repeat (first | (with_reducible first | exact HB.out | apply below_alloc | apply pw_below_drewN | apply below_drew1 | refine below_set ?_ GE400.out | refine below_set ?_ GE410.out) | exact HB.out)) hb); clear HO_401002 HO408 BK400 BK410 HB; have HO_401002 := n0_; have HO408 := n1_; have HO413 := n2_; have BK400 := n3_; have BK410 := n4_; have HB := n5_; clear n0_ n1_ n2_ n3_ n4_ n5_; (try clear hb); (try clear hb2); (try clear hk); (try clear hi); (try clear ho0)) | ((with_reducible refine gate_dst (N := 9) rfl ?_); refine box_event ?hg (N := 9) ?hd (cs := #[.slice none 0 0]) (t := 38) ?hr ?_; (case hd => rfl); (case hg => rfl); (case hr => first | (go_simp; done) | (go_simp; rfl)); intro gb415 hg w28 hbox hb; have n0_ := Aside0.mk (Kd.R_below (by (with_reducible repeat (first | apply Kd.R_alloc | apply Kd.R_drewN | apply Kd.R_drew)); exact HO_401002.out) hb); have n1_ := Aside0.mk (Kd.S_below (by (with_reducible repeat (first | apply Kd.S_alloc | apply Kd.S_drewN | apply Kd.S_drew)); exact HO408.out) hb); have n2_ := Aside0.mk (Kd.S_below (by (with_reducible repeat (first | apply Kd.S_alloc | apply Kd.S_drewN | apply Kd.S_drew)); exact HO413.out) hb); have n3_ := Aside0.mk (blk_below (g := gb400) (o := .cells #[.int .i64 0, .int .i64 0, .slice Ao20 x401002_1.length co20] 33 (0, 0)) (by (with_reducible repeat (first | refine blk_drewN ?_ _ | refine blk_drew ?_ | refine blk_alloc ?_ _)); exact BK400.out) hb); have n4_ := Aside0.mk (blk_below (g := gb410) (o := .cells #[.slice Ao23 t406.length co23] 38 (0, 0)) (by (with_reducible repeat (first | refine blk_drewN ?_ _ | refine blk_drew ?_ | refine blk_alloc ?_ _)); exact BK410.out) hb); have n5_ := Aside0.mk (below_step (by repeat (first | (with_reducible first | exact HB.out | apply below_alloc | apply pw_below_drewN | apply below_drew1 | refine below_set ?_ GE400.out | refine below_set ?_ GE410.out) | exact HB.out)) hb); have n6_ := Aside0.mk (hbox); have n7_ := Aside0.mk ((by rw [hg]; exact (below_size (by repeat (first | (with_reducible first | exact HB.out | apply below_alloc | apply pw_below_drewN | apply below_drew1 | refine below_set ?_ GE400.out | refine below_set ?_ GE410.out) | exact HB.out))) : w.heap.size ≤ gb415)); have n8_ := Aside0.mk ((by rw [hg]; exact (below_size (by repeat (first | (with_reducible first | exact HB.out | apply below_alloc | apply pw_below_drewN | apply below_drew1 | refine below_set ?_ GE400.out | refine below_set ?_ GE410.out) | exact HB.out))) : w.heap.size ≤ gb415)); have n9_ := Aside0.mk ((by rw [hg]; exact Nat.ne_of_lt (blk_lt (g := gb400) (o := .cells #[.int .i64 0, .int .i64 0, .slice Ao20 x401002_1.length co20] 33 (0, 0)) (by (with_reducible repeat (first | refine blk_drewN ?_ _ | refine blk_drew ?_ | refine blk_alloc ?_ _)); exact BK400.out)) : gb400 ≠ gb415)); have n10_ := Aside0.mk ((by rw [hg]; exact Nat.ne_of_gt (blk_lt (g := gb400) (o := .cells #[.int .i64 0, .int .i64 0, .slice Ao20 x401002_1.length co20] 33 (0, 0)) (by (with_reducible repeat (first | refine blk_drewN ?_ _ | refine blk_drew ?_ | refine blk_alloc ?_ _)); exact BK400.out)) : gb415 ≠ gb400)); have n11_ := Aside0.mk ((by rw [hg]; exact Nat.ne_of_lt (blk_lt (g := gb410) (o := .cells #[.slice Ao23 t406.length co23] 38 (0, 0)) (by (with_reducible repeat (first | refine blk_drewN ?_ _ | refine blk_drew ?_ | refine blk_alloc ?_ _)); exact BK410.out)) : gb410 ≠ gb415)); have n12_ := Aside0.mk ((by rw [hg]; exact Nat.ne_of_gt (blk_lt (g := gb410) (o := .cells #[.slice Ao23 t406.length co23] 38 (0, 0)) (by (with_reducible repeat (first | refine blk_drewN ?_ _ | refine blk_drew ?_ | refine blk_alloc ?_ _)); exact BK410.out)) : gb415 ≠ gb410)); clear HO_401002 HO408 HO413 BK400 BK410 HB; have HO_401002 := n0_; have HO408 := n1_; have HO413 := n2_; have BK400 := n3_; have BK410 := n4_; have HB := n5_; have BK415 := n6_; have GW415 := n7_; have GE415 := n8_; have NB400_415 := n9_; have NB415_400 := n10_; have NB410_415 := n11_; have NB415_410 := n12_; clear n0_ n1_ n2_ n3_ n4_ n5_ n6_ n7_ n8_ n9_ n10_ n11_ n12_ hb hbox hg; obtain ⟨Ao29, co29, eo29⟩ := Kd.S_slice HO413.out; subst eo29; have hnb30 := NB415_400.out; have hnc30 := NB400_415.out; have hnb31 := NB415_410.out; have hnc31 := NB410_415.out; have hcz32_0 : w28.cell? ⟨gb415, 0, none⟩ = some (.slice none 0 0) := (blk_cell BK415.out 0).trans rfl; have hfz32_0 := blk_frozen BK415.out 0; have hcz33_0 : w28.cell? ⟨gb410, 0, none⟩ = some (.slice Ao23 t406.length co23) := (blk_cell BK410.out 0).trans rfl; have hfz33_0 := blk_frozen BK410.out 0) | ((with_reducible refine gate_callee (f := 20) rfl ?_); refine goesL_ (some 39) rfl rfl Try.func20 (by kernel_rfl) rfl #[.agg #[.slice Ao23 t406.length co23], .agg #[.slice Ao29 t411.length co29]] rfl (by (try simp only [List.map_toArray, List.map_cons, List.map_nil]); first | done | rfl | (simp only [List.length_drop, List.length_take]; rfl)) ?_; (with_reducible refine (awardingbodylaw12_same.calls k1 _ _ t406 _ _ t411 true _ ?side1 ?side2 ?side3 ?side4 A15.out).mono ?_); (case side1 => refine (Kd.S_reads' (e := 28) (base := w.heap.size) (ok := fun k_ => (True ∧ some k_ ≠ (.slice Ao29 t411.length co29 : Value).ownBlock)) (n := t406.length) (c := co23) ?_).2.2; exact (by (with_reducible repeat (first | apply Kd.S_alloc | apply Kd.S_drewN | apply Kd.S_drew)); exact (Kd.S_mono (Kd.S_far (p := ⟨gb415, 0, none⟩) (Kd.S_types HO408.out BK415.out (by decide)) (fun _ hk => hk.2) (.slice Ao29 t411.length co29)) (fun _ h_ => h_.1)))); (case side2 => exact (Kd.S_reads' HO408.out).2.1); (case side3 => refine (Kd.S_reads' (e := 28) (base := w.heap.size) (ok := fun k_ => (True ∧ some k_ ≠ (.slice Ao23 t406.length co23 : Value).ownBlock)) (n := t411.length) (c := co29) ?_).2.2; exact (by (with_reducible repeat (first | apply Kd.S_alloc | apply Kd.S_drewN | apply Kd.S_drew)); exact (Kd.S_mono (Kd.S_far (p := ⟨gb415, 0, none⟩) (Kd.S_types HO413.out BK415.out (by decide)) (fun _ hk => hk.2) (.slice Ao29 t411.length co29)) (fun _ h_ => h_.1)))); (case side4 => exact (Kd.S_reads' HO413.out).2.1); rintro e w34 ⟨rfl, hb⟩; refine ⟨_, rfl, ?_⟩; have n0_ := Aside0.mk (Kd.R_below (by (with_reducible repeat (first | apply Kd.R_alloc | apply Kd.R_drewN | apply Kd.R_drew)); exact (Kd.R_mono (Kd.R_far (p := ⟨gb415, 0, none⟩) (Kd.R_types HO_401002.out BK415.out (by decide)) (fun _ hk => hk.2) (.slice Ao29 t411.length co29)) (fun _ h_ => h_.1))) hb); have n1_ := Aside0.mk (Kd.S_below (by (with_reducible repeat (first | apply Kd.S_alloc | apply Kd.S_drewN | apply Kd.S_drew)); exact (Kd.S_mono (Kd.S_far (p := ⟨gb415, 0, none⟩) (Kd.S_types HO408.out BK415.out (by decide)) (fun _ hk => hk.2) (.slice Ao29 t411.length co29)) (fun _ h_ => h_.1))) hb); have n2_ := Aside0.mk (Kd.S_below (by (with_reducible repeat (first | apply Kd.S_alloc | apply Kd.S_drewN | apply Kd.S_drew)); exact (Kd.S_mono (Kd.S_far (p := ⟨gb415, 0, none⟩) (Kd.S_types HO413.out BK415.out (by decide)) (fun _ hk => hk.2) (.slice Ao29 t411.length co29)) (fun _ h_ => h_.1))) hb); have n3_ := Aside0.mk (blk_below (g := gb400) (o := .cells #[.int .i64 0, .int .i64 0, .slice Ao20 x401002_1.length co20] 33 (0, 0)) (by (with_reducible repeat (first | refine blk_drewN ?_ _ | refine blk_drew ?_ | refine blk_alloc ?_ _)); refine blk_far ?_ NB400_415.out _; (with_reducible repeat (first | refine blk_drewN ?_ _ | refine blk_drew ?_ | refine blk_alloc ?_ _)); exact BK400.out) hb); have n4_ := Aside0.mk (blk_below (g := gb410) (o := .cells #[.slice Ao23 t406.length co23] 38 (0, 0)) (by (with_reducible repeat (first | refine blk_drewN ?_ _ | refine blk_drew ?_ | refine blk_alloc ?_ _)); refine blk_far ?_ NB410_415.out _; (with_reducible repeat (first | refine blk_drewN ?_ _ | refine blk_drew ?_ | refine blk_alloc ?_ _)); exact BK410.out) hb); have n5_ := Aside0.mk (blk_below (g := gb415) (o := .cells #[.slice Ao29 t411.length co29] 38 (0, 0)) (by (with_reducible repeat (first | refine blk_drewN ?_ _ | refine blk_drew ?_ | refine blk_alloc ?_ _)); refine blk_put (cs := #[.slice none 0 0]) ?_ 0 _ rfl; (with_reducible repeat (first | refine blk_drewN ?_ _ | refine blk_drew ?_ | refine blk_alloc ?_ _)); exact BK415.out) hb); have n6_ := Aside0.mk (below_step (by repeat (first | (with_reducible first | exact HB.out | apply below_alloc | apply pw_below_drewN | apply below_drew1 | refine below_set ?_ GE400.out | refine below_set ?_ GE410.out | refine below_set ?_ GE415.out) | exact HB.out)) hb); clear HO_401002 HO408 HO413 BK400 BK410 BK415 HB; have HO_401002 := n0_; have HO408 := n1_; have HO413 := n2_; have BK400 := n3_; have BK410 := n4_; have BK415 := n5_; have HB := n6_; clear n0_ n1_ n2_ n3_ n4_ n5_ n6_; (try clear hb); (try clear hb2); (try clear hk); (try clear hi)) | (go_at_call 14; (with_reducible refine (awardingbodylaw12_awake.calls k1  t417 _ A18.out).mono ?_); rintro e w35 ⟨rfl, hb⟩; have n0_ := Aside0.mk (Kd.R_below (by (with_reducible repeat (first | apply Kd.R_alloc | apply Kd.R_drewN | apply Kd.R_drew)); exact HO_401002.out) hb); have n1_ := Aside0.mk (Kd.S_below (by (with_reducible repeat (first | apply Kd.S_alloc | apply Kd.S_drewN | apply Kd.S_drew)); exact HO408.out) hb); have n2_ := Aside0.mk (Kd.S_below (by (with_reducible repeat (first | apply Kd.S_alloc | apply Kd.S_drewN | apply Kd.S_drew)); exact HO413.out) hb); have n3_ := Aside0.mk (blk_below (g := gb400) (o := .cells #[.int .i64 0, .int .i64 0, .slice Ao20 x401002_1.length co20] 33 (0, 0)) (by (with_reducible repeat (first | refine blk_drewN ?_ _ | refine blk_drew ?_ | refine blk_alloc ?_ _)); exact BK400.out) hb); have n4_ := Aside0.mk (blk_below (g := gb410) (o := .cells #[.slice Ao23 t406.length co23] 38 (0, 0)) (by (with_reducible repeat (first | refine blk_drewN ?_ _ | refine blk_drew ?_ | refine blk_alloc ?_ _)); exact BK410.out) hb); have n5_ := Aside0.mk (blk_below (g := gb415) (o := .cells #[.slice Ao29 t411.length co29] 38 (0, 0)) (by (with_reducible repeat (first | refine blk_drewN ?_ _ | refine blk_drew ?_ | refine blk_alloc ?_ _)); exact BK415.out) hb); have n6_ := Aside0.mk (below_step (by repeat (first | (with_reducible first | exact HB.out | apply below_alloc | apply pw_below_drewN | apply below_drew1 | refine below_set ?_ GE400.out | refine below_set ?_ GE410.out | refine below_set ?_ GE415.out) | exact HB.out)) hb); clear HO_401002 HO408 HO413 BK400 BK410 BK415 HB; have HO_401002 := n0_; have HO408 := n1_; have HO413 := n2_; have BK400 := n3_; have BK410 := n4_; have BK415 := n5_; have HB := n6_; clear n0_ n1_ n2_ n3_ n4_ n5_ n6_; (try clear hb); (try clear hb2); (try clear hk); (try clear hi)))
      go_ret
      exact ⟨by first | rfl | (simp [errW_none, errW_some] <;> rfl) | (simp [*, errW_none, errW_some] <;> rfl), by repeat (first | (with_reducible first | exact HB.out | apply below_alloc | apply pw_below_drewN | apply below_drew1 | refine below_set ?_ GE400.out | refine below_set ?_ GE410.out | refine below_set ?_ GE415.out) | exact HB.out)⟩
     ·rw [if_neg c17] at H
      exact absurd H (by simp)
    ·replace c16 := Bool.eq_false_iff.mpr c16
     subst c16
     have H1 : (none) = some r := by rw [if_neg (show ¬ (false = true) by decide)] at H; exact H
     clear H
     have H := H1
     clear H1
     exact absurd H (by simp)

/-- THE ONE PURE STATEMENT of awardingbodylaw12_BookletFull: yours. -/
def awardingbodylaw12_BookletFull.Pure : Prop := ∀ (a0 : Int) (a1 : Int), (Lit.int .i64 a0).wf = true → (Lit.int .i64 a1).wf = true → ∃ k, awardingbodylaw12_BookletFull.f k a0 a1 = some true
theorem awardingbodylaw12_BookletFull.walk (P : awardingbodylaw12_BookletFull.Pure) (a0 : Int) (a1 : Int) (w : World) (w0 : (Lit.int .i64 a0).wf = true) (w1 : (Lit.int .i64 a1).wf = true) :
  Calls Try.prog 5 #[.int .i64 a0, .int .i64 a1] w fun e w' => e = .returned (.bool true) ∧ Below w.heap.size w w' := by
 obtain ⟨k, h⟩ := P a0 a1 w0 w1
 refine (awardingbodylaw12_BookletFull.calls k a0 a1 true w h).mono ?_
 rintro e w' ⟨rfl, hd⟩
 exact ⟨rfl, hd⟩

end Go.Proofs.Ytdmlbgdefapcjaa.Print
