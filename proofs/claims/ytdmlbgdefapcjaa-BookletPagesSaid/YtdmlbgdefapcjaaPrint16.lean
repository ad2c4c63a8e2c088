-- Printed by a program of this session (wip/own_print.py) out of the translation; Lean checks it.
import Derived.Test.YtdmlbgdefapcjaaShort
import Derived.Test.YtdmlbgdefapcjaaPrint0
import Derived.Test.YtdmlbgdefapcjaaPrint3
import Derived.Test.YtdmlbgdefapcjaaPrint14
namespace Go.Proofs.Ytdmlbgdefapcjaa.Print
open Go.RowKit Go.Proofs.YtdmlbgdefapcjaaW.PrintWords Go.Proofs.YtdmlbgdefapcjaaW.PrintLast Go.Proofs.YtdmlbgdefapcjaaW.PrintMore
attribute [local go_sem] max2_int min2_int max_two min_two max_three min_three max_four min_four   -- for this text's walks alone
set_option linter.unusedVariables false
set_option linter.unusedSimpArgs false

/-! ### awardingbodyref12_Make: function 19 -/
mutual
def awardingbodyref12_Make.l0 : Nat → List (List Int) → Int → Int → Int → Int → List (S23) → Option ((List (List Int)) × Int)
  | 0, _, _, _, _, _, _ => none
  | k + 1, x4, x5, x6, x332000, x332001, x332002 => if x6 < (x332002.length : Int) then (if 0 ≤ x6 then ((awardingbodyref12_Need.f k ((rd_T23 x332002 x6).f0) ((rd_T23 x332002 x6).f1) ((rd_T23 x332002 x6).f2) ((rd_T23 x332002 x6).f3) ((rd_T23 x332002 x6).f4) ((rd_T23 x332002 x6).f5)).bind fun t338 => (if t338 > x5 then (if x4.length < 5864062014805 then ((some (x4 ++ [[]] : List (List Int))).bind fun y339 => (if 0 ≤ (wrap64 ((y339.length : Int) - 1)) then (if (wrap64 ((y339.length : Int) - 1)) < (y339.length : Int) then (if (rd_L2 y339 (wrap64 ((y339.length : Int) - 1))).length < 17592186044416 then (awardingbodyref12_Make.l0 k (y339.set ((wrap64 ((y339.length : Int) - 1)) : Int).toNat ((rd_L2 y339 (wrap64 ((y339.length : Int) - 1))) ++ [x6])) (wrap64 (30 - t338)) (wrap64 (x6 + 1)) x332000 x332001 x332002) else (none)) else (none)) else (none))) else (none)) else (if 0 ≤ (wrap64 ((x4.length : Int) - 1)) then (if (wrap64 ((x4.length : Int) - 1)) < (x4.length : Int) then (if (rd_L2 x4 (wrap64 ((x4.length : Int) - 1))).length < 17592186044416 then (awardingbodyref12_Make.l0 k (x4.set ((wrap64 ((x4.length : Int) - 1)) : Int).toNat ((rd_L2 x4 (wrap64 ((x4.length : Int) - 1))) ++ [x6])) (wrap64 (x5 - t338)) (wrap64 (x6 + 1)) x332000 x332001 x332002) else (none)) else (none)) else (none)))) else (none)) else (awardingbodyref12_Make.l1 k x4)
def awardingbodyref12_Make.l1 : Nat → List (List Int) → Option ((List (List Int)) × Int)
  | 0, _ => none
  | k + 1, x4 => if ((x4.length : Int) % 4) = 0 then (if (x4.length : Int) > 12 then (some (([] : List (List Int)), 3)) else (some (x4, 0))) else (if x4.length < 5864062014805 then (awardingbodyref12_Make.l1 k (x4 ++ [[]])) else (none))
end
def awardingbodyref12_Make.f (k : Nat) (a0_0 : Int) (a0_1 : Int) (l0_2 : List (S23)) : Option ((List (List Int)) × Int) := (awardingbodyref06_ValidPaper.f k a0_0 a0_1 l0_2).bind fun t333 => (if t333 = true then (awardingbodyref12_Make.l0 k (([[], []] : List (List Int))) 30 0 a0_0 a0_1 l0_2) else (some (([] : List (List Int)), 1)))
theorem awardingbodyref12_Make.mono_l : ∀ k, (∀ y0 y1 y2 y3 y4 y5, LeO (awardingbodyref12_Make.l0 k y0 y1 y2 y3 y4 y5) (awardingbodyref12_Make.l0 (k + 1) y0 y1 y2 y3 y4 y5)) ∧ (∀ y0, LeO (awardingbodyref12_Make.l1 k y0) (awardingbodyref12_Make.l1 (k + 1) y0))
  | 0 => ⟨fun _ _ _ _ _ _ r h => by simp [awardingbodyref12_Make.l0] at h, fun _ r h => by simp [awardingbodyref12_Make.l1] at h⟩
  | k + 1 => by
    obtain ⟨ih0, ih1⟩ := awardingbodyref12_Make.mono_l k
    refine ⟨?_, ?_⟩
    · intro y0 y1 y2 y3 y4 y5
      unfold awardingbodyref12_Make.l0
      repeat' first
      | (with_reducible exact ih0 _ _ _ _ _ _)
      | (with_reducible exact ih1 _)
      | (with_reducible exact awardingbodyref06_ValidPaper.mono _ _ _ _)
      | (with_reducible exact awardingbodyref12_Need.mono _ _ _ _ _ _ _)
      | (with_reducible exact LeO.refl _)
      | (with_reducible exact LeO.none _)
      | (with_reducible refine LeO.ite ?_ ?_)
      | (with_reducible refine LeO.bind ?_ (fun _ => ?_))
      | exact ih0 _ _ _ _ _ _
      | exact ih1 _
      | exact awardingbodyref06_ValidPaper.mono _ _ _ _
      | exact awardingbodyref12_Need.mono _ _ _ _ _ _ _
      | exact LeO.none _
      | refine LeO.ite ?_ ?_
      | refine LeO.bind ?_ (fun _ => ?_)
    · intro y0
      unfold awardingbodyref12_Make.l1
      repeat' first
      | (with_reducible exact ih0 _ _ _ _ _ _)
      | (with_reducible exact ih1 _)
      | (with_reducible exact awardingbodyref06_ValidPaper.mono _ _ _ _)
      | (with_reducible exact awardingbodyref12_Need.mono _ _ _ _ _ _ _)
      | (with_reducible exact LeO.refl _)
      | (with_reducible exact LeO.none _)
      | (with_reducible refine LeO.ite ?_ ?_)
      | (with_reducible refine LeO.bind ?_ (fun _ => ?_))
      | exact ih0 _ _ _ _ _ _
      | exact ih1 _
      | exact awardingbodyref06_ValidPaper.mono _ _ _ _
      | exact awardingbodyref12_Need.mono _ _ _ _ _ _ _
      | exact LeO.none _
      | refine LeO.ite ?_ ?_
      | refine LeO.bind ?_ (fun _ => ?_)
theorem awardingbodyref12_Make.mono : ∀ a0 a1 a2 k, LeO (awardingbodyref12_Make.f k a0 a1 a2) (awardingbodyref12_Make.f (k + 1) a0 a1 a2) := by
  intro a0 a1 a2 k
  obtain ⟨ih0, ih1⟩ := awardingbodyref12_Make.mono_l k
  unfold awardingbodyref12_Make.f
  repeat' first
      | (with_reducible exact ih0 _ _ _ _ _ _)
      | (with_reducible exact ih1 _)
      | (with_reducible exact awardingbodyref06_ValidPaper.mono _ _ _ _)
      | (with_reducible exact awardingbodyref12_Need.mono _ _ _ _ _ _ _)
      | (with_reducible exact LeO.refl _)
      | (with_reducible exact LeO.none _)
      | (with_reducible refine LeO.ite ?_ ?_)
      | (with_reducible refine LeO.bind ?_ (fun _ => ?_))
      | exact ih0 _ _ _ _ _ _
      | exact ih1 _
      | exact awardingbodyref06_ValidPaper.mono _ _ _ _
      | exact awardingbodyref12_Need.mono _ _ _ _ _ _ _
      | exact LeO.none _
      | refine LeO.ite ?_ ?_
      | refine LeO.bind ?_ (fun _ => ?_)
set_option maxHeartbeats 8000000 in
set_option maxRecDepth 100000 in
theorem awardingbodyref12_Make.calls (k : Nat) (a0_0 : Int) (a0_1 : Int) (A0_2 : Option Addr) (c0_2 : Nat) (l0_2 : List (S23)) (r1 : List (List Int)) (r2 : Int) (w : World) (hr0_2 : Kd.C k23 w A0_2 l0_2.length l0_2) (hc0_2 : l0_2.length ≤ c0_2) (h : awardingbodyref12_Make.f k a0_0 a0_1 l0_2 = some (r1, r2)) :
    Calls Try.prog 19 #[.agg #[.int .i64 a0_0, .int .i64 a0_1, .slice A0_2 l0_2.length c0_2]] w fun e w' => ∃ v0_ : Value, e = .returned (.tuple #[.agg #[v0_], .int .i64 r2]) ∧ Kd.S (Kd.slice 3 (Kd.int .i64)) 28 w' w.heap.size (fun _ => True) v0_ r1 ∧ Below w.heap.size w w' := by
 have hu33 := Try.underlying33
 have hu38 := Try.underlying38
 have hu23 := Try.underlying23
 have HR0_2 := za hr0_2
 have HC0_2 := za hc0_2
 clear hr0_2 hc0_2
 have HB := za (Below.refl w.heap.size w)
 have H : ((awardingbodyref06_ValidPaper.f k a0_0 a0_1 l0_2).bind fun t333 => (if t333 = true then (awardingbodyref12_Make.l0 k (([[], []] : List (List Int))) 30 0 a0_0 a0_1 l0_2) else (some (([] : List (List Int)), 1)))) = some (r1, r2) := h
 clear h
 replace H := Option.bind_eq_some_iff.mp H
 obtain ⟨t333, A20, H⟩ := H
 replace H : (if t333 = true then (awardingbodyref12_Make.l0 k (([[], []] : List (List Int))) 30 0 a0_0 a0_1 l0_2) else (some (([] : List (List Int)), 1))) = some (r1, r2) := H
 have A2 := za A20
 clear A20
 by_cases c3 : t333 = true
 ·subst c3
  have H1 : (awardingbodyref12_Make.l0 k (([[], []] : List (List Int))) 30 0 a0_0 a0_1 l0_2) = some (r1, r2) := by rw [if_pos rfl] at H; exact H
  clear H
  have H := H1
  clear H1
  obtain ⟨y334, hy334⟩ : ∃ y_ : List (List Int), y_ = (([[], []] : List (List Int))) := ⟨_, rfl⟩
  replace H : (awardingbodyref12_Make.l0 k y334 30 0 a0_0 a0_1 l0_2) = some (r1, r2) := by first | (rw [hy334]; with_reducible exact H) | (have H2_ := (Option.bind_some _ _).symm.trans H; rw [hy334]; with_reducible exact H2_) | (have H2_ := (Option.bind_some _ _).symm.trans H; with_reducible exact H2_) | with_reducible exact H | (rw [hy334]; exact H) | exact H
  have Ny334 := za hy334
  clear hy334
  have H' := za H
  clear H
  go_enter Try.func19, Try.ntmps19
  go_wp2_with (first | ((with_reducible refine gate_dst (N := 1) rfl ?_); refine zE 1 #[.int .i64 a0_0, .int .i64 a0_1, .slice A0_2 l0_2.length c0_2] 33 ?_; intro gb331 hg w4 hbox hb; have BK331 := za (hbox); have GW331 := zg HB hg; have GE331 := zg HB hg; replace HB := zs HB hb; clear hb hbox hg) | ((with_reducible refine gate_dst (N := 2) rfl ?_); refine zE 2 #[.slice none 0 0] 38 ?_; intro gb332 hg w5 hbox hb; have BK332 := za (hbox); have GW332 := zg HB hg; have GE332 := zg HB hg; have NB331_332 := zl BK331 hg; have NB332_331 := zr BK331 hg; replace BK331 := zb BK331 hb; replace HB := zs HB hb; clear hb hbox hg; have hnb6 := NB331_332.out; have hnc6 := NB332_331.out; obtain ⟨hcz7_0, hcz7_1, hcz7_2, hfz7_0, hfz7_1, hfz7_2⟩ := z3 BK331) | ((with_reducible refine gate_callee (f := 38) rfl ?_); refine zL (some 10) Try.func38 #[.agg #[.int .i64 a0_0, .int .i64 a0_1, .slice A0_2 l0_2.length c0_2]] ?_; (with_reducible refine (awardingbodyref06_ValidPaper.calls k a0_0 a0_1 _ _ l0_2 true _ ?side1 ?side2 A2.out).mono ?_); (case side1 => exact zC HR0_2 HB); (case side2 => exact HC0_2.out); rintro e w8 ⟨rfl, hb⟩; refine ⟨_, rfl, ?_⟩; replace BK331 := zb BK331 hb; replace BK332 := zb BK332 hb; replace HB := zs HB hb; (try clear hb); (try clear hb2); (try clear hk); (try clear hi)) | ((with_reducible refine gate_dst (N := 13) rfl ?_); refine Kd.S_lit (Kd.slice 3 (Kd.int .i64)) _ 28 ?hg (N := 13) ?hd (xs := ([[], []] : List (List Int))) (inner := [.slice none 0 0, .slice none 0 0]) (ok := fun _ => True) (okp := fun _ => True) ?hr ?hp (fun _ hk => hk) trivial (Below.refl _ _) (Nat.le_refl _) (by simp) ?_; (case hd => rfl); (case hg => rfl); (case hr => first | (go_simp; done) | (go_simp; rfl)); (case hp => exact (Reps.one (show Kd.M (Kd.slice 3 (Kd.int .i64)) _ _ _ [] [.slice none 0 0] from ⟨_, rfl, Kd.R_nil _ _ _ _ _⟩) (Reps.one (show Kd.M (Kd.slice 3 (Kd.int .i64)) _ _ _ [] [.slice none 0 0] from ⟨_, rfl, Kd.R_nil _ _ _ _ _⟩) (Reps.none _ _)))); intro v335 w9 ho10 hb hg_ hnew_; clear hg_ hnew_; (first | rw [← Ny334.out] at ho10 | (simp only [Int.reduceToNat] at ho10; rw [← Ny334.out] at ho10)); have HO336 := za (Kd.S_lower ho10 (below_size (zm HB))); replace BK331 := zb BK331 hb; replace BK332 := zb BK332 hb; replace HB := zs HB hb; clear hb ho10))
  go_loopg [4, 5, 6] k (fun kq v4 v5 v6 w' => ∃ (x4_1 : List (List Int)) (x5_1 : Int) (x6_1 : Int), v5 = .int .i64 x5_1 ∧ v6 = .int .i64 x6_1 ∧ Aside0 (awardingbodyref12_Make.l0 kq x4_1 x5_1 x6_1 a0_0 a0_1 l0_2 = some (r1, r2)) ∧ Aside0 (kq ≤ k) ∧ Aside0 (Kd.S (Kd.slice 3 (Kd.int .i64)) 28 w' w.heap.size (fun _ => True) v4 x4_1) ∧ Aside0 (w'.heap[gb331]? = some (.cells #[.int .i64 a0_0, .int .i64 a0_1, (.slice A0_2 l0_2.length c0_2)] 33 (0, 0))) ∧ Aside0 (w'.heap[gb332]? = some (.cells #[(.slice none 0 0)] 38 (0, 0))) ∧ Aside0 (Below w.heap.size w w'))
  case atStart => exact ⟨(y334), (30), (0), (by first | rfl | (simp; done) | (simp [*]; done)), (by first | rfl | (simp; done) | (simp [*]; done)), H', ⟨Nat.le_refl _⟩, ⟨by (with_reducible repeat (first | apply Kd.S_alloc | apply Kd.S_drewN | apply Kd.S_drew)); exact HO336.out⟩, ⟨by (with_reducible repeat (first | refine blk_drewN ?_ _ | refine blk_drew ?_ | refine blk_alloc ?_ _)); exact BK331.out⟩, ⟨by (with_reducible repeat (first | refine blk_drewN ?_ _ | refine blk_drew ?_ | refine blk_alloc ?_ _)); exact BK332.out⟩, ⟨zm HB⟩⟩
  case round =>
   clear H'
   try clear c1
   try clear p2
   try clear c3
   try clear c6
   try clear hcz7_0
   try clear hcz7_1
   try clear hcz7_2
   try clear hfz7_0
   try clear hfz7_1
   try clear hfz7_2
   obtain ⟨x4_1, x5_1, x6_1, rfl, rfl, HA, HK1, HO_4, BK331, BK332, HB⟩ := hrel
   cases gk with
   | zero => exact absurd HA.out (by simp [awardingbodyref12_Make.l0])
   | succ k1 =>
    have H := HA.out
    clear HA
    simp only [awardingbodyref12_Make.l0] at H
    by_cases c11 : x6_1 < (l0_2.length : Int)
    ·rw [if_pos c11] at H
     have c11b0 : decide (x6_1 < (l0_2.length : Int)) = true := decide_eq_true c11
     clear c11
     by_cases c12 : 0 ≤ x6_1
     ·rw [if_pos c12] at H
      have c12b0 : decide (0 ≤ x6_1) = true := decide_eq_true c12
      clear c12
      replace H := Option.bind_eq_some_iff.mp H
      obtain ⟨t338, A130, H⟩ := H
      replace H : (if t338 > x5_1 then (if x4_1.length < 5864062014805 then ((some (x4_1 ++ [[]] : List (List Int))).bind fun y339 => (if 0 ≤ (wrap64 ((y339.length : Int) - 1)) then (if (wrap64 ((y339.length : Int) - 1)) < (y339.length : Int) then (if (rd_L2 y339 (wrap64 ((y339.length : Int) - 1))).length < 17592186044416 then (awardingbodyref12_Make.l0 k1 (y339.set ((wrap64 ((y339.length : Int) - 1)) : Int).toNat ((rd_L2 y339 (wrap64 ((y339.length : Int) - 1))) ++ [x6_1])) (wrap64 (30 - t338)) (wrap64 (x6_1 + 1)) a0_0 a0_1 l0_2) else (none)) else (none)) else (none))) else (none)) else (if 0 ≤ (wrap64 ((x4_1.length : Int) - 1)) then (if (wrap64 ((x4_1.length : Int) - 1)) < (x4_1.length : Int) then (if (rd_L2 x4_1 (wrap64 ((x4_1.length : Int) - 1))).length < 17592186044416 then (awardingbodyref12_Make.l0 k1 (x4_1.set ((wrap64 ((x4_1.length : Int) - 1)) : Int).toNat ((rd_L2 x4_1 (wrap64 ((x4_1.length : Int) - 1))) ++ [x6_1])) (wrap64 (x5_1 - t338)) (wrap64 (x6_1 + 1)) a0_0 a0_1 l0_2) else (none)) else (none)) else (none))) = some (r1, r2) := H
      have A13 := za A130
      clear A130
      by_cases c14 : t338 > x5_1
      ·rw [if_pos c14] at H
       have c14b0 : decide (x5_1 < t338) = true := decide_eq_true c14
       clear c14
       by_cases c15 : x4_1.length < 5864062014805
       ·rw [if_pos c15] at H
        have LMc15 := za c15
        clear c15
        obtain ⟨y339, hy339⟩ : ∃ y_ : List (List Int), y_ = (x4_1 ++ [[]]) := ⟨_, rfl⟩
        replace H : (if 0 ≤ (wrap64 ((y339.length : Int) - 1)) then (if (wrap64 ((y339.length : Int) - 1)) < (y339.length : Int) then (if (rd_L2 y339 (wrap64 ((y339.length : Int) - 1))).length < 17592186044416 then (awardingbodyref12_Make.l0 k1 (y339.set ((wrap64 ((y339.length : Int) - 1)) : Int).toNat ((rd_L2 y339 (wrap64 ((y339.length : Int) - 1))) ++ [x6_1])) (wrap64 (30 - t338)) (wrap64 (x6_1 + 1)) a0_0 a0_1 l0_2) else (none)) else (none)) else (none)) = some (r1, r2) := by first | (rw [hy339]; with_reducible exact H) | (have H2_ := (Option.bind_some _ _).symm.trans H; rw [hy339]; with_reducible exact H2_) | (have H2_ := (Option.bind_some _ _).symm.trans H; with_reducible exact H2_) | with_reducible exact H | (rw [hy339]; exact H) | exact H
        have Ny339 := za hy339
        clear hy339
        obtain ⟨ji16, hji16⟩ : ∃ j_ : Int, (wrap64 ((y339.length : Int) - 1)) = j_ := ⟨_, rfl⟩
        replace H : (if 0 ≤ (ji16) then (if (ji16) < (y339.length : Int) then (if (rd_L2 y339 (ji16)).length < 17592186044416 then (awardingbodyref12_Make.l0 k1 (y339.set ((ji16) : Int).toNat ((rd_L2 y339 (ji16)) ++ [x6_1])) (wrap64 (30 - t338)) (wrap64 (x6_1 + 1)) a0_0 a0_1 l0_2) else (none)) else (none)) else (none)) = some (r1, r2) := by first | (rw [hji16] at H; exact H) | (simp only [hji16] at H ⊢; exact H)
        (try rw [hji16] at A13)
        have hji16w : (IntKind.i64.wrap ((y339.length : Int) - 1)) = ji16 := (i64_w _).trans hji16
        by_cases c17 : 0 ≤ (ji16)
        ·rw [if_pos c17] at H
         have c17b0 : decide (0 ≤ (ji16)) = true := decide_eq_true c17
         clear c17
         by_cases c18 : (ji16) < (y339.length : Int)
         ·rw [if_pos c18] at H
          have c18b0 : decide ((ji16) < (y339.length : Int)) = true := decide_eq_true c18
          clear c18
          by_cases c19 : (rd_L2 y339 (ji16)).length < 17592186044416
          ·rw [if_pos c19] at H
           have LMc19 := za c19
           clear c19
           obtain ⟨y343, hy343⟩ : ∃ y_ : List Int, y_ = ((rd_L2 y339 (ji16)) ++ [x6_1]) := ⟨_, rfl⟩
           replace H : (awardingbodyref12_Make.l0 k1 (y339.set ((ji16) : Int).toNat y343) (wrap64 (30 - t338)) (wrap64 (x6_1 + 1)) a0_0 a0_1 l0_2) = some (r1, r2) := by first | (rw [hy343]; with_reducible exact H) | (have H2_ := (Option.bind_some _ _).symm.trans H; rw [hy343]; with_reducible exact H2_) | (have H2_ := (Option.bind_some _ _).symm.trans H; with_reducible exact H2_) | with_reducible exact H | (rw [hy343]; exact H) | exact H
           have Ny343 := za hy343
           clear hy343
           obtain ⟨y346, hy346⟩ : ∃ y_ : List (List Int), y_ = (y339.set ((ji16) : Int).toNat y343) := ⟨_, rfl⟩
           replace H : (awardingbodyref12_Make.l0 k1 y346 (wrap64 (30 - t338)) (wrap64 (x6_1 + 1)) a0_0 a0_1 l0_2) = some (r1, r2) := by first | (rw [hy346]; with_reducible exact H) | (have H2_ := (Option.bind_some _ _).symm.trans H; rw [hy346]; with_reducible exact H2_) | (have H2_ := (Option.bind_some _ _).symm.trans H; with_reducible exact H2_) | with_reducible exact H | (rw [hy346]; exact H) | exact H
           have Ny346 := za hy346
           clear hy346
           have H' := za H
           clear H
           have hnb21 := NB331_332.out
           have hnc21 := NB332_331.out
           obtain ⟨hcz22_0, hcz22_1, hcz22_2, hfz22_0, hfz22_1, hfz22_2⟩ := z3 BK331
           have p337 : 0 ≤ (x6_1 : Int) := of_decide_eq_true (by first | (with_reducible assumption) | assumption)
           have q337 : x6_1 < (l0_2.length : Int) := of_decide_eq_true (by first | (with_reducible assumption) | assumption)
           obtain ⟨ad337, e337, hx337_0, hx337_1, hx337_2, hx337_3, hx337_4, hx337_5⟩ := at_T23 HR0_2.out x6_1 p337 q337
           cases e337
           replace hx337_0 := zx HB hx337_0
           replace hx337_1 := zx HB hx337_1
           replace hx337_2 := zx HB hx337_2
           replace hx337_3 := zx HB hx337_3
           replace hx337_4 := zx HB hx337_4
           replace hx337_5 := zx HB hx337_5
           replace p337 := eq_true p337
           replace q337 := eq_true q337
           go_wp2_with (first | ((with_reducible refine gate_callee (f := 13) rfl ?_); refine zL (some 26) Try.func13 #[.agg #[.int .i64 ((rd_T23 l0_2 x6_1).f0), .int .i64 ((rd_T23 l0_2 x6_1).f1), .int .i64 ((rd_T23 l0_2 x6_1).f2), .int .i64 ((rd_T23 l0_2 x6_1).f3), .int .i64 ((rd_T23 l0_2 x6_1).f4), .int .i64 ((rd_T23 l0_2 x6_1).f5)]] ?_; (with_reducible refine (awardingbodyref12_Need.calls k1 ((rd_T23 l0_2 x6_1).f0) ((rd_T23 l0_2 x6_1).f1) ((rd_T23 l0_2 x6_1).f2) ((rd_T23 l0_2 x6_1).f3) ((rd_T23 l0_2 x6_1).f4) ((rd_T23 l0_2 x6_1).f5) t338 _ A13.out).mono ?_); rintro e w23 ⟨rfl, hb⟩; refine ⟨_, rfl, ?_⟩; replace HO_4 := zS HO_4 hb; replace BK331 := zb BK331 hb; replace BK332 := zb BK332 hb; replace HB := zs HB hb; (try clear hb); (try clear hb2); (try clear hk); (try clear hi)) | ((with_reducible refine gate_builtin (b := .append) (xs := #[.tmp 30, .tmp 31]) rfl ?_); at_builtin; refine Kd.S_append (Kd.slice 3 (Kd.int .i64)) (w0 := w) w.heap.size rfl (.tmp 30) (.tmp 31) 36 28 (.slice none 0 0) 24 rfl Try.underlying36 info28 rfl (by decide) (by omega) u4 x4_1 ([] : List Int) [.slice none 0 0] (fun _ => True) (fun _ => False) rfl rfl ?aP (fun k_ hk_ => hk_.elim) ?aF ?aO ?aB ?aS ?aL ?_; (case aP => exact Kd.M_row (Kd.R_nil _ _ _ _ _)); (case aB => exact (zm HB)); (case aF => exact (fun _ _ => trivial)); (case aO => exact (by (with_reducible repeat (first | apply Kd.S_alloc | apply Kd.S_drewN | apply Kd.S_drew)); exact Kd.S_mono HO_4.out (fun k_ hk => ⟨trivial, fun e_ => e_⟩))); (case aS => exact (below_size (zm HB))); (case aL => have := LMc15.out; omega); intro v340 w24 ho hb hg hat; rw [← Ny339.out] at ho; have HO341 := za (ho); replace BK331 := (zw BK331 hg (Kd.S_ne HO_4.out BK331.out (by decide))); replace BK332 := (zw BK332 hg (Kd.S_ne HO_4.out BK332.out (by decide))); replace HB := za (hb); clear HO_4 ho hb hg hat; obtain ⟨Ao25, co25, eo25⟩ := Kd.S_slice HO341.out; subst eo25; have p342 : 0 ≤ ((ji16) : Int) := of_decide_eq_true (by first | (with_reducible assumption) | assumption); have q342 : (ji16) < (y339.length : Int) := of_decide_eq_true (by first | (with_reducible assumption) | assumption); obtain ⟨ad342, A342_0, c342_0, e342, hx342_0, hl342_0, hi342_0⟩ := at_L2 (Kd.S_reads' HO341.out).2.2 (ji16) p342 q342; cases e342; obtain ⟨ce342, hce342, hMe342, hcc342⟩ := Kd.S_get HO341.out [] (ji16) p342 (by first | exact q342 | exact of_decide_eq_true (by first | (with_reducible assumption) | assumption) | (have e_ := (Kd.S_reads' HO341.out).1; omega)); obtain ⟨ve342_0, rfl, ge342_0⟩ := hMe342; have hv342_0 := hcc342 0 _ rfl; rw [Nat.add_zero, show ((Kd.slice 3 (Kd.int .i64))).sz = 1 from rfl, Nat.mul_one] at hv342_0; replace hv342_0 := Option.some.inj (hv342_0.symm.trans hx342_0); rw [hv342_0] at ge342_0; have HL342_0 := za (show Kd.R (Kd.int .i64) 3 _ _ _ _ (rd_L2 y339 (ji16)) from ge342_0); clear hv342_0 ge342_0; have HX342_0 := za hx342_0; clear hcc342 hce342; have HR342_0 := za hi342_0; have HC342_0 := za hl342_0; clear hi342_0 hl342_0; replace p342 := eq_true p342; replace q342 := eq_true q342; obtain ⟨go26, co26, eo26, gb26, gl26, cl26, HG26⟩ := Kd.S_form HO341.out (by have h_ : ((ji16) : Int) < ((y339.length : Int) : Int) := of_decide_eq_true (by first | (with_reducible assumption) | assumption); have h2_ : 0 ≤ ((ji16) : Int) := (of_decide_eq_true (by first | (with_reducible assumption) | assumption)); omega); (first | cases eo26 | (injection eo26 with ea_ en_ ec_; (first | subst ea_ | (injection ea_ with ea_; subst ea_)); subst ec_; clear en_)); have GB26 := za gb26; have GG26 := za HG26; clear gb26 gl26 HG26; (first | simp only [add_plain] at hx342_0 | skip); obtain ⟨oki26, ce26, hcl26, hM26, hcc26, _, _, hH26⟩ := Kd.S_elem HO341.out [] ((ji16) : Int) (of_decide_eq_true (by first | (with_reducible assumption) | assumption)) (by have h_ : ((ji16) : Int) < ((y339.length : Int) : Int) := of_decide_eq_true (by first | (with_reducible assumption) | assumption); first | exact h_ | (have e_ := (Kd.S_reads' HO341.out).1; omega) | simpa using h_); obtain ⟨ve26_0, rfl, ge26_0⟩ := hM26; have hv26 := hcc26 0 _ rfl; have hX26 := HX342_0.out; (try simp only [add_plain] at hX26); (try simp only [Nat.add_zero] at hv26); (try rw [show ((Kd.slice 3 (Kd.int .i64))).sz = 1 from rfl, Nat.mul_one] at hv26); replace hv26 := Option.some.inj (hv26.symm.trans hX26); subst hv26; clear hX26 hcc26 hcl26; have UU26 := za (show Kd.R (Kd.int .i64) 3 _ w.heap.size oki26 (.slice A342_0 (rd_L2 y339 (ji16)).length c342_0) (rd_L2 y339 (ji16)) from ge26_0); have HH26 := za hH26; have HN26 := za (Kd.S_reads' HO341.out).1; clear hH26 ge26_0) | ((with_reducible refine gate_builtin (b := .append) (xs := #[.tmp 41, .tmp 43]) rfl ?_); at_builtin; refine Kd.R_append (Kd.int .i64) (w0 := w) w.heap.size rfl (.tmp 41) (.tmp 43) 28 3 (.int .i64 0) 8 rfl Try.underlying28 info3 rfl (by decide) (by omega) (.slice A342_0 (rd_L2 y339 (ji16)).length c342_0) (rd_L2 y339 (ji16)) x6_1 [.int .i64 x6_1] (fun k_ => oki26 k_ ∨ ((fun _ => True)) k_ ∧ w24.heap.size ≤ k_) (fun _ => False) rfl rfl ?aP (fun _ hk => hk.elim) ?aF ?aO ?aB ?aS ?aL ?_; (case aP => exact rfl); (case aB => exact (zm HB)); (case aF => exact (fun k_ hk => .inr ⟨trivial, hk⟩)); (case aO => exact (by (with_reducible repeat (first | apply Kd.R_alloc | apply Kd.R_drewN | apply Kd.R_drew)); exact Kd.R_mono UU26.out (fun _ hk => .inl hk))); (case aS => exact (below_size (zm HB))); (case aL => have := LMc19.out; omega); intro v344 w27 ho hb hg hat; rw [← Ny343.out] at ho; have HO345 := za (ho); replace BK331 := (zw BK331 hg (Kd.R_ne HL342_0.out BK331.out (by decide))); replace BK332 := (zw BK332 hg (Kd.R_ne HL342_0.out BK332.out (by decide))); replace HB := za (hb); replace HH26 := za (Kd.H_grown (Kd.H_widen (by repeat (first | exact HH26.out | refine Kd.H_alloc ?_ _ | refine Kd.H_drewN ?_ _ | refine Kd.H_drew ?_))) hg (fun k_ e_ => .inl (UU26.out.1 k_ e_))); clear HO341 UU26 HL342_0 ho hb hg hat; have p20 : 0 ≤ ((ji16) : Int) := of_decide_eq_true (by first | (with_reducible assumption) | assumption); have q20 : ((ji16) : Int) < ((y339.length : Int) : Int) := of_decide_eq_true (by first | (with_reducible assumption) | assumption); replace p20 := eq_true p20; replace q20 := eq_true q20; obtain ⟨Ao30, co30, eo30⟩ := Kd.R_slice HO345.out; subst eo30; obtain ⟨_, _, hraw28, _, _, hcc28, _⟩ := Kd.H_raw HH26.out (of_decide_eq_true (by first | (with_reducible assumption) | assumption)) (by have h_ : ((ji16) : Int) < ((y339.length : Int) : Int) := of_decide_eq_true (by first | (with_reducible assumption) | assumption); first | exact h_ | (have e_ := (HN26.out); omega) | simpa using h_); obtain ⟨_, hfr28⟩ := Kd.H_at HH26.out (of_decide_eq_true (by first | (with_reducible assumption) | assumption)) (by have h_ : ((ji16) : Int) < ((y339.length : Int) : Int) := of_decide_eq_true (by first | (with_reducible assumption) | assumption); first | exact h_ | (have e_ := (HN26.out); omega) | simpa using h_); have hx28_0 := hcc28 0 _ rfl; have hf28_0 := hfr28 0; (try simp only [Nat.add_zero] at hx28_0 hf28_0); (try rw [show ((Kd.slice 3 (Kd.int .i64))).sz = 1 from rfl, Nat.mul_one] at hx28_0); (try rw [show ((Kd.slice 3 (Kd.int .i64))).sz = 1 from rfl, Nat.mul_one] at hf28_0); have HP28 := Kd.S_seg0 HH26.out (of_decide_eq_true (by first | (with_reducible assumption) | assumption)) (by have h_ : ((ji16) : Int) < ((y339.length : Int) : Int) := of_decide_eq_true (by first | (with_reducible assumption) | assumption); first | exact h_ | (have e_ := (HN26.out); omega) | simpa using h_) (seg := [.slice Ao30 y343.length co30]) (j := 0) (show 1 ≤ 1 from by decide) (x' := y343) (Kd.M_row HO345.out) (fun _ hk => hk); (try simp only [show ((Kd.slice 3 (Kd.int .i64))).sz = 1 from rfl, Nat.mul_one, Nat.add_zero] at HP28); clear hcc28 hfr28) | ((with_reducible refine gate_store (t := 28) (p := 45) rfl ?_); refine store_event (t := 28) (p := 45) (v := ?vo_w29) (w1 := (w27.setCell ⟨go26, ((ji16) : Int).toNat, none⟩ (.slice Ao30 y343.length co30))) ?hg ?ho ?hn ?hr ?_; (case ho => rfl); (case hg => rfl); (case hn => rfl); (case hr => first | (go_simp; done) | (go_simp; rfl)); intro w29 hw; have hg : w27.grownBy w29 (some go26) := (by rw [hw]; exact HP28.2); have hp_ : Kd.S (Kd.slice 3 (Kd.int .i64)) 28 w29 w.heap.size (fun _ => True) (.slice (some ⟨go26, 0, none⟩) y339.length co25) y346 := (by rw [hw, Ny346.out]; exact HP28.1); clear HP28; have HO341 := za (hp_); replace BK331 := (zw BK331 hg (Kd.R_ne hraw28 BK331.out (by decide))); replace BK332 := (zw BK332 hg (Kd.R_ne hraw28 BK332.out (by decide))); replace HB := za ((by rw [hw]; exact below_set HB.out GB26.out : Below w.heap.size w w29)); clear HO345 HH26 hg hw hp_ hraw28))
           go_roundg k1
           case measure => have := HK1.out; omega
           case rel => exact ⟨(y346), (wrap64 (30 - t338)), (wrap64 (x6_1 + 1)), (by first | rfl | (simp; done) | (simp [*]; done)), (by first | rfl | (simp; done) | (simp [*]; done)), H', ⟨by have := HK1.out; omega⟩, ⟨by (with_reducible repeat (first | apply Kd.S_alloc | apply Kd.S_drewN | apply Kd.S_drew)); exact HO341.out⟩, ⟨by (with_reducible repeat (first | refine blk_drewN ?_ _ | refine blk_drew ?_ | refine blk_alloc ?_ _)); exact BK331.out⟩, ⟨by (with_reducible repeat (first | refine blk_drewN ?_ _ | refine blk_drew ?_ | refine blk_alloc ?_ _)); exact BK332.out⟩, ⟨zm HB⟩⟩
          ·rw [if_neg c19] at H
           exact absurd H (by simp)
         ·rw [if_neg c18] at H
          exact absurd H (by simp)
        ·rw [if_neg c17] at H
         exact absurd H (by simp)
       ·rw [if_neg c15] at H
        exact absurd H (by simp)
      ·rw [if_neg c14] at H
       have c14b0 : decide (x5_1 < t338) = false := decide_eq_false c14
       clear c14
       obtain ⟨ji31, hji31⟩ : ∃ j_ : Int, (wrap64 ((x4_1.length : Int) - 1)) = j_ := ⟨_, rfl⟩
       replace H : (if 0 ≤ (ji31) then (if (ji31) < (x4_1.length : Int) then (if (rd_L2 x4_1 (ji31)).length < 17592186044416 then (awardingbodyref12_Make.l0 k1 (x4_1.set ((ji31) : Int).toNat ((rd_L2 x4_1 (ji31)) ++ [x6_1])) (wrap64 (x5_1 - t338)) (wrap64 (x6_1 + 1)) a0_0 a0_1 l0_2) else (none)) else (none)) else (none)) = some (r1, r2) := by first | (rw [hji31] at H; exact H) | (simp only [hji31] at H ⊢; exact H)
       (try rw [hji31] at A13)
       have hji31w : (IntKind.i64.wrap ((x4_1.length : Int) - 1)) = ji31 := (i64_w _).trans hji31
       by_cases c32 : 0 ≤ (ji31)
       ·rw [if_pos c32] at H
        have c32b0 : decide (0 ≤ (ji31)) = true := decide_eq_true c32
        clear c32
        by_cases c33 : (ji31) < (x4_1.length : Int)
        ·rw [if_pos c33] at H
         have c33b0 : decide ((ji31) < (x4_1.length : Int)) = true := decide_eq_true c33
         clear c33
         by_cases c34 : (rd_L2 x4_1 (ji31)).length < 17592186044416
         ·rw [if_pos c34] at H
          have LMc34 := za c34
          clear c34
          obtain ⟨y348, hy348⟩ : ∃ y_ : List Int, y_ = ((rd_L2 x4_1 (ji31)) ++ [x6_1]) := ⟨_, rfl⟩
          replace H : (awardingbodyref12_Make.l0 k1 (x4_1.set ((ji31) : Int).toNat y348) (wrap64 (x5_1 - t338)) (wrap64 (x6_1 + 1)) a0_0 a0_1 l0_2) = some (r1, r2) := by first | (rw [hy348]; with_reducible exact H) | (have H2_ := (Option.bind_some _ _).symm.trans H; rw [hy348]; with_reducible exact H2_) | (have H2_ := (Option.bind_some _ _).symm.trans H; with_reducible exact H2_) | with_reducible exact H | (rw [hy348]; exact H) | exact H
          have Ny348 := za hy348
          clear hy348
          obtain ⟨y351, hy351⟩ : ∃ y_ : List (List Int), y_ = (x4_1.set ((ji31) : Int).toNat y348) := ⟨_, rfl⟩
          replace H : (awardingbodyref12_Make.l0 k1 y351 (wrap64 (x5_1 - t338)) (wrap64 (x6_1 + 1)) a0_0 a0_1 l0_2) = some (r1, r2) := by first | (rw [hy351]; with_reducible exact H) | (have H2_ := (Option.bind_some _ _).symm.trans H; rw [hy351]; with_reducible exact H2_) | (have H2_ := (Option.bind_some _ _).symm.trans H; with_reducible exact H2_) | with_reducible exact H | (rw [hy351]; exact H) | exact H
          have Ny351 := za hy351
          clear hy351
          have H' := za H
          clear H
          have hnb36 := NB331_332.out
          have hnc36 := NB332_331.out
          obtain ⟨hcz37_0, hcz37_1, hcz37_2, hfz37_0, hfz37_1, hfz37_2⟩ := z3 BK331
          have p337 : 0 ≤ (x6_1 : Int) := of_decide_eq_true (by first | (with_reducible assumption) | assumption)
          have q337 : x6_1 < (l0_2.length : Int) := of_decide_eq_true (by first | (with_reducible assumption) | assumption)
          obtain ⟨ad337, e337, hx337_0, hx337_1, hx337_2, hx337_3, hx337_4, hx337_5⟩ := at_T23 HR0_2.out x6_1 p337 q337
          cases e337
          replace hx337_0 := zx HB hx337_0
          replace hx337_1 := zx HB hx337_1
          replace hx337_2 := zx HB hx337_2
          replace hx337_3 := zx HB hx337_3
          replace hx337_4 := zx HB hx337_4
          replace hx337_5 := zx HB hx337_5
          replace p337 := eq_true p337
          replace q337 := eq_true q337
          go_wp2_with (first | ((with_reducible refine gate_callee (f := 13) rfl ?_); refine zL (some 26) Try.func13 #[.agg #[.int .i64 ((rd_T23 l0_2 x6_1).f0), .int .i64 ((rd_T23 l0_2 x6_1).f1), .int .i64 ((rd_T23 l0_2 x6_1).f2), .int .i64 ((rd_T23 l0_2 x6_1).f3), .int .i64 ((rd_T23 l0_2 x6_1).f4), .int .i64 ((rd_T23 l0_2 x6_1).f5)]] ?_; (with_reducible refine (awardingbodyref12_Need.calls k1 ((rd_T23 l0_2 x6_1).f0) ((rd_T23 l0_2 x6_1).f1) ((rd_T23 l0_2 x6_1).f2) ((rd_T23 l0_2 x6_1).f3) ((rd_T23 l0_2 x6_1).f4) ((rd_T23 l0_2 x6_1).f5) t338 _ A13.out).mono ?_); rintro e w38 ⟨rfl, hb⟩; refine ⟨_, rfl, ?_⟩; replace HO_4 := zS HO_4 hb; replace BK331 := zb BK331 hb; replace BK332 := zb BK332 hb; replace HB := zs HB hb; (try clear hb); (try clear hb2); (try clear hk); (try clear hi); obtain ⟨Ao39, co39, eo39⟩ := Kd.S_slice HO_4.out; subst eo39; have p347 : 0 ≤ ((ji31) : Int) := of_decide_eq_true (by first | (with_reducible assumption) | assumption); have q347 : (ji31) < (x4_1.length : Int) := of_decide_eq_true (by first | (with_reducible assumption) | assumption); obtain ⟨ad347, A347_0, c347_0, e347, hx347_0, hl347_0, hi347_0⟩ := at_L2 (Kd.S_reads' HO_4.out).2.2 (ji31) p347 q347; cases e347; obtain ⟨ce347, hce347, hMe347, hcc347⟩ := Kd.S_get HO_4.out [] (ji31) p347 (by first | exact q347 | exact of_decide_eq_true (by first | (with_reducible assumption) | assumption) | (have e_ := (Kd.S_reads' HO_4.out).1; omega)); obtain ⟨ve347_0, rfl, ge347_0⟩ := hMe347; have hv347_0 := hcc347 0 _ rfl; rw [Nat.add_zero, show ((Kd.slice 3 (Kd.int .i64))).sz = 1 from rfl, Nat.mul_one] at hv347_0; replace hv347_0 := Option.some.inj (hv347_0.symm.trans hx347_0); rw [hv347_0] at ge347_0; have HL347_0 := za (show Kd.R (Kd.int .i64) 3 _ _ _ _ (rd_L2 x4_1 (ji31)) from ge347_0); clear hv347_0 ge347_0; have HX347_0 := za hx347_0; clear hcc347 hce347; have HR347_0 := za hi347_0; have HC347_0 := za hl347_0; clear hi347_0 hl347_0; replace p347 := eq_true p347; replace q347 := eq_true q347; obtain ⟨go40, co40, eo40, gb40, gl40, cl40, HG40⟩ := Kd.S_form HO_4.out (by have h_ : ((ji31) : Int) < ((x4_1.length : Int) : Int) := of_decide_eq_true (by first | (with_reducible assumption) | assumption); have h2_ : 0 ≤ ((ji31) : Int) := (of_decide_eq_true (by first | (with_reducible assumption) | assumption)); omega); (first | cases eo40 | (injection eo40 with ea_ en_ ec_; (first | subst ea_ | (injection ea_ with ea_; subst ea_)); subst ec_; clear en_)); have GB40 := za gb40; have GG40 := za HG40; clear gb40 gl40 HG40; (first | simp only [add_plain] at hx347_0 | skip); obtain ⟨oki40, ce40, hcl40, hM40, hcc40, _, _, hH40⟩ := Kd.S_elem HO_4.out [] ((ji31) : Int) (of_decide_eq_true (by first | (with_reducible assumption) | assumption)) (by have h_ : ((ji31) : Int) < ((x4_1.length : Int) : Int) := of_decide_eq_true (by first | (with_reducible assumption) | assumption); first | exact h_ | (have e_ := (Kd.S_reads' HO_4.out).1; omega) | simpa using h_); obtain ⟨ve40_0, rfl, ge40_0⟩ := hM40; have hv40 := hcc40 0 _ rfl; have hX40 := HX347_0.out; (try simp only [add_plain] at hX40); (try simp only [Nat.add_zero] at hv40); (try rw [show ((Kd.slice 3 (Kd.int .i64))).sz = 1 from rfl, Nat.mul_one] at hv40); replace hv40 := Option.some.inj (hv40.symm.trans hX40); subst hv40; clear hX40 hcc40 hcl40; have UU40 := za (show Kd.R (Kd.int .i64) 3 _ w.heap.size oki40 (.slice A347_0 (rd_L2 x4_1 (ji31)).length c347_0) (rd_L2 x4_1 (ji31)) from ge40_0); have HH40 := za hH40; have HN40 := za (Kd.S_reads' HO_4.out).1; clear hH40 ge40_0) | ((with_reducible refine gate_builtin (b := .append) (xs := #[.tmp 41, .tmp 43]) rfl ?_); at_builtin; refine Kd.R_append (Kd.int .i64) (w0 := w) w.heap.size rfl (.tmp 41) (.tmp 43) 28 3 (.int .i64 0) 8 rfl Try.underlying28 info3 rfl (by decide) (by omega) (.slice A347_0 (rd_L2 x4_1 (ji31)).length c347_0) (rd_L2 x4_1 (ji31)) x6_1 [.int .i64 x6_1] (fun k_ => oki40 k_ ∨ ((fun _ => True)) k_ ∧ w38.heap.size ≤ k_) (fun _ => False) rfl rfl ?aP (fun _ hk => hk.elim) ?aF ?aO ?aB ?aS ?aL ?_; (case aP => exact rfl); (case aB => exact (zm HB)); (case aF => exact (fun k_ hk => .inr ⟨trivial, hk⟩)); (case aO => exact (by (with_reducible repeat (first | apply Kd.R_alloc | apply Kd.R_drewN | apply Kd.R_drew)); exact Kd.R_mono UU40.out (fun _ hk => .inl hk))); (case aS => exact (below_size (zm HB))); (case aL => have := LMc34.out; omega); intro v349 w41 ho hb hg hat; rw [← Ny348.out] at ho; have HO350 := za (ho); replace BK331 := (zw BK331 hg (Kd.R_ne HL347_0.out BK331.out (by decide))); replace BK332 := (zw BK332 hg (Kd.R_ne HL347_0.out BK332.out (by decide))); replace HB := za (hb); replace HH40 := za (Kd.H_grown (Kd.H_widen (by repeat (first | exact HH40.out | refine Kd.H_alloc ?_ _ | refine Kd.H_drewN ?_ _ | refine Kd.H_drew ?_))) hg (fun k_ e_ => .inl (UU40.out.1 k_ e_))); clear HO_4 UU40 HL347_0 ho hb hg hat; have p35 : 0 ≤ ((ji31) : Int) := of_decide_eq_true (by first | (with_reducible assumption) | assumption); have q35 : ((ji31) : Int) < ((x4_1.length : Int) : Int) := of_decide_eq_true (by first | (with_reducible assumption) | assumption); replace p35 := eq_true p35; replace q35 := eq_true q35; obtain ⟨Ao44, co44, eo44⟩ := Kd.R_slice HO350.out; subst eo44; obtain ⟨_, _, hraw42, _, _, hcc42, _⟩ := Kd.H_raw HH40.out (of_decide_eq_true (by first | (with_reducible assumption) | assumption)) (by have h_ : ((ji31) : Int) < ((x4_1.length : Int) : Int) := of_decide_eq_true (by first | (with_reducible assumption) | assumption); first | exact h_ | (have e_ := (HN40.out); omega) | simpa using h_); obtain ⟨_, hfr42⟩ := Kd.H_at HH40.out (of_decide_eq_true (by first | (with_reducible assumption) | assumption)) (by have h_ : ((ji31) : Int) < ((x4_1.length : Int) : Int) := of_decide_eq_true (by first | (with_reducible assumption) | assumption); first | exact h_ | (have e_ := (HN40.out); omega) | simpa using h_); have hx42_0 := hcc42 0 _ rfl; have hf42_0 := hfr42 0; (try simp only [Nat.add_zero] at hx42_0 hf42_0); (try rw [show ((Kd.slice 3 (Kd.int .i64))).sz = 1 from rfl, Nat.mul_one] at hx42_0); (try rw [show ((Kd.slice 3 (Kd.int .i64))).sz = 1 from rfl, Nat.mul_one] at hf42_0); have HP42 := Kd.S_seg0 HH40.out (of_decide_eq_true (by first | (with_reducible assumption) | assumption)) (by have h_ : ((ji31) : Int) < ((x4_1.length : Int) : Int) := of_decide_eq_true (by first | (with_reducible assumption) | assumption); first | exact h_ | (have e_ := (HN40.out); omega) | simpa using h_) (seg := [.slice Ao44 y348.length co44]) (j := 0) (show 1 ≤ 1 from by decide) (x' := y348) (Kd.M_row HO350.out) (fun _ hk => hk); (try simp only [show ((Kd.slice 3 (Kd.int .i64))).sz = 1 from rfl, Nat.mul_one, Nat.add_zero] at HP42); clear hcc42 hfr42) | ((with_reducible refine gate_store (t := 28) (p := 45) rfl ?_); refine store_event (t := 28) (p := 45) (v := ?vo_w43) (w1 := (w41.setCell ⟨go40, ((ji31) : Int).toNat, none⟩ (.slice Ao44 y348.length co44))) ?hg ?ho ?hn ?hr ?_; (case ho => rfl); (case hg => rfl); (case hn => rfl); (case hr => first | (go_simp; done) | (go_simp; rfl)); intro w43 hw; have hg : w41.grownBy w43 (some go40) := (by rw [hw]; exact HP42.2); have hp_ : Kd.S (Kd.slice 3 (Kd.int .i64)) 28 w43 w.heap.size (fun _ => True) (.slice (some ⟨go40, 0, none⟩) x4_1.length co39) y351 := (by rw [hw, Ny351.out]; exact HP42.1); clear HP42; have HO_4 := za (hp_); replace BK331 := (zw BK331 hg (Kd.R_ne hraw42 BK331.out (by decide))); replace BK332 := (zw BK332 hg (Kd.R_ne hraw42 BK332.out (by decide))); replace HB := za ((by rw [hw]; exact below_set HB.out GB40.out : Below w.heap.size w w43)); clear HO350 HH40 hg hw hp_ hraw42))
          go_roundg k1
          case measure => have := HK1.out; omega
          case rel => exact ⟨(y351), (wrap64 (x5_1 - t338)), (wrap64 (x6_1 + 1)), (by first | rfl | (simp; done) | (simp [*]; done)), (by first | rfl | (simp; done) | (simp [*]; done)), H', ⟨by have := HK1.out; omega⟩, ⟨by (with_reducible repeat (first | apply Kd.S_alloc | apply Kd.S_drewN | apply Kd.S_drew)); exact HO_4.out⟩, ⟨by (with_reducible repeat (first | refine blk_drewN ?_ _ | refine blk_drew ?_ | refine blk_alloc ?_ _)); exact BK331.out⟩, ⟨by (with_reducible repeat (first | refine blk_drewN ?_ _ | refine blk_drew ?_ | refine blk_alloc ?_ _)); exact BK332.out⟩, ⟨zm HB⟩⟩
         ·rw [if_neg c34] at H
          exact absurd H (by simp)
        ·rw [if_neg c33] at H
         exact absurd H (by simp)
       ·rw [if_neg c32] at H
        exact absurd H (by simp)
     ·rw [if_neg c12] at H
      exact absurd H (by simp)
    ·rw [if_neg c11] at H
     have c11b0 : decide (x6_1 < (l0_2.length : Int)) = false := decide_eq_false c11
     clear c11
     have H' := za H
     clear H
     have hnb45 := NB331_332.out
     have hnc45 := NB332_331.out
     obtain ⟨hcz46_0, hcz46_1, hcz46_2, hfz46_0, hfz46_1, hfz46_2⟩ := z3 BK331
     go_wp2
     go_loopg [4] k1 (fun kq v4 w' => ∃ (x4_2 : List (List Int)), Aside0 (awardingbodyref12_Make.l1 kq x4_2 = some (r1, r2)) ∧ Aside0 (kq ≤ k1) ∧ Aside0 (Kd.S (Kd.slice 3 (Kd.int .i64)) 28 w' w.heap.size (fun _ => True) v4 x4_2) ∧ Aside0 (w'.heap[gb331]? = some (.cells #[.int .i64 a0_0, .int .i64 a0_1, (.slice A0_2 l0_2.length c0_2)] 33 (0, 0))) ∧ Aside0 (w'.heap[gb332]? = some (.cells #[(.slice none 0 0)] 38 (0, 0))) ∧ Aside0 (Below w.heap.size w w'))
     case atStart => exact ⟨(x4_1), H', ⟨Nat.le_refl _⟩, ⟨by (with_reducible repeat (first | apply Kd.S_alloc | apply Kd.S_drewN | apply Kd.S_drew)); exact HO_4.out⟩, ⟨by (with_reducible repeat (first | refine blk_drewN ?_ _ | refine blk_drew ?_ | refine blk_alloc ?_ _)); exact BK331.out⟩, ⟨by (with_reducible repeat (first | refine blk_drewN ?_ _ | refine blk_drew ?_ | refine blk_alloc ?_ _)); exact BK332.out⟩, ⟨zm HB⟩⟩
     case round =>
      clear H'
      try clear c1
      try clear c2
      try clear p2
      try clear q2
      try clear hx2
      try clear hf2
      try clear c3
      try clear p3
      try clear q3
      try clear hx3
      try clear c4
      try clear hx4
      try clear hf4
      try clear c6
      try clear p6
      try clear c11
      try clear c11b0
      try clear c12
      try clear c12b0
      try clear c13
      try clear c14
      try clear c14b0
      try clear c15
      try clear c17
      try clear c17b0
      try clear c18
      try clear c18b0
      try clear c19
      try clear p20
      try clear q20
      try clear c21
      try clear c26
      try clear c28
      try clear hx28
      try clear hf28
      try clear c32
      try clear c32b0
      try clear c33
      try clear c33b0
      try clear p33
      try clear q33
      try clear hx33
      try clear c34
      try clear p34
      try clear q34
      try clear hx34
      try clear p35
      try clear q35
      try clear c36
      try clear c38
      try clear c40
      try clear c42
      try clear hx42
      try clear hf42
      try clear c45
      try clear hcz22_0
      try clear hcz22_1
      try clear hcz22_2
      try clear hcz37_0
      try clear hcz37_1
      try clear hcz37_2
      try clear hcz46_0
      try clear hcz46_1
      try clear hcz46_2
      try clear hcz7_0
      try clear hcz7_1
      try clear hcz7_2
      try clear hfz22_0
      try clear hfz22_1
      try clear hfz22_2
      try clear hfz37_0
      try clear hfz37_1
      try clear hfz37_2
      try clear hfz46_0
      try clear hfz46_1
      try clear hfz46_2
      try clear hfz7_0
      try clear hfz7_1
      try clear hfz7_2
      try clear hx28_0
      try clear hx337_0
      try clear hx337_1
      try clear hx337_2
      try clear hx337_3
      try clear hx337_4
      try clear hx337_5
      try clear hx342_0
      try clear hx347_0
      try clear hx42_0
      try clear p2
      try clear p20
      try clear p337
      try clear p342
      try clear p347
      try clear p35
      try clear q20
      try clear q337
      try clear q342
      try clear q347
      try clear q35
      obtain ⟨x4_2, HA, HK2, HO_4, BK331, BK332, HB⟩ := hrel
      cases gk with
      | zero => exact absurd HA.out (by simp [awardingbodyref12_Make.l1])
      | succ k2 =>
       have H := HA.out
       clear HA
       simp only [awardingbodyref12_Make.l1] at H
       by_cases c47 : ((x4_2.length : Int) % 4) = 0
       ·rw [if_pos c47] at H
        have c47b0 : (((x4_2.length : Int) % 4) == 0) = true := beq_iff_eq.mpr c47
        have c47b1 : (((x4_2.length : Int) % 4) != 0) = false := bne_eq_false_iff_eq.mpr c47
        clear c47
        by_cases c48 : (x4_2.length : Int) > 12
        ·rw [if_pos c48] at H
         have c48b0 : decide (12 < (x4_2.length : Int)) = true := decide_eq_true c48
         have c48b1 : decide (12 < x4_2.length) = true := decide_eq_true (by omega)
         clear c48
         simp only [Option.some.injEq, Prod.mk.injEq] at H
         obtain ⟨rfl, rfl⟩ := H
         obtain ⟨Ao49, co49, eo49⟩ := Kd.S_slice HO_4.out
         subst eo49
         have hnb50 := NB332_331.out
         have hnc50 := NB331_332.out
         obtain ⟨hcz51_0, hfz51_0⟩ := z1 BK332
         go_wp2
         refine bodyPost_ret (results_ct rfl _ _ gb332 38 #[.slice none 0 0] (0, 0) _ rfl (by (with_reducible repeat (first | refine blk_drewN ?_ _ | refine blk_drew ?_ | refine blk_alloc ?_ _)); refine blk_put (cs := #[.slice none 0 0]) ?_ 0 _ rfl; (with_reducible repeat (first | refine blk_drewN ?_ _ | refine blk_drew ?_ | refine blk_alloc ?_ _)); exact BK332.out) Try.underlying38 rfl (by kernel_rfl)) rfl ?_
         exact ⟨_, zf, by first | exact Kd.S_nil _ _ _ _ _ | exact Kd.N_nil _ _ _ _ _ | exact Kd.V_nil _ _ _ _ _ | exact Kd.Q_nil _ _ _ _ _ | exact Kd.R_nil _ _ _ _ _, zm HB⟩
        ·rw [if_neg c48] at H
         have c48b0 : decide (12 < (x4_2.length : Int)) = false := decide_eq_false c48
         have c48b1 : decide (12 < x4_2.length) = false := decide_eq_false (by omega)
         clear c48
         simp only [Option.some.injEq, Prod.mk.injEq] at H
         obtain ⟨rfl, rfl⟩ := H
         obtain ⟨Ao52, co52, eo52⟩ := Kd.S_slice HO_4.out
         subst eo52
         have hnb53 := NB332_331.out
         have hnc53 := NB331_332.out
         obtain ⟨hcz54_0, hfz54_0⟩ := z1 BK332
         go_wp2
         refine bodyPost_ret (results_ct rfl _ _ gb332 38 #[.slice Ao52 x4_2.length co52] (0, 0) _ rfl (by (with_reducible repeat (first | refine blk_drewN ?_ _ | refine blk_drew ?_ | refine blk_alloc ?_ _)); refine blk_put (cs := #[.slice none 0 0]) ?_ 0 _ rfl; (with_reducible repeat (first | refine blk_drewN ?_ _ | refine blk_drew ?_ | refine blk_alloc ?_ _)); exact BK332.out) Try.underlying38 rfl (by kernel_rfl)) rfl ?_
         exact ⟨_, zf, by (with_reducible repeat (first | apply Kd.S_alloc | apply Kd.S_drewN | apply Kd.S_drew)); exact Kd.S_mono (Kd.S_far (p := ⟨gb332, 0, none⟩) (Kd.S_types HO_4.out BK332.out (by decide)) (fun _ hk => hk.2) (.slice Ao52 x4_2.length co52)) (fun _ hk => trivial), zm HB⟩
       ·rw [if_neg c47] at H
        have c47b0 : (((x4_2.length : Int) % 4) == 0) = false := beq_eq_false_iff_ne.mpr c47
        have c47b1 : (((x4_2.length : Int) % 4) != 0) = true := bne_iff_ne.mpr c47
        by_cases c55 : x4_2.length < 5864062014805
        ·rw [if_pos c55] at H
         have LMc55 := za c55
         clear c55
         obtain ⟨y352, hy352⟩ : ∃ y_ : List (List Int), y_ = (x4_2 ++ [[]]) := ⟨_, rfl⟩
         replace H : (awardingbodyref12_Make.l1 k2 y352) = some (r1, r2) := by first | (rw [hy352]; with_reducible exact H) | (have H2_ := (Option.bind_some _ _).symm.trans H; rw [hy352]; with_reducible exact H2_) | (have H2_ := (Option.bind_some _ _).symm.trans H; with_reducible exact H2_) | with_reducible exact H | (rw [hy352]; exact H) | exact H
         have Ny352 := za hy352
         clear hy352
         have H' := za H
         clear H
         obtain ⟨Ao56, co56, eo56⟩ := Kd.S_slice HO_4.out
         subst eo56
         go_wp2_with (first | ((with_reducible refine gate_builtin (b := .append) (xs := #[.tmp 53, .tmp 54]) rfl ?_); at_builtin; refine Kd.S_append (Kd.slice 3 (Kd.int .i64)) (w0 := w) w.heap.size rfl (.tmp 53) (.tmp 54) 36 28 (.slice none 0 0) 24 rfl Try.underlying36 info28 rfl (by decide) (by omega) (.slice Ao56 x4_2.length co56) x4_2 ([] : List Int) [.slice none 0 0] (fun _ => True) (fun _ => False) rfl rfl ?aP (fun k_ hk_ => hk_.elim) ?aF ?aO ?aB ?aS ?aL ?_; (case aP => exact Kd.M_row (Kd.R_nil _ _ _ _ _)); (case aB => exact (zm HB)); (case aF => exact (fun _ _ => trivial)); (case aO => exact (by (with_reducible repeat (first | apply Kd.S_alloc | apply Kd.S_drewN | apply Kd.S_drew)); exact Kd.S_mono HO_4.out (fun k_ hk => ⟨trivial, fun e_ => e_⟩))); (case aS => exact (below_size (zm HB))); (case aL => have := LMc55.out; omega); intro v353 w57 ho hb hg hat; rw [← Ny352.out] at ho; have HO354 := za (ho); replace BK331 := (zw BK331 hg (Kd.S_ne HO_4.out BK331.out (by decide))); replace BK332 := (zw BK332 hg (Kd.S_ne HO_4.out BK332.out (by decide))); replace HB := za (hb); clear HO_4 ho hb hg hat))
         go_roundg k2
         case measure => have := HK1.out; have := HK2.out; omega
         case rel => exact ⟨(y352), H', ⟨by have := HK1.out; have := HK2.out; omega⟩, ⟨by (with_reducible repeat (first | apply Kd.S_alloc | apply Kd.S_drewN | apply Kd.S_drew)); exact HO354.out⟩, ⟨by (with_reducible repeat (first | refine blk_drewN ?_ _ | refine blk_drew ?_ | refine blk_alloc ?_ _)); exact BK331.out⟩, ⟨by (with_reducible repeat (first | refine blk_drewN ?_ _ | refine blk_drew ?_ | refine blk_alloc ?_ _)); exact BK332.out⟩, ⟨zm HB⟩⟩
        ·rw [if_neg c55] at H
         exact absurd H (by simp)
 ·replace c3 := Bool.eq_false_iff.mpr c3
  subst c3
  have H1 : (some (([] : List (List Int)), 1)) = some (r1, r2) := by rw [if_neg (show ¬ (false = true) by decide)] at H; exact H
  clear H
  have H := H1
  clear H1
  simp only [Option.some.injEq, Prod.mk.injEq] at H
  obtain ⟨rfl, rfl⟩ := H
  go_enter Try.func19, Try.ntmps19
  go_wp2_with (first | ((with_reducible refine gate_dst (N := 1) rfl ?_); refine zE 1 #[.int .i64 a0_0, .int .i64 a0_1, .slice A0_2 l0_2.length c0_2] 33 ?_; intro gb331 hg w58 hbox hb; have BK331 := za (hbox); have GW331 := zg HB hg; have GE331 := zg HB hg; replace HB := zs HB hb; clear hb hbox hg) | ((with_reducible refine gate_dst (N := 2) rfl ?_); refine zE 2 #[.slice none 0 0] 38 ?_; intro gb332 hg w59 hbox hb; have BK332 := za (hbox); have GW332 := zg HB hg; have GE332 := zg HB hg; have NB331_332 := zl BK331 hg; have NB332_331 := zr BK331 hg; replace BK331 := zb BK331 hb; replace HB := zs HB hb; clear hb hbox hg; have hnb60 := NB331_332.out; have hnc60 := NB332_331.out; obtain ⟨hcz61_0, hcz61_1, hcz61_2, hfz61_0, hfz61_1, hfz61_2⟩ := z3 BK331) | ((with_reducible refine gate_callee (f := 38) rfl ?_); refine zL (some 10) Try.func38 #[.agg #[.int .i64 a0_0, .int .i64 a0_1, .slice A0_2 l0_2.length c0_2]] ?_; (with_reducible refine (awardingbodyref06_ValidPaper.calls k a0_0 a0_1 _ _ l0_2 false _ ?side1 ?side2 A2.out).mono ?_); (case side1 => exact zC HR0_2 HB); (case side2 => exact HC0_2.out); rintro e w62 ⟨rfl, hb⟩; refine ⟨_, rfl, ?_⟩; replace BK331 := zb BK331 hb; replace BK332 := zb BK332 hb; replace HB := zs HB hb; (try clear hb); (try clear hb2); (try clear hk); (try clear hi); obtain ⟨hcz63_0, hfz63_0⟩ := z1 BK332))
  refine bodyPost_ret (results_ct rfl _ _ gb332 38 #[.slice none 0 0] (0, 0) _ rfl (by (with_reducible repeat (first | refine blk_drewN ?_ _ | refine blk_drew ?_ | refine blk_alloc ?_ _)); refine blk_put (cs := #[.slice none 0 0]) ?_ 0 _ rfl; (with_reducible repeat (first | refine blk_drewN ?_ _ | refine blk_drew ?_ | refine blk_alloc ?_ _)); exact BK332.out) Try.underlying38 rfl (by kernel_rfl)) rfl ?_
  exact ⟨_, zf, by first | exact Kd.S_nil _ _ _ _ _ | exact Kd.N_nil _ _ _ _ _ | exact Kd.V_nil _ _ _ _ _ | exact Kd.Q_nil _ _ _ _ _ | exact Kd.R_nil _ _ _ _ _, zm HB⟩

end Go.Proofs.Ytdmlbgdefapcjaa.Print
