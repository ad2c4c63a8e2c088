-- Printed by a program of this session (wip/own_print.py) out of the translation; Lean checks it.
import Derived.Test.YtdmlbgdefapcjaaShort
import Derived.Test.YtdmlbgdefapcjaaScope
import Derived.Test.YtdmlbgdefapcjaaPrint0
import Derived.Test.YtdmlbgdefapcjaaPrint2
import Derived.Test.YtdmlbgdefapcjaaPrint4
namespace Go.Proofs.Ytdmlbgdefapcjaa.Print
open Go.RowKit Go.Proofs.YtdmlbgdefapcjaaW.PrintWords Go.Proofs.YtdmlbgdefapcjaaW.PrintLast Go.Proofs.YtdmlbgdefapcjaaW.PrintMore
attribute [local go_sem] max2_int min2_int max_two min_two max_three min_three max_four min_four   -- for this text's walks alone
set_option linter.unusedVariables false
set_option linter.unusedSimpArgs false

/-! ### booklet_Make: function 18 -/
mutual
def booklet_Make.l0 : Nat → List (List Int) → Int → Int → Int → List (S23) → Option ((List (List Int)) × Int)
  | 0, _, _, _, _, _ => none
  | k + 1, x4, x5, x126000, x126001, x126002 => if x5 < (x126002.length : Int) then (booklet_Make.l1 k x4 x5 ([] : List Int) 30 x126000 x126001 x126002) else (booklet_Make.l2 k x4)
def booklet_Make.l1 : Nat → List (List Int) → Int → List Int → Int → Int → Int → List (S23) → Option ((List (List Int)) × Int)
  | 0, _, _, _, _, _, _, _ => none
  | k + 1, x4, x5, x6, x7, x126000, x126001, x126002 => if x5 < (x126002.length : Int) then (if 0 ≤ x5 then ((booklet_Need.f k ((rd_T23 x126002 x5).f0) ((rd_T23 x126002 x5).f1) ((rd_T23 x126002 x5).f2) ((rd_T23 x126002 x5).f3) ((rd_T23 x126002 x5).f4) ((rd_T23 x126002 x5).f5)).bind fun t132 => (if (wrap64 (x7 - t132)) < 0 then (if x4.length < 5864062014805 then (booklet_Make.l0 k (x4 ++ [x6]) x5 x126000 x126001 x126002) else (none)) else (if x6.length < 17592186044416 then (booklet_Make.l1 k x4 (wrap64 (x5 + 1)) (x6 ++ [x5]) (wrap64 (x7 - t132)) x126000 x126001 x126002) else (none)))) else (none)) else (if x4.length < 5864062014805 then (booklet_Make.l0 k (x4 ++ [x6]) x5 x126000 x126001 x126002) else (none))
def booklet_Make.l2 : Nat → List (List Int) → Option ((List (List Int)) × Int)
  | 0, _ => none
  | k + 1, x4 => if ((x4.length : Int) % 4) = 0 then (if (x4.length : Int) > 12 then (some (([] : List (List Int)), 3)) else (some (x4, 0))) else (if x4.length < 5864062014805 then (booklet_Make.l2 k (x4 ++ [[]])) else (none))
end
def booklet_Make.f (k : Nat) (a0_0 : Int) (a0_1 : Int) (l0_2 : List (S23)) : Option ((List (List Int)) × Int) := (item_ValidPaper.f k a0_0 a0_1 l0_2).bind fun t127 => (if t127 = true then (booklet_Make.l0 k (([[]] : List (List Int))) 0 a0_0 a0_1 l0_2) else (some (([] : List (List Int)), 1)))
theorem booklet_Make.mono_l : ∀ k, (∀ y0 y1 y2 y3 y4, LeO (booklet_Make.l0 k y0 y1 y2 y3 y4) (booklet_Make.l0 (k + 1) y0 y1 y2 y3 y4)) ∧ (∀ y0 y1 y2 y3 y4 y5 y6, LeO (booklet_Make.l1 k y0 y1 y2 y3 y4 y5 y6) (booklet_Make.l1 (k + 1) y0 y1 y2 y3 y4 y5 y6)) ∧ (∀ y0, LeO (booklet_Make.l2 k y0) (booklet_Make.l2 (k + 1) y0))
  | 0 => ⟨fun _ _ _ _ _ r h => by simp [booklet_Make.l0] at h, fun _ _ _ _ _ _ _ r h => by simp [booklet_Make.l1] at h, fun _ r h => by simp [booklet_Make.l2] at h⟩
  | k + 1 => by
    obtain ⟨ih0, ih1, ih2⟩ := booklet_Make.mono_l k
    refine ⟨?_, ?_, ?_⟩
    · intro y0 y1 y2 y3 y4
      unfold booklet_Make.l0
      repeat' first
      | (with_reducible exact ih0 _ _ _ _ _)
      | (with_reducible exact ih1 _ _ _ _ _ _ _)
      | (with_reducible exact ih2 _)
      | (with_reducible exact booklet_Need.mono _ _ _ _ _ _ _)
      | (with_reducible exact item_ValidPaper.mono _ _ _ _)
      | (with_reducible exact LeO.refl _)
      | (with_reducible exact LeO.none _)
      | (with_reducible refine LeO.ite ?_ ?_)
      | (with_reducible refine LeO.bind ?_ (fun _ => ?_))
      | exact ih0 _ _ _ _ _
      | exact ih1 _ _ _ _ _ _ _
      | exact ih2 _
      | exact booklet_Need.mono _ _ _ _ _ _ _
      | exact item_ValidPaper.mono _ _ _ _
      | exact LeO.none _
      | refine LeO.ite ?_ ?_
      | refine LeO.bind ?_ (fun _ => ?_)
    · intro y0 y1 y2 y3 y4 y5 y6
      unfold booklet_Make.l1
      repeat' first
      | (with_reducible exact ih0 _ _ _ _ _)
      | (with_reducible exact ih1 _ _ _ _ _ _ _)
      | (with_reducible exact ih2 _)
      | (with_reducible exact booklet_Need.mono _ _ _ _ _ _ _)
      | (with_reducible exact item_ValidPaper.mono _ _ _ _)
      | (with_reducible exact LeO.refl _)
      | (with_reducible exact LeO.none _)
      | (with_reducible refine LeO.ite ?_ ?_)
      | (with_reducible refine LeO.bind ?_ (fun _ => ?_))
      | exact ih0 _ _ _ _ _
      | exact ih1 _ _ _ _ _ _ _
      | exact ih2 _
      | exact booklet_Need.mono _ _ _ _ _ _ _
      | exact item_ValidPaper.mono _ _ _ _
      | exact LeO.none _
      | refine LeO.ite ?_ ?_
      | refine LeO.bind ?_ (fun _ => ?_)
    · intro y0
      unfold booklet_Make.l2
      repeat' first
      | (with_reducible exact ih0 _ _ _ _ _)
      | (with_reducible exact ih1 _ _ _ _ _ _ _)
      | (with_reducible exact ih2 _)
      | (with_reducible exact booklet_Need.mono _ _ _ _ _ _ _)
      | (with_reducible exact item_ValidPaper.mono _ _ _ _)
      | (with_reducible exact LeO.refl _)
      | (with_reducible exact LeO.none _)
      | (with_reducible refine LeO.ite ?_ ?_)
      | (with_reducible refine LeO.bind ?_ (fun _ => ?_))
      | exact ih0 _ _ _ _ _
      | exact ih1 _ _ _ _ _ _ _
      | exact ih2 _
      | exact booklet_Need.mono _ _ _ _ _ _ _
      | exact item_ValidPaper.mono _ _ _ _
      | exact LeO.none _
      | refine LeO.ite ?_ ?_
      | refine LeO.bind ?_ (fun _ => ?_)
theorem booklet_Make.mono : ∀ a0 a1 a2 k, LeO (booklet_Make.f k a0 a1 a2) (booklet_Make.f (k + 1) a0 a1 a2) := by
  intro a0 a1 a2 k
  obtain ⟨ih0, ih1, ih2⟩ := booklet_Make.mono_l k
  unfold booklet_Make.f
  repeat' first
      | (with_reducible exact ih0 _ _ _ _ _)
      | (with_reducible exact ih1 _ _ _ _ _ _ _)
      | (with_reducible exact ih2 _)
      | (with_reducible exact booklet_Need.mono _ _ _ _ _ _ _)
      | (with_reducible exact item_ValidPaper.mono _ _ _ _)
      | (with_reducible exact LeO.refl _)
      | (with_reducible exact LeO.none _)
      | (with_reducible refine LeO.ite ?_ ?_)
      | (with_reducible refine LeO.bind ?_ (fun _ => ?_))
      | exact ih0 _ _ _ _ _
      | exact ih1 _ _ _ _ _ _ _
      | exact ih2 _
      | exact booklet_Need.mono _ _ _ _ _ _ _
      | exact item_ValidPaper.mono _ _ _ _
      | exact LeO.none _
      | refine LeO.ite ?_ ?_
      | refine LeO.bind ?_ (fun _ => ?_)
set_option maxHeartbeats 8000000 in
set_option maxRecDepth 100000 in
theorem booklet_Make.calls (k : Nat) (a0_0 : Int) (a0_1 : Int) (A0_2 : Option Addr) (c0_2 : Nat) (l0_2 : List (S23)) (r1 : List (List Int)) (r2 : Int) (w : World) (hr0_2 : Kd.C k23 w A0_2 l0_2.length l0_2) (hc0_2 : l0_2.length ≤ c0_2) (h : booklet_Make.f k a0_0 a0_1 l0_2 = some (r1, r2)) :
    Calls Try.prog 18 #[.agg #[.int .i64 a0_0, .int .i64 a0_1, .slice A0_2 l0_2.length c0_2]] w fun e w' => ∃ v0_ : Value, e = .returned (.tuple #[.agg #[v0_], .int .i64 r2]) ∧ Kd.S (Kd.slice 3 (Kd.int .i64)) 28 w' w.heap.size (fun _ => True) v0_ r1 ∧ Below w.heap.size w w' := by
 have hu33 := Try.underlying33
 have hu38 := Try.underlying38
 have hu23 := Try.underlying23
 have HR0_2 := za hr0_2
 have HC0_2 := za hc0_2
 clear hr0_2 hc0_2
 have HB := za (Below.refl w.heap.size w)
 have H : ((item_ValidPaper.f k a0_0 a0_1 l0_2).bind fun t127 => (if t127 = true then (booklet_Make.l0 k (([[]] : List (List Int))) 0 a0_0 a0_1 l0_2) else (some (([] : List (List Int)), 1)))) = some (r1, r2) := h
 clear h
 replace H := Option.bind_eq_some_iff.mp H
 obtain ⟨t127, A20, H⟩ := H
 replace H : (if t127 = true then (booklet_Make.l0 k (([[]] : List (List Int))) 0 a0_0 a0_1 l0_2) else (some (([] : List (List Int)), 1))) = some (r1, r2) := H
 have A2 := za A20
 clear A20
 by_cases c3 : t127 = true
 ·subst c3
  have H1 : (booklet_Make.l0 k (([[]] : List (List Int))) 0 a0_0 a0_1 l0_2) = some (r1, r2) := by rw [if_pos rfl] at H; exact H
  clear H
  have H := H1
  clear H1
  obtain ⟨y128, hy128⟩ : ∃ y_ : List (List Int), y_ = (([[]] : List (List Int))) := ⟨_, rfl⟩
  replace H : (booklet_Make.l0 k y128 0 a0_0 a0_1 l0_2) = some (r1, r2) := by first | (rw [hy128]; with_reducible exact H) | (have H2_ := (Option.bind_some _ _).symm.trans H; rw [hy128]; with_reducible exact H2_) | (have H2_ := (Option.bind_some _ _).symm.trans H; with_reducible exact H2_) | with_reducible exact H | (rw [hy128]; exact H) | exact H
  have Ny128 := za hy128
  clear hy128
  have H' := za H
  clear H
  go_enter Try.func18, Try.ntmps18
  go_wp2_with (first | ((with_reducible refine gate_dst (N := 1) rfl ?_); refine zE 1 #[.int .i64 a0_0, .int .i64 a0_1, .slice A0_2 l0_2.length c0_2] 33 ?_; intro gb125 hg w4 hbox hb; have BK125 := za (hbox); have GW125 := zg HB hg; have GE125 := zg HB hg; replace HB := zs HB hb; clear hb hbox hg) | ((with_reducible refine gate_dst (N := 2) rfl ?_); refine zE 2 #[.slice none 0 0] 38 ?_; intro gb126 hg w5 hbox hb; have BK126 := za (hbox); have GW126 := zg HB hg; have GE126 := zg HB hg; have NB125_126 := zl BK125 hg; have NB126_125 := zr BK125 hg; replace BK125 := zb BK125 hb; replace HB := zs HB hb; clear hb hbox hg; have hnb6 := NB125_126.out; have hnc6 := NB126_125.out; obtain ⟨hcz7_0, hcz7_1, hcz7_2, hfz7_0, hfz7_1, hfz7_2⟩ := z3 BK125) | ((with_reducible refine gate_callee (f := 39) rfl ?_); refine zL (some 9) Try.func39 #[.agg #[.int .i64 a0_0, .int .i64 a0_1, .slice A0_2 l0_2.length c0_2]] ?_; (with_reducible refine (item_ValidPaper.calls k a0_0 a0_1 _ _ l0_2 true _ ?side1 ?side2 A2.out).mono ?_); (case side1 => exact zC HR0_2 HB); (case side2 => exact HC0_2.out); rintro e w8 ⟨rfl, hb⟩; refine ⟨_, rfl, ?_⟩; replace BK125 := zb BK125 hb; replace BK126 := zb BK126 hb; replace HB := zs HB hb; (try clear hb); (try clear hb2); (try clear hk); (try clear hi)) | ((with_reducible refine gate_dst (N := 12) rfl ?_); refine Kd.S_lit (Kd.slice 3 (Kd.int .i64)) _ 28 ?hg (N := 12) ?hd (xs := ([[]] : List (List Int))) (inner := [.slice none 0 0]) (ok := fun _ => True) (okp := fun _ => True) ?hr ?hp (fun _ hk => hk) trivial (Below.refl _ _) (Nat.le_refl _) (by simp) ?_; (case hd => rfl); (case hg => rfl); (case hr => first | (go_simp; done) | (go_simp; rfl)); (case hp => exact (Reps.one (show Kd.M (Kd.slice 3 (Kd.int .i64)) _ _ _ [] [.slice none 0 0] from ⟨_, rfl, Kd.R_nil _ _ _ _ _⟩) (Reps.none _ _))); intro v129 w9 ho10 hb hg_ hnew_; clear hg_ hnew_; (first | rw [← Ny128.out] at ho10 | (simp only [Int.reduceToNat] at ho10; rw [← Ny128.out] at ho10)); have HO130 := za (Kd.S_lower ho10 (below_size (zm HB))); replace BK125 := zb BK125 hb; replace BK126 := zb BK126 hb; replace HB := zs HB hb; clear hb ho10))
  refine wp_scope_body ?_
  go_wp2_with (first | ((with_reducible refine gate_dst (N := 1) rfl ?_); refine zE 1 #[.int .i64 a0_0, .int .i64 a0_1, .slice A0_2 l0_2.length c0_2] 33 ?_; intro gb125 hg w4 hbox hb; have BK125 := za (hbox); have GW125 := zg HB hg; have GE125 := zg HB hg; replace HB := zs HB hb; clear hb hbox hg) | ((with_reducible refine gate_dst (N := 2) rfl ?_); refine zE 2 #[.slice none 0 0] 38 ?_; intro gb126 hg w5 hbox hb; have BK126 := za (hbox); have GW126 := zg HB hg; have GE126 := zg HB hg; have NB125_126 := zl BK125 hg; have NB126_125 := zr BK125 hg; replace BK125 := zb BK125 hb; replace HB := zs HB hb; clear hb hbox hg; have hnb6 := NB125_126.out; have hnc6 := NB126_125.out; obtain ⟨hcz7_0, hcz7_1, hcz7_2, hfz7_0, hfz7_1, hfz7_2⟩ := z3 BK125) | ((with_reducible refine gate_callee (f := 39) rfl ?_); refine zL (some 9) Try.func39 #[.agg #[.int .i64 a0_0, .int .i64 a0_1, .slice A0_2 l0_2.length c0_2]] ?_; (with_reducible refine (item_ValidPaper.calls k a0_0 a0_1 _ _ l0_2 true _ ?side1 ?side2 A2.out).mono ?_); (case side1 => exact zC HR0_2 HB); (case side2 => exact HC0_2.out); rintro e w8 ⟨rfl, hb⟩; refine ⟨_, rfl, ?_⟩; replace BK125 := zb BK125 hb; replace BK126 := zb BK126 hb; replace HB := zs HB hb; (try clear hb); (try clear hb2); (try clear hk); (try clear hi)) | ((with_reducible refine gate_dst (N := 12) rfl ?_); refine Kd.S_lit (Kd.slice 3 (Kd.int .i64)) _ 28 ?hg (N := 12) ?hd (xs := ([[]] : List (List Int))) (inner := [.slice none 0 0]) (ok := fun _ => True) (okp := fun _ => True) ?hr ?hp (fun _ hk => hk) trivial (Below.refl _ _) (Nat.le_refl _) (by simp) ?_; (case hd => rfl); (case hg => rfl); (case hr => first | (go_simp; done) | (go_simp; rfl)); (case hp => exact (Reps.one (show Kd.M (Kd.slice 3 (Kd.int .i64)) _ _ _ [] [.slice none 0 0] from ⟨_, rfl, Kd.R_nil _ _ _ _ _⟩) (Reps.none _ _))); intro v129 w9 ho10 hb hg_ hnew_; clear hg_ hnew_; (first | rw [← Ny128.out] at ho10 | (simp only [Int.reduceToNat] at ho10; rw [← Ny128.out] at ho10)); have HO130 := za (Kd.S_lower ho10 (below_size (zm HB))); replace BK125 := zb BK125 hb; replace BK126 := zb BK126 hb; replace HB := zs HB hb; clear hb ho10))
  refine wp_label ?_
  go_wp2
  go_loopg [4, 5] k (fun kq v4 v5 w' => ∃ (x4_1 : List (List Int)) (x5_1 : Int), v5 = .int .i64 x5_1 ∧ Aside0 (booklet_Make.l0 kq x4_1 x5_1 a0_0 a0_1 l0_2 = some (r1, r2)) ∧ Aside0 (kq ≤ k) ∧ Aside0 (Kd.S (Kd.slice 3 (Kd.int .i64)) 28 w' w.heap.size (fun _ => True) v4 x4_1) ∧ Aside0 (w'.heap[gb125]? = some (.cells #[.int .i64 a0_0, .int .i64 a0_1, (.slice A0_2 l0_2.length c0_2)] 33 (0, 0))) ∧ Aside0 (w'.heap[gb126]? = some (.cells #[(.slice none 0 0)] 38 (0, 0))) ∧ Aside0 (Below w.heap.size w w'))
  case atStart => exact ⟨(y128), (0), (by first | rfl | (simp; done) | (simp [*]; done)), H', ⟨Nat.le_refl _⟩, ⟨by (with_reducible repeat (first | apply Kd.S_alloc | apply Kd.S_drewN | apply Kd.S_drew)); exact HO130.out⟩, ⟨by (with_reducible repeat (first | refine blk_drewN ?_ _ | refine blk_drew ?_ | refine blk_alloc ?_ _)); exact BK125.out⟩, ⟨by (with_reducible repeat (first | refine blk_drewN ?_ _ | refine blk_drew ?_ | refine blk_alloc ?_ _)); exact BK126.out⟩, ⟨zm HB⟩⟩
  case round =>
   clear H'
   try clear c1
   try clear p2
   try clear c3
   try clear c6
   try clear hcz7_0
   try clear hcz7_1
   try clear hcz7_2
   try clear hfz7_0
   try clear hfz7_1
   try clear hfz7_2
   obtain ⟨x4_1, x5_1, rfl, HA, HK1, HO_4, BK125, BK126, HB⟩ := hrel
   cases gk with
   | zero => exact absurd HA.out (by simp [booklet_Make.l0])
   | succ k1 =>
    have H := HA.out
    clear HA
    simp only [booklet_Make.l0] at H
    by_cases c11 : x5_1 < (l0_2.length : Int)
    ·rw [if_pos c11] at H
     have c11b0 : decide (x5_1 < (l0_2.length : Int)) = true := decide_eq_true c11
     clear c11
     have H' := za H
     clear H
     have hnb12 := NB125_126.out
     have hnc12 := NB126_125.out
     obtain ⟨hcz13_0, hcz13_1, hcz13_2, hfz13_0, hfz13_1, hfz13_2⟩ := z3 BK125
     go_wp2
     go_loopg [4, 5, 6, 7] k1 (fun kq v4 v5 v6 v7 w' => ∃ (x4_2 : List (List Int)) (x5_2 : Int) (x6_2 : List Int) (x7_2 : Int), v5 = .int .i64 x5_2 ∧ v7 = .int .i64 x7_2 ∧ Aside0 (booklet_Make.l1 kq x4_2 x5_2 x6_2 x7_2 a0_0 a0_1 l0_2 = some (r1, r2)) ∧ Aside0 (kq ≤ k1) ∧ Aside0 (Kd.S (Kd.slice 3 (Kd.int .i64)) 28 w' w.heap.size (fun k_ => some k_ ≠ (v6 : Value).ownBlock) v4 x4_2) ∧ Aside0 (Kd.R (Kd.int .i64) 3 w' w.heap.size (fun _ => True) v6 x6_2) ∧ Aside0 (w'.heap[gb125]? = some (.cells #[.int .i64 a0_0, .int .i64 a0_1, (.slice A0_2 l0_2.length c0_2)] 33 (0, 0))) ∧ Aside0 (w'.heap[gb126]? = some (.cells #[(.slice none 0 0)] 38 (0, 0))) ∧ Aside0 (Below w.heap.size w w'))
     case atStart => exact ⟨(x4_1), (x5_1), (([] : List Int)), (30), (by first | rfl | (simp; done) | (simp [*]; done)), (by first | rfl | (simp; done) | (simp [*]; done)), H', ⟨Nat.le_refl _⟩, ⟨by (with_reducible repeat (first | apply Kd.S_alloc | apply Kd.S_drewN | apply Kd.S_drew)); exact Kd.S_mono HO_4.out (fun _ hk => (by simp [Value.ownBlock]))⟩, ⟨by first | exact Kd.R_nil _ _ _ _ _ | exact Kd.N_nil _ _ _ _ _ | exact Kd.V_nil _ _ _ _ _ | exact Kd.Q_nil _ _ _ _ _ | exact Kd.S_nil _ _ _ _ _⟩, ⟨by (with_reducible repeat (first | refine blk_drewN ?_ _ | refine blk_drew ?_ | refine blk_alloc ?_ _)); exact BK125.out⟩, ⟨by (with_reducible repeat (first | refine blk_drewN ?_ _ | refine blk_drew ?_ | refine blk_alloc ?_ _)); exact BK126.out⟩, ⟨zm HB⟩⟩
     case round =>
      clear H'
      try clear c1
      try clear p2
      try clear c3
      try clear c6
      try clear c11
      try clear c11b0
      try clear c12
      try clear hcz13_0
      try clear hcz13_1
      try clear hcz13_2
      try clear hcz7_0
      try clear hcz7_1
      try clear hcz7_2
      try clear hfz13_0
      try clear hfz13_1
      try clear hfz13_2
      try clear hfz7_0
      try clear hfz7_1
      try clear hfz7_2
      try clear p2
      obtain ⟨x4_2, x5_2, x6_2, x7_2, rfl, rfl, HA, HK2, HO_4, HO_6, BK125, BK126, HB⟩ := hrel
      cases gk with
      | zero => exact absurd HA.out (by simp [booklet_Make.l1])
      | succ k2 =>
       have H := HA.out
       clear HA
       simp only [booklet_Make.l1] at H
       by_cases c14 : x5_2 < (l0_2.length : Int)
       ·rw [if_pos c14] at H
        have c14b0 : decide (x5_2 < (l0_2.length : Int)) = true := decide_eq_true c14
        clear c14
        by_cases c15 : 0 ≤ x5_2
        ·rw [if_pos c15] at H
         have c15b0 : decide (0 ≤ x5_2) = true := decide_eq_true c15
         clear c15
         replace H := Option.bind_eq_some_iff.mp H
         obtain ⟨t132, A160, H⟩ := H
         replace H : (if (wrap64 (x7_2 - t132)) < 0 then (if x4_2.length < 5864062014805 then (booklet_Make.l0 k2 (x4_2 ++ [x6_2]) x5_2 a0_0 a0_1 l0_2) else (none)) else (if x6_2.length < 17592186044416 then (booklet_Make.l1 k2 x4_2 (wrap64 (x5_2 + 1)) (x6_2 ++ [x5_2]) (wrap64 (x7_2 - t132)) a0_0 a0_1 l0_2) else (none))) = some (r1, r2) := H
         have A16 := za A160
         clear A160
         by_cases c17 : (wrap64 (x7_2 - t132)) < 0
         ·rw [if_pos c17] at H
          have c17b0 : decide ((wrap64 (x7_2 - t132)) < 0) = true := decide_eq_true c17
          clear c17
          by_cases c18 : x4_2.length < 5864062014805
          ·rw [if_pos c18] at H
           have LMc18 := za c18
           clear c18
           obtain ⟨y133, hy133⟩ : ∃ y_ : List (List Int), y_ = (x4_2 ++ [x6_2]) := ⟨_, rfl⟩
           replace H : (booklet_Make.l0 k2 y133 x5_2 a0_0 a0_1 l0_2) = some (r1, r2) := by first | (rw [hy133]; with_reducible exact H) | (have H2_ := (Option.bind_some _ _).symm.trans H; rw [hy133]; with_reducible exact H2_) | (have H2_ := (Option.bind_some _ _).symm.trans H; with_reducible exact H2_) | with_reducible exact H | (rw [hy133]; exact H) | exact H
           have Ny133 := za hy133
           clear hy133
           have H' := za H
           clear H
           have hnb19 := NB125_126.out
           have hnc19 := NB126_125.out
           obtain ⟨hcz20_0, hcz20_1, hcz20_2, hfz20_0, hfz20_1, hfz20_2⟩ := z3 BK125
           have p131 : 0 ≤ (x5_2 : Int) := of_decide_eq_true (by first | (with_reducible assumption) | assumption)
           have q131 : x5_2 < (l0_2.length : Int) := of_decide_eq_true (by first | (with_reducible assumption) | assumption)
           obtain ⟨ad131, e131, hx131_0, hx131_1, hx131_2, hx131_3, hx131_4, hx131_5⟩ := at_T23 HR0_2.out x5_2 p131 q131
           cases e131
           replace hx131_0 := zx HB hx131_0
           replace hx131_1 := zx HB hx131_1
           replace hx131_2 := zx HB hx131_2
           replace hx131_3 := zx HB hx131_3
           replace hx131_4 := zx HB hx131_4
           replace hx131_5 := zx HB hx131_5
           replace p131 := eq_true p131
           replace q131 := eq_true q131
           go_wp2_with (first | ((with_reducible refine gate_callee (f := 12) rfl ?_); refine zL (some 31) Try.func12 #[.agg #[.int .i64 ((rd_T23 l0_2 x5_2).f0), .int .i64 ((rd_T23 l0_2 x5_2).f1), .int .i64 ((rd_T23 l0_2 x5_2).f2), .int .i64 ((rd_T23 l0_2 x5_2).f3), .int .i64 ((rd_T23 l0_2 x5_2).f4), .int .i64 ((rd_T23 l0_2 x5_2).f5)]] ?_; (with_reducible refine (booklet_Need.calls k2 ((rd_T23 l0_2 x5_2).f0) ((rd_T23 l0_2 x5_2).f1) ((rd_T23 l0_2 x5_2).f2) ((rd_T23 l0_2 x5_2).f3) ((rd_T23 l0_2 x5_2).f4) ((rd_T23 l0_2 x5_2).f5) t132 _ A16.out).mono ?_); rintro e w21 ⟨rfl, hb⟩; refine ⟨_, rfl, ?_⟩; replace HO_4 := zS HO_4 hb; replace HO_6 := zR HO_6 hb; replace BK125 := zb BK125 hb; replace BK126 := zb BK126 hb; replace HB := zs HB hb; (try clear hb); (try clear hb2); (try clear hk); (try clear hi); obtain ⟨Ao23, co23, eo23⟩ := Kd.R_slice HO_6.out; subst eo23) | ((with_reducible refine gate_builtin (b := .append) (xs := #[.tmp 35, .tmp 37]) rfl ?_); at_builtin; refine Kd.S_append (Kd.slice 3 (Kd.int .i64)) (w0 := w) w.heap.size rfl (.tmp 35) (.tmp 37) 36 28 (.slice none 0 0) 24 rfl Try.underlying36 info28 rfl (by decide) (by omega) u4 x4_2 x6_2 [.slice Ao23 x6_2.length co23] (fun _ => True) (fun k_ => some k_ = (.slice Ao23 x6_2.length co23 : Value).ownBlock) rfl rfl ?aP (fun k_ hk_ => ((Kd.R_mono (ok' := fun k_ => ((fun _ => True)) k_ ∧ some k_ ≠ (u4 : Value).ownBlock) (Kd.R_apart' (HO_6.out) (Kd.S_typed HO_4.out) (by decide)) (fun k_ hk => ⟨trivial, hk.2⟩))).1 k_ hk_.symm) ?aF ?aO ?aB ?aS ?aL ?_; (case aP => exact Kd.M_row (Kd.R_mono (Kd.R_tight rfl (Kd.R_mono (ok' := fun k_ => ((fun _ => True)) k_ ∧ some k_ ≠ (u4 : Value).ownBlock) (Kd.R_apart' (HO_6.out) (Kd.S_typed HO_4.out) (by decide)) (fun k_ hk => ⟨trivial, hk.2⟩))) (fun _ h_ => h_))); (case aB => exact (zm HB)); (case aF => exact (fun _ _ => trivial)); (case aO => exact (by (with_reducible repeat (first | apply Kd.S_alloc | apply Kd.S_drewN | apply Kd.S_drew)); exact Kd.S_mono HO_4.out (fun k_ hk => ⟨trivial, fun e_ => hk e_⟩))); (case aS => exact (below_size (zm HB))); (case aL => have := LMc18.out; omega); intro v134 w22 ho hb hg hat; rw [← Ny133.out] at ho; have HO135 := za (ho); replace BK125 := (zw BK125 hg (Kd.S_ne HO_4.out BK125.out (by decide))); replace BK126 := (zw BK126 hg (Kd.S_ne HO_4.out BK126.out (by decide))); replace HB := za (hb); clear HO_4 HO_6 ho hb hg hat))
           go_roundg k2
           case measure => have := HK1.out; have := HK2.out; omega
           case rel => exact ⟨(y133), (x5_2), (by first | rfl | (simp; done) | (simp [*]; done)), H', ⟨by have := HK1.out; have := HK2.out; omega⟩, ⟨by (with_reducible repeat (first | apply Kd.S_alloc | apply Kd.S_drewN | apply Kd.S_drew)); exact HO135.out⟩, ⟨by (with_reducible repeat (first | refine blk_drewN ?_ _ | refine blk_drew ?_ | refine blk_alloc ?_ _)); exact BK125.out⟩, ⟨by (with_reducible repeat (first | refine blk_drewN ?_ _ | refine blk_drew ?_ | refine blk_alloc ?_ _)); exact BK126.out⟩, ⟨zm HB⟩⟩
          ·rw [if_neg c18] at H
           exact absurd H (by simp)
         ·rw [if_neg c17] at H
          have c17b0 : decide ((wrap64 (x7_2 - t132)) < 0) = false := decide_eq_false c17
          clear c17
          by_cases c24 : x6_2.length < 17592186044416
          ·rw [if_pos c24] at H
           have LMc24 := za c24
           clear c24
           obtain ⟨y136, hy136⟩ : ∃ y_ : List Int, y_ = (x6_2 ++ [x5_2]) := ⟨_, rfl⟩
           replace H : (booklet_Make.l1 k2 x4_2 (wrap64 (x5_2 + 1)) y136 (wrap64 (x7_2 - t132)) a0_0 a0_1 l0_2) = some (r1, r2) := by first | (rw [hy136]; with_reducible exact H) | (have H2_ := (Option.bind_some _ _).symm.trans H; rw [hy136]; with_reducible exact H2_) | (have H2_ := (Option.bind_some _ _).symm.trans H; with_reducible exact H2_) | with_reducible exact H | (rw [hy136]; exact H) | exact H
           have Ny136 := za hy136
           clear hy136
           have H' := za H
           clear H
           have hnb25 := NB125_126.out
           have hnc25 := NB126_125.out
           obtain ⟨hcz26_0, hcz26_1, hcz26_2, hfz26_0, hfz26_1, hfz26_2⟩ := z3 BK125
           have p131 : 0 ≤ (x5_2 : Int) := of_decide_eq_true (by first | (with_reducible assumption) | assumption)
           have q131 : x5_2 < (l0_2.length : Int) := of_decide_eq_true (by first | (with_reducible assumption) | assumption)
           obtain ⟨ad131, e131, hx131_0, hx131_1, hx131_2, hx131_3, hx131_4, hx131_5⟩ := at_T23 HR0_2.out x5_2 p131 q131
           cases e131
           replace hx131_0 := zx HB hx131_0
           replace hx131_1 := zx HB hx131_1
           replace hx131_2 := zx HB hx131_2
           replace hx131_3 := zx HB hx131_3
           replace hx131_4 := zx HB hx131_4
           replace hx131_5 := zx HB hx131_5
           replace p131 := eq_true p131
           replace q131 := eq_true q131
           go_wp2_with (first | ((with_reducible refine gate_callee (f := 12) rfl ?_); refine zL (some 31) Try.func12 #[.agg #[.int .i64 ((rd_T23 l0_2 x5_2).f0), .int .i64 ((rd_T23 l0_2 x5_2).f1), .int .i64 ((rd_T23 l0_2 x5_2).f2), .int .i64 ((rd_T23 l0_2 x5_2).f3), .int .i64 ((rd_T23 l0_2 x5_2).f4), .int .i64 ((rd_T23 l0_2 x5_2).f5)]] ?_; (with_reducible refine (booklet_Need.calls k2 ((rd_T23 l0_2 x5_2).f0) ((rd_T23 l0_2 x5_2).f1) ((rd_T23 l0_2 x5_2).f2) ((rd_T23 l0_2 x5_2).f3) ((rd_T23 l0_2 x5_2).f4) ((rd_T23 l0_2 x5_2).f5) t132 _ A16.out).mono ?_); rintro e w27 ⟨rfl, hb⟩; refine ⟨_, rfl, ?_⟩; replace HO_4 := zS HO_4 hb; replace HO_6 := zR HO_6 hb; replace BK125 := zb BK125 hb; replace BK126 := zb BK126 hb; replace HB := zs HB hb; (try clear hb); (try clear hb2); (try clear hk); (try clear hi)) | ((with_reducible refine gate_builtin (b := .append) (xs := #[.tmp 39, .tmp 41]) rfl ?_); at_builtin; refine Kd.R_append (Kd.int .i64) (w0 := w) w.heap.size rfl (.tmp 39) (.tmp 41) 28 3 (.int .i64 0) 8 rfl Try.underlying28 info3 rfl (by decide) (by omega) u6 x6_2 x5_2 [.int .i64 x5_2] (fun _ => True) (fun _ => False) rfl rfl ?aP (fun _ hk => hk.elim) ?aF ?aO ?aB ?aS ?aL ?_; (case aP => exact rfl); (case aB => exact (zm HB)); (case aF => exact (fun _ _ => trivial)); (case aO => exact (by (with_reducible repeat (first | apply Kd.R_alloc | apply Kd.R_drewN | apply Kd.R_drew)); exact HO_6.out)); (case aS => exact (below_size (zm HB))); (case aL => have := LMc24.out; omega); intro v137 w28 ho hb hg hat; rw [← Ny136.out] at ho; have HO138 := za (ho); replace HO_4 := za (Kd.S_after (ok := (fun _ => True)) (by (with_reducible repeat (first | apply Kd.S_alloc | apply Kd.S_drewN | apply Kd.S_drew)); exact Kd.S_mono HO_4.out (fun _ hk => ⟨trivial, hk⟩)) hg hat); replace BK125 := (zw BK125 hg (Kd.R_ne HO_6.out BK125.out (by decide))); replace BK126 := (zw BK126 hg (Kd.R_ne HO_6.out BK126.out (by decide))); replace HB := za (hb); clear HO_6 ho hb hg hat))
           go_roundg k2
           case measure => have := HK1.out; have := HK2.out; omega
           case rel => exact ⟨(x4_2), (wrap64 (x5_2 + 1)), (y136), (wrap64 (x7_2 - t132)), (by first | rfl | (simp; done) | (simp [*]; done)), (by first | rfl | (simp; done) | (simp [*]; done)), H', ⟨by have := HK1.out; have := HK2.out; omega⟩, ⟨by (with_reducible repeat (first | apply Kd.S_alloc | apply Kd.S_drewN | apply Kd.S_drew)); exact Kd.S_mono HO_4.out (fun _ hk => hk.2)⟩, ⟨by (with_reducible repeat (first | apply Kd.R_alloc | apply Kd.R_drewN | apply Kd.R_drew)); exact HO138.out⟩, ⟨by (with_reducible repeat (first | refine blk_drewN ?_ _ | refine blk_drew ?_ | refine blk_alloc ?_ _)); exact BK125.out⟩, ⟨by (with_reducible repeat (first | refine blk_drewN ?_ _ | refine blk_drew ?_ | refine blk_alloc ?_ _)); exact BK126.out⟩, ⟨zm HB⟩⟩
          ·rw [if_neg c24] at H
           exact absurd H (by simp)
        ·rw [if_neg c15] at H
         exact absurd H (by simp)
       ·rw [if_neg c14] at H
        have c14b0 : decide (x5_2 < (l0_2.length : Int)) = false := decide_eq_false c14
        clear c14
        by_cases c29 : x4_2.length < 5864062014805
        ·rw [if_pos c29] at H
         have LMc29 := za c29
         clear c29
         obtain ⟨y139, hy139⟩ : ∃ y_ : List (List Int), y_ = (x4_2 ++ [x6_2]) := ⟨_, rfl⟩
         replace H : (booklet_Make.l0 k2 y139 x5_2 a0_0 a0_1 l0_2) = some (r1, r2) := by first | (rw [hy139]; with_reducible exact H) | (have H2_ := (Option.bind_some _ _).symm.trans H; rw [hy139]; with_reducible exact H2_) | (have H2_ := (Option.bind_some _ _).symm.trans H; with_reducible exact H2_) | with_reducible exact H | (rw [hy139]; exact H) | exact H
         have Ny139 := za hy139
         clear hy139
         have H' := za H
         clear H
         have hnb30 := NB125_126.out
         have hnc30 := NB126_125.out
         obtain ⟨hcz31_0, hcz31_1, hcz31_2, hfz31_0, hfz31_1, hfz31_2⟩ := z3 BK125
         obtain ⟨Ao33, co33, eo33⟩ := Kd.R_slice HO_6.out
         subst eo33
         go_wp2_with (first | ((with_reducible refine gate_builtin (b := .append) (xs := #[.tmp 43, .tmp 45]) rfl ?_); at_builtin; refine Kd.S_append (Kd.slice 3 (Kd.int .i64)) (w0 := w) w.heap.size rfl (.tmp 43) (.tmp 45) 36 28 (.slice none 0 0) 24 rfl Try.underlying36 info28 rfl (by decide) (by omega) u4 x4_2 x6_2 [.slice Ao33 x6_2.length co33] (fun _ => True) (fun k_ => some k_ = (.slice Ao33 x6_2.length co33 : Value).ownBlock) rfl rfl ?aP (fun k_ hk_ => ((Kd.R_mono (ok' := fun k_ => ((fun _ => True)) k_ ∧ some k_ ≠ (u4 : Value).ownBlock) (Kd.R_apart' (HO_6.out) (Kd.S_typed HO_4.out) (by decide)) (fun k_ hk => ⟨trivial, hk.2⟩))).1 k_ hk_.symm) ?aF ?aO ?aB ?aS ?aL ?_; (case aP => exact Kd.M_row (Kd.R_mono (Kd.R_tight rfl (Kd.R_mono (ok' := fun k_ => ((fun _ => True)) k_ ∧ some k_ ≠ (u4 : Value).ownBlock) (Kd.R_apart' (HO_6.out) (Kd.S_typed HO_4.out) (by decide)) (fun k_ hk => ⟨trivial, hk.2⟩))) (fun _ h_ => h_))); (case aB => exact (zm HB)); (case aF => exact (fun _ _ => trivial)); (case aO => exact (by (with_reducible repeat (first | apply Kd.S_alloc | apply Kd.S_drewN | apply Kd.S_drew)); exact Kd.S_mono HO_4.out (fun k_ hk => ⟨trivial, fun e_ => hk e_⟩))); (case aS => exact (below_size (zm HB))); (case aL => have := LMc29.out; omega); intro v140 w32 ho hb hg hat; rw [← Ny139.out] at ho; have HO141 := za (ho); replace BK125 := (zw BK125 hg (Kd.S_ne HO_4.out BK125.out (by decide))); replace BK126 := (zw BK126 hg (Kd.S_ne HO_4.out BK126.out (by decide))); replace HB := za (hb); clear HO_4 HO_6 ho hb hg hat))
         go_roundg k2
         case measure => have := HK1.out; have := HK2.out; omega
         case rel => exact ⟨(y139), (x5_2), (by first | rfl | (simp; done) | (simp [*]; done)), H', ⟨by have := HK1.out; have := HK2.out; omega⟩, ⟨by (with_reducible repeat (first | apply Kd.S_alloc | apply Kd.S_drewN | apply Kd.S_drew)); exact HO141.out⟩, ⟨by (with_reducible repeat (first | refine blk_drewN ?_ _ | refine blk_drew ?_ | refine blk_alloc ?_ _)); exact BK125.out⟩, ⟨by (with_reducible repeat (first | refine blk_drewN ?_ _ | refine blk_drew ?_ | refine blk_alloc ?_ _)); exact BK126.out⟩, ⟨zm HB⟩⟩
        ·rw [if_neg c29] at H
         exact absurd H (by simp)
    ·rw [if_neg c11] at H
     have c11b0 : decide (x5_1 < (l0_2.length : Int)) = false := decide_eq_false c11
     clear c11
     have H' := za H
     clear H
     have hnb34 := NB125_126.out
     have hnc34 := NB126_125.out
     obtain ⟨hcz35_0, hcz35_1, hcz35_2, hfz35_0, hfz35_1, hfz35_2⟩ := z3 BK125
     go_wp2
     go_loopg [4] k1 (fun kq v4 w' => ∃ (x4_2 : List (List Int)), Aside0 (booklet_Make.l2 kq x4_2 = some (r1, r2)) ∧ Aside0 (kq ≤ k1) ∧ Aside0 (Kd.S (Kd.slice 3 (Kd.int .i64)) 28 w' w.heap.size (fun _ => True) v4 x4_2) ∧ Aside0 (w'.heap[gb125]? = some (.cells #[.int .i64 a0_0, .int .i64 a0_1, (.slice A0_2 l0_2.length c0_2)] 33 (0, 0))) ∧ Aside0 (w'.heap[gb126]? = some (.cells #[(.slice none 0 0)] 38 (0, 0))) ∧ Aside0 (Below w.heap.size w w'))
     case atStart => exact ⟨(x4_1), H', ⟨Nat.le_refl _⟩, ⟨by (with_reducible repeat (first | apply Kd.S_alloc | apply Kd.S_drewN | apply Kd.S_drew)); exact HO_4.out⟩, ⟨by (with_reducible repeat (first | refine blk_drewN ?_ _ | refine blk_drew ?_ | refine blk_alloc ?_ _)); exact BK125.out⟩, ⟨by (with_reducible repeat (first | refine blk_drewN ?_ _ | refine blk_drew ?_ | refine blk_alloc ?_ _)); exact BK126.out⟩, ⟨zm HB⟩⟩
     case round =>
      clear H'
      try clear c1
      try clear p1
      try clear q1
      try clear hx1
      try clear c2
      try clear p2
      try clear c3
      try clear c6
      try clear p6
      try clear c11
      try clear c11b0
      try clear c12
      try clear p13
      try clear q13
      try clear hx13
      try clear c14
      try clear c14b0
      try clear c15
      try clear c15b0
      try clear c17
      try clear c17b0
      try clear c18
      try clear c19
      try clear c24
      try clear c25
      try clear c29
      try clear c30
      try clear c34
      try clear hcz13_0
      try clear hcz13_1
      try clear hcz13_2
      try clear hcz20_0
      try clear hcz20_1
      try clear hcz20_2
      try clear hcz26_0
      try clear hcz26_1
      try clear hcz26_2
      try clear hcz31_0
      try clear hcz31_1
      try clear hcz31_2
      try clear hcz35_0
      try clear hcz35_1
      try clear hcz35_2
      try clear hcz7_0
      try clear hcz7_1
      try clear hcz7_2
      try clear hfz13_0
      try clear hfz13_1
      try clear hfz13_2
      try clear hfz20_0
      try clear hfz20_1
      try clear hfz20_2
      try clear hfz26_0
      try clear hfz26_1
      try clear hfz26_2
      try clear hfz31_0
      try clear hfz31_1
      try clear hfz31_2
      try clear hfz35_0
      try clear hfz35_1
      try clear hfz35_2
      try clear hfz7_0
      try clear hfz7_1
      try clear hfz7_2
      try clear hx131_0
      try clear hx131_1
      try clear hx131_2
      try clear hx131_3
      try clear hx131_4
      try clear hx131_5
      try clear p131
      try clear p2
      try clear q131
      obtain ⟨x4_2, HA, HK2, HO_4, BK125, BK126, HB⟩ := hrel
      cases gk with
      | zero => exact absurd HA.out (by simp [booklet_Make.l2])
      | succ k2 =>
       have H := HA.out
       clear HA
       simp only [booklet_Make.l2] at H
       by_cases c36 : ((x4_2.length : Int) % 4) = 0
       ·rw [if_pos c36] at H
        have c36b0 : (((x4_2.length : Int) % 4) == 0) = true := beq_iff_eq.mpr c36
        have c36b1 : (((x4_2.length : Int) % 4) != 0) = false := bne_eq_false_iff_eq.mpr c36
        clear c36
        by_cases c37 : (x4_2.length : Int) > 12
        ·rw [if_pos c37] at H
         have c37b0 : decide (12 < (x4_2.length : Int)) = true := decide_eq_true c37
         have c37b1 : decide (12 < x4_2.length) = true := decide_eq_true (by omega)
         clear c37
         simp only [Option.some.injEq, Prod.mk.injEq] at H
         obtain ⟨rfl, rfl⟩ := H
         obtain ⟨Ao38, co38, eo38⟩ := Kd.S_slice HO_4.out
         subst eo38
         have hnb39 := NB126_125.out
         have hnc39 := NB125_126.out
         obtain ⟨hcz40_0, hfz40_0⟩ := z1 BK126
         go_wp2
         refine bodyPost_ret (results_ct rfl _ _ gb126 38 #[.slice none 0 0] (0, 0) _ rfl (by (with_reducible repeat (first | refine blk_drewN ?_ _ | refine blk_drew ?_ | refine blk_alloc ?_ _)); refine blk_put (cs := #[.slice none 0 0]) ?_ 0 _ rfl; (with_reducible repeat (first | refine blk_drewN ?_ _ | refine blk_drew ?_ | refine blk_alloc ?_ _)); exact BK126.out) Try.underlying38 rfl (by kernel_rfl)) rfl ?_
         exact ⟨_, zf, by first | exact Kd.S_nil _ _ _ _ _ | exact Kd.N_nil _ _ _ _ _ | exact Kd.V_nil _ _ _ _ _ | exact Kd.Q_nil _ _ _ _ _ | exact Kd.R_nil _ _ _ _ _, zm HB⟩
        ·rw [if_neg c37] at H
         have c37b0 : decide (12 < (x4_2.length : Int)) = false := decide_eq_false c37
         have c37b1 : decide (12 < x4_2.length) = false := decide_eq_false (by omega)
         clear c37
         simp only [Option.some.injEq, Prod.mk.injEq] at H
         obtain ⟨rfl, rfl⟩ := H
         obtain ⟨Ao41, co41, eo41⟩ := Kd.S_slice HO_4.out
         subst eo41
         have hnb42 := NB126_125.out
         have hnc42 := NB125_126.out
         obtain ⟨hcz43_0, hfz43_0⟩ := z1 BK126
         go_wp2
         refine bodyPost_ret (results_ct rfl _ _ gb126 38 #[.slice Ao41 x4_2.length co41] (0, 0) _ rfl (by (with_reducible repeat (first | refine blk_drewN ?_ _ | refine blk_drew ?_ | refine blk_alloc ?_ _)); refine blk_put (cs := #[.slice none 0 0]) ?_ 0 _ rfl; (with_reducible repeat (first | refine blk_drewN ?_ _ | refine blk_drew ?_ | refine blk_alloc ?_ _)); exact BK126.out) Try.underlying38 rfl (by kernel_rfl)) rfl ?_
         exact ⟨_, zf, by (with_reducible repeat (first | apply Kd.S_alloc | apply Kd.S_drewN | apply Kd.S_drew)); exact Kd.S_mono (Kd.S_far (p := ⟨gb126, 0, none⟩) (Kd.S_types HO_4.out BK126.out (by decide)) (fun _ hk => hk.2) (.slice Ao41 x4_2.length co41)) (fun _ hk => trivial), zm HB⟩
       ·rw [if_neg c36] at H
        have c36b0 : (((x4_2.length : Int) % 4) == 0) = false := beq_eq_false_iff_ne.mpr c36
        have c36b1 : (((x4_2.length : Int) % 4) != 0) = true := bne_iff_ne.mpr c36
        by_cases c44 : x4_2.length < 5864062014805
        ·rw [if_pos c44] at H
         have LMc44 := za c44
         clear c44
         obtain ⟨y142, hy142⟩ : ∃ y_ : List (List Int), y_ = (x4_2 ++ [[]]) := ⟨_, rfl⟩
         replace H : (booklet_Make.l2 k2 y142) = some (r1, r2) := by first | (rw [hy142]; with_reducible exact H) | (have H2_ := (Option.bind_some _ _).symm.trans H; rw [hy142]; with_reducible exact H2_) | (have H2_ := (Option.bind_some _ _).symm.trans H; with_reducible exact H2_) | with_reducible exact H | (rw [hy142]; exact H) | exact H
         have Ny142 := za hy142
         clear hy142
         have H' := za H
         clear H
         obtain ⟨Ao45, co45, eo45⟩ := Kd.S_slice HO_4.out
         subst eo45
         go_wp2_with (first | ((with_reducible refine gate_builtin (b := .append) (xs := #[.tmp 51, .tmp 52]) rfl ?_); at_builtin; refine Kd.S_append (Kd.slice 3 (Kd.int .i64)) (w0 := w) w.heap.size rfl (.tmp 51) (.tmp 52) 36 28 (.slice none 0 0) 24 rfl Try.underlying36 info28 rfl (by decide) (by omega) (.slice Ao45 x4_2.length co45) x4_2 ([] : List Int) [.slice none 0 0] (fun _ => True) (fun _ => False) rfl rfl ?aP (fun k_ hk_ => hk_.elim) ?aF ?aO ?aB ?aS ?aL ?_; (case aP => exact Kd.M_row (Kd.R_nil _ _ _ _ _)); (case aB => exact (zm HB)); (case aF => exact (fun _ _ => trivial)); (case aO => exact (by (with_reducible repeat (first | apply Kd.S_alloc | apply Kd.S_drewN | apply Kd.S_drew)); exact Kd.S_mono HO_4.out (fun k_ hk => ⟨trivial, fun e_ => e_⟩))); (case aS => exact (below_size (zm HB))); (case aL => have := LMc44.out; omega); intro v143 w46 ho hb hg hat; rw [← Ny142.out] at ho; have HO144 := za (ho); replace BK125 := (zw BK125 hg (Kd.S_ne HO_4.out BK125.out (by decide))); replace BK126 := (zw BK126 hg (Kd.S_ne HO_4.out BK126.out (by decide))); replace HB := za (hb); clear HO_4 ho hb hg hat))
         go_roundg k2
         case measure => have := HK1.out; have := HK2.out; omega
         case rel => exact ⟨(y142), H', ⟨by have := HK1.out; have := HK2.out; omega⟩, ⟨by (with_reducible repeat (first | apply Kd.S_alloc | apply Kd.S_drewN | apply Kd.S_drew)); exact HO144.out⟩, ⟨by (with_reducible repeat (first | refine blk_drewN ?_ _ | refine blk_drew ?_ | refine blk_alloc ?_ _)); exact BK125.out⟩, ⟨by (with_reducible repeat (first | refine blk_drewN ?_ _ | refine blk_drew ?_ | refine blk_alloc ?_ _)); exact BK126.out⟩, ⟨zm HB⟩⟩
        ·rw [if_neg c44] at H
         exact absurd H (by simp)
 ·replace c3 := Bool.eq_false_iff.mpr c3
  subst c3
  have H1 : (some (([] : List (List Int)), 1)) = some (r1, r2) := by rw [if_neg (show ¬ (false = true) by decide)] at H; exact H
  clear H
  have H := H1
  clear H1
  simp only [Option.some.injEq, Prod.mk.injEq] at H
  obtain ⟨rfl, rfl⟩ := H
  go_enter Try.func18, Try.ntmps18
  go_wp2_with (first | ((with_reducible refine gate_dst (N := 1) rfl ?_); refine zE 1 #[.int .i64 a0_0, .int .i64 a0_1, .slice A0_2 l0_2.length c0_2] 33 ?_; intro gb125 hg w47 hbox hb; have BK125 := za (hbox); have GW125 := zg HB hg; have GE125 := zg HB hg; replace HB := zs HB hb; clear hb hbox hg) | ((with_reducible refine gate_dst (N := 2) rfl ?_); refine zE 2 #[.slice none 0 0] 38 ?_; intro gb126 hg w48 hbox hb; have BK126 := za (hbox); have GW126 := zg HB hg; have GE126 := zg HB hg; have NB125_126 := zl BK125 hg; have NB126_125 := zr BK125 hg; replace BK125 := zb BK125 hb; replace HB := zs HB hb; clear hb hbox hg; have hnb49 := NB125_126.out; have hnc49 := NB126_125.out; obtain ⟨hcz50_0, hcz50_1, hcz50_2, hfz50_0, hfz50_1, hfz50_2⟩ := z3 BK125) | ((with_reducible refine gate_callee (f := 39) rfl ?_); refine zL (some 9) Try.func39 #[.agg #[.int .i64 a0_0, .int .i64 a0_1, .slice A0_2 l0_2.length c0_2]] ?_; (with_reducible refine (item_ValidPaper.calls k a0_0 a0_1 _ _ l0_2 false _ ?side1 ?side2 A2.out).mono ?_); (case side1 => exact zC HR0_2 HB); (case side2 => exact HC0_2.out); rintro e w51 ⟨rfl, hb⟩; refine ⟨_, rfl, ?_⟩; replace BK125 := zb BK125 hb; replace BK126 := zb BK126 hb; replace HB := zs HB hb; (try clear hb); (try clear hb2); (try clear hk); (try clear hi); obtain ⟨hcz52_0, hfz52_0⟩ := z1 BK126))
  refine wp_scope_body ?_
  go_wp2_with (first | ((with_reducible refine gate_dst (N := 1) rfl ?_); refine zE 1 #[.int .i64 a0_0, .int .i64 a0_1, .slice A0_2 l0_2.length c0_2] 33 ?_; intro gb125 hg w47 hbox hb; have BK125 := za (hbox); have GW125 := zg HB hg; have GE125 := zg HB hg; replace HB := zs HB hb; clear hb hbox hg) | ((with_reducible refine gate_dst (N := 2) rfl ?_); refine zE 2 #[.slice none 0 0] 38 ?_; intro gb126 hg w48 hbox hb; have BK126 := za (hbox); have GW126 := zg HB hg; have GE126 := zg HB hg; have NB125_126 := zl BK125 hg; have NB126_125 := zr BK125 hg; replace BK125 := zb BK125 hb; replace HB := zs HB hb; clear hb hbox hg; have hnb49 := NB125_126.out; have hnc49 := NB126_125.out; obtain ⟨hcz50_0, hcz50_1, hcz50_2, hfz50_0, hfz50_1, hfz50_2⟩ := z3 BK125) | ((with_reducible refine gate_callee (f := 39) rfl ?_); refine zL (some 9) Try.func39 #[.agg #[.int .i64 a0_0, .int .i64 a0_1, .slice A0_2 l0_2.length c0_2]] ?_; (with_reducible refine (item_ValidPaper.calls k a0_0 a0_1 _ _ l0_2 false _ ?side1 ?side2 A2.out).mono ?_); (case side1 => exact zC HR0_2 HB); (case side2 => exact HC0_2.out); rintro e w51 ⟨rfl, hb⟩; refine ⟨_, rfl, ?_⟩; replace BK125 := zb BK125 hb; replace BK126 := zb BK126 hb; replace HB := zs HB hb; (try clear hb); (try clear hb2); (try clear hk); (try clear hi); obtain ⟨hcz52_0, hfz52_0⟩ := z1 BK126))
  refine bodyPost_ret (results_ct rfl _ _ gb126 38 #[.slice none 0 0] (0, 0) _ rfl (by (with_reducible repeat (first | refine blk_drewN ?_ _ | refine blk_drew ?_ | refine blk_alloc ?_ _)); refine blk_put (cs := #[.slice none 0 0]) ?_ 0 _ rfl; (with_reducible repeat (first | refine blk_drewN ?_ _ | refine blk_drew ?_ | refine blk_alloc ?_ _)); exact BK126.out) Try.underlying38 rfl (by kernel_rfl)) rfl ?_
  exact ⟨_, zf, by first | exact Kd.S_nil _ _ _ _ _ | exact Kd.N_nil _ _ _ _ _ | exact Kd.V_nil _ _ _ _ _ | exact Kd.Q_nil _ _ _ _ _ | exact Kd.R_nil _ _ _ _ _, zm HB⟩

end Go.Proofs.Ytdmlbgdefapcjaa.Print
