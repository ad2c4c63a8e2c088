-- Printed by a program of this session (wip/own_print.py) out of the translation; Lean checks it.
import Derived.Test.YthbmpjglkbhhgaaShort
import Derived.Laws.IdiomCopy
import Derived.Test.YthbmpjglkbhhgaaClip
import Derived.Test.YthbmpjglkbhhgaaPrint0
import Derived.Test.YthbmpjglkbhhgaaPrint7
namespace Go.Proofs.Ythbmpjglkbhhgaa.Print
open Go.RowKit Go.Proofs.YthbmpjglkbhhgaaW.PrintWords Go.Proofs.YthbmpjglkbhhgaaW.PrintLast Go.Proofs.YthbmpjglkbhhgaaW.PrintMore
attribute [local go_sem] max2_int min2_int max_two min_two max_three min_three max_four min_four   -- for this text's walks alone
set_option linter.unusedVariables false
set_option linter.unusedSimpArgs false

/-! ### bubble_Split: function 25 -/
def bubble_Split.l0 : Nat → List (S46) → List Int → List (List Int) → Int → Int → Int → Option ((List (List Int)) × Int)
  | 0, _, _, _, _, _, _ => none
  | k + 1, x0, x6, x7, x8, x19, x20 => if x20 < x19 then (if (wrap64 (x20 + 1)) = (x0.length : Int) then (if 0 ≤ x8 then (if x8 ≤ (wrap64 (x20 + 1)) then (if (wrap64 (x20 + 1)) ≤ (x6.length : Int) then (if x7.length < 5864062014805 then (bubble_Split.l0 k x0 x6 (x7 ++ [((x6.take ((wrap64 (x20 + 1)) : Int).toNat).drop (x8 : Int).toNat)]) (wrap64 (x20 + 1)) x19 (wrap64 (x20 + 1))) else (none)) else (none)) else (none)) else (none)) else (if 0 ≤ (wrap64 (x20 + 1)) then (if (wrap64 (x20 + 1)) < (x0.length : Int) then (if 0 ≤ x20 then (if x20 < (x0.length : Int) then (if ((rd_T46 x0 (wrap64 (x20 + 1))).f0) = ((rd_T46 x0 x20).f0) then (bubble_Split.l0 k x0 x6 x7 x8 x19 (wrap64 (x20 + 1))) else (if 0 ≤ x8 then (if x8 ≤ (wrap64 (x20 + 1)) then (if (wrap64 (x20 + 1)) ≤ (x6.length : Int) then (if x7.length < 5864062014805 then (bubble_Split.l0 k x0 x6 (x7 ++ [((x6.take ((wrap64 (x20 + 1)) : Int).toNat).drop (x8 : Int).toNat)]) (wrap64 (x20 + 1)) x19 (wrap64 (x20 + 1))) else (none)) else (none)) else (none)) else (none))) else (none)) else (none)) else (none)) else (none))) else (some (x7, 0))
def bubble_Split.f (k : Nat) (l0 : List (S46)) (l1 : List Int) : Option ((List (List Int)) × Int) := if (l0.length : Int) = (l1.length : Int) then ((slices_Clone_int_int.f l1).bind fun t315 => (bubble_Split.l0 k l0 t315 ([] : List (List Int)) 0 (l0.length : Int) 0)) else (some (([] : List (List Int)), 1))
theorem bubble_Split.mono_l : ∀ k, (∀ y0 y1 y2 y3 y4 y5, LeO (bubble_Split.l0 k y0 y1 y2 y3 y4 y5) (bubble_Split.l0 (k + 1) y0 y1 y2 y3 y4 y5))
  | 0 => fun _ _ _ _ _ _ r h => by simp [bubble_Split.l0] at h
  | k + 1 => by
    have ih0 := bubble_Split.mono_l k
    · intro y0 y1 y2 y3 y4 y5
      unfold bubble_Split.l0
      repeat' first
      | (with_reducible exact ih0 _ _ _ _ _ _)
      | (with_reducible exact LeO.refl _)
      | (with_reducible exact LeO.none _)
      | (with_reducible refine LeO.ite ?_ ?_)
      | (with_reducible refine LeO.bind ?_ (fun _ => ?_))
      | exact ih0 _ _ _ _ _ _
      | exact LeO.none _
      | refine LeO.ite ?_ ?_
      | refine LeO.bind ?_ (fun _ => ?_)
theorem bubble_Split.mono : ∀ a0 a1 k, LeO (bubble_Split.f k a0 a1) (bubble_Split.f (k + 1) a0 a1) := by
  intro a0 a1 k
  have ih0 := bubble_Split.mono_l k
  unfold bubble_Split.f
  repeat' first
      | (with_reducible exact ih0 _ _ _ _ _ _)
      | (with_reducible exact LeO.refl _)
      | (with_reducible exact LeO.none _)
      | (with_reducible refine LeO.ite ?_ ?_)
      | (with_reducible refine LeO.bind ?_ (fun _ => ?_))
      | exact ih0 _ _ _ _ _ _
      | exact LeO.none _
      | refine LeO.ite ?_ ?_
      | refine LeO.bind ?_ (fun _ => ?_)
theorem q8a {p : Prop} (h : p := by (((repeat (first | (with_reducible first | refine blk_drewN ?_ _ | refine blk_drew ?_ | refine blk_alloc ?_ _) | refine blk_far ?_ (Aside0.out (by assumption)) _)); first | (with_reducible exact (Aside0.out (by assumption))) | exact (Aside0.out (by assumption))); done)) : p := h
theorem q8b {p : Prop} (h : p := by ((first | (with_reducible assumption) | assumption); done)) : p := h
theorem q8c {p : Prop} (h : p := by ((first | rfl | (simp; done) | (simp [*]; done)); done)) : p := h
theorem q8d {p : Prop} (h : p := by (((with_reducible repeat (first | apply Kd.N_alloc | apply Kd.N_drewN | apply Kd.N_drew)); exact HO_7.out); done)) : p := h
theorem q8e {p : Prop} (h : p := by (((with_reducible repeat (first | apply Kd.R_alloc | apply Kd.R_drewN | apply Kd.R_drew)); exact HO_6.out); done)) : p := h
theorem q8f {p : Prop} (h : p := by ((first | rfl | (simp; done) | (simp only [← hji15] <;> (first | rfl | simp)) | (simp [*]; done)); done)) : p := h
theorem q8g {p : Prop} (h : p := by ((first | (rw [hy_]; with_reducible exact H) | (have H2_ := (Option.bind_some _ _).symm.trans H; rw [hy_]; with_reducible exact H2_) | (have H2_ := (Option.bind_some _ _).symm.trans H; with_reducible exact H2_) | with_reducible exact H | (rw [hy_]; exact H) | exact H); done)) : p := h
set_option maxHeartbeats 8000000 in
set_option maxRecDepth 100000 in
theorem bubble_Split.calls (k : Nat) (A0 : Option Addr) (c0 : Nat) (l0 : List (S46)) (A1 : Option Addr) (c1 : Nat) (l1 : List Int) (r1 : List (List Int)) (r2 : Int) (w : World) (hr0 : Kd.C k46 w A0 l0.length l0) (hc0 : l0.length ≤ c0) (hr1 : Kd.C (Kd.int .i64) w A1 l1.length l1) (hc1 : l1.length ≤ c1) (h : bubble_Split.f k l0 l1 = some (r1, r2)) :
    Calls Try.prog 25 #[.slice A0 l0.length c0, .slice A1 l1.length c1] w fun e w' => ∃ v0_ : Value, e = .returned (.tuple #[v0_, .int .i64 r2]) ∧ Kd.N (Kd.slice 3 (Kd.int .i64)) 28 w' w.heap.size (fun k_ => (w.heap.size ≤ k_)) v0_ r1 ∧ Below w.heap.size w w' := by
 have HR0 := za hr0; have HC0 := za hc0; clear hr0 hc0; have HR1 := za hr1; have HC1 := za hc1; clear hr1 hc1
 have HB := za (Below.refl w.heap.size w)
 have H : (if (l0.length : Int) = (l1.length : Int) then ((slices_Clone_int_int.f l1).bind fun t315 => (bubble_Split.l0 k l0 t315 ([] : List (List Int)) 0 (l0.length : Int) 0)) else (some (([] : List (List Int)), 1))) = some (r1, r2) := h
 clear h
 by_cases c3 : (l0.length : Int) = (l1.length : Int)
 ·rw [if_pos c3] at H
  have c3b0 : ((l0.length : Int) == (l1.length : Int)) = true := beq_iff_eq.mpr c3
  have c3b1 : ((l0.length : Int) != (l1.length : Int)) = false := bne_eq_false_iff_eq.mpr c3
  have c3b2 : (l0.length == l1.length) = true := by first | simpa using c3 | (simp at c3 ⊢; omega)
  clear c3
  replace H := Option.bind_eq_some_iff.mp H
  obtain ⟨t315, A40, H⟩ := H
  replace H : (bubble_Split.l0 k l0 t315 ([] : List (List Int)) 0 (l0.length : Int) 0) = some (r1, r2) := H
  have A4 := za A40; clear A40; have H' := za H; clear H
  go_enter Try.func25, Try.ntmps25
  go_wp2_with (first | (go_at_call 46; (with_reducible refine (slices_Clone_int_int.calls _ _ l1 t315 _ ?side1 ?side2 A4.out).mono ?_); (case side1 => repeat (first | exact HR1.out | (with_reducible refine Kd.C_alloc ?_ _) | (with_reducible refine Kd.C_drewN ?_ _) | (with_reducible refine Kd.C_drew ?_))); (case side2 => exact HC1.out); rintro e w5 ⟨v316, rfl, ho0, hb⟩; have HO317 := za (Kd.R_lower (Kd.R_newM (M := fun k_ => (w.heap.size ≤ k_)) ho0 (below_size (zm HB)) (fun k_ h_ => h_)) (below_size (zm HB))); replace HB := zs HB hb; (try clear hb); (try clear hb2); (try clear hk); (try clear hi); (try clear ho0)))
  repeat (go_quiet (first | (go_at_call 46; (with_reducible refine (slices_Clone_int_int.calls _ _ l1 t315 _ ?side1 ?side2 A4.out).mono ?_); (case side1 => repeat (first | exact HR1.out | (with_reducible refine Kd.C_alloc ?_ _) | (with_reducible refine Kd.C_drewN ?_ _) | (with_reducible refine Kd.C_drew ?_))); (case side2 => exact HC1.out); rintro e w5 ⟨v316, rfl, ho0, hb⟩; have HO317 := za (Kd.R_lower (Kd.R_newM (M := fun k_ => (w.heap.size ≤ k_)) ho0 (below_size (zm HB)) (fun k_ h_ => h_)) (below_size (zm HB))); replace HB := zs HB hb; (try clear hb); (try clear hb2); (try clear hk); (try clear hi); (try clear ho0))); try go_wp2_with (first | (go_at_call 46; (with_reducible refine (slices_Clone_int_int.calls _ _ l1 t315 _ ?side1 ?side2 A4.out).mono ?_); (case side1 => repeat (first | exact HR1.out | (with_reducible refine Kd.C_alloc ?_ _) | (with_reducible refine Kd.C_drewN ?_ _) | (with_reducible refine Kd.C_drew ?_))); (case side2 => exact HC1.out); rintro e w5 ⟨v316, rfl, ho0, hb⟩; have HO317 := za (Kd.R_lower (Kd.R_newM (M := fun k_ => (w.heap.size ≤ k_)) ho0 (below_size (zm HB)) (fun k_ h_ => h_)) (below_size (zm HB))); replace HB := zs HB hb; (try clear hb); (try clear hb2); (try clear hk); (try clear hi); (try clear ho0))))
  go_loopg [7, 8, 20] k (fun kq v7 v8 v20 w' => ∃ (x7_1 : List (List Int)) (x8_1 : Int) (x20_1 : Int), v8 = .int .i64 x8_1 ∧ v20 = .int .i64 x20_1 ∧ Aside0 (bubble_Split.l0 kq l0 t315 x7_1 x8_1 (l0.length : Int) x20_1 = some (r1, r2)) ∧ Aside0 (kq ≤ k) ∧ Aside0 (Kd.R (Kd.int .i64) 3 w' w.heap.size (fun k_ => (w.heap.size ≤ k_)) v316 t315) ∧ Aside0 (Kd.N (Kd.slice 3 (Kd.int .i64)) 28 w' w.heap.size (fun k_ => (w.heap.size ≤ k_)) v7 x7_1) ∧ Aside0 (Below w.heap.size w w'))
  case atStart => exact ⟨(([] : List (List Int))), (0), (0), q8c, q8c, H', ⟨Nat.le_refl _⟩, ⟨by (with_reducible repeat (first | apply Kd.R_alloc | apply Kd.R_drewN | apply Kd.R_drew)); exact Kd.R_mono HO317.out (fun _ hk => hk.1)⟩, ⟨by first | exact Kd.S_nil _ _ _ _ _ | exact Kd.N_nil _ _ _ _ _ | exact Kd.V_nil _ _ _ _ _ | exact Kd.Q_nil _ _ _ _ _ | exact Kd.R_nil _ _ _ _ _⟩, ⟨zm HB⟩⟩
  case round =>
   clear H'; (try clear c1); (try clear c2); (try clear p2); (try clear c3); (try clear c3b0); (try clear c3b1); (try clear c3b2)
   obtain ⟨x7_1, x8_1, x20_1, rfl, rfl, HA, HK1, HO_6, HO_7, HB⟩ := hrel
   cases gk with
   | zero => exact absurd HA.out (by simp [bubble_Split.l0])
   | succ k1 =>
    have H := HA.out
    clear HA
    simp only [bubble_Split.l0] at H
    by_cases c6 : x20_1 < (l0.length : Int)
    ·rw [if_pos c6] at H
     have c6b0 : decide (x20_1 < (l0.length : Int)) = true := decide_eq_true c6
     clear c6
     by_cases c7 : (wrap64 (x20_1 + 1)) = (l0.length : Int)
     ·rw [if_pos c7] at H
      have c7b0 : ((wrap64 (x20_1 + 1)) == (l0.length : Int)) = true := beq_iff_eq.mpr c7
      have c7b1 : ((wrap64 (x20_1 + 1)) != (l0.length : Int)) = false := bne_eq_false_iff_eq.mpr c7
      clear c7
      by_cases c8 : 0 ≤ x8_1
      ·rw [if_pos c8] at H
       have c8b0 := eq_true c8
       have c8b1 : decide (0 ≤ x8_1) = true := decide_eq_true c8
       clear c8
       by_cases c9 : x8_1 ≤ (wrap64 (x20_1 + 1))
       ·rw [if_pos c9] at H
        have c9b0 := eq_true c9
        have c9b1 : decide (x8_1 ≤ (wrap64 (x20_1 + 1))) = true := decide_eq_true c9
        by_cases c10 : (wrap64 (x20_1 + 1)) ≤ (t315.length : Int)
        ·rw [if_pos c10] at H
         have c10b0 := eq_true c10
         have c10b1 : decide ((wrap64 (x20_1 + 1)) ≤ (t315.length : Int)) = true := decide_eq_true c10
         obtain ⟨y318, hy_⟩ : ∃ y_ : List Int, y_ = ((t315.take ((wrap64 (x20_1 + 1)) : Int).toNat).drop (x8_1 : Int).toNat) := ⟨_, rfl⟩
         replace H : (if x7_1.length < 5864062014805 then (bubble_Split.l0 k1 l0 t315 (x7_1 ++ [y318]) (wrap64 (x20_1 + 1)) (l0.length : Int) (wrap64 (x20_1 + 1))) else (none)) = some (r1, r2) := q8g
         have Ny318 := za hy_; clear hy_
         by_cases c11 : x7_1.length < 5864062014805
         ·rw [if_pos c11] at H
          have LMc11 := za c11; clear c11
          obtain ⟨y323, hy_⟩ : ∃ y_ : List (List Int), y_ = (x7_1 ++ [y318]) := ⟨_, rfl⟩
          replace H : (bubble_Split.l0 k1 l0 t315 y323 (wrap64 (x20_1 + 1)) (l0.length : Int) (wrap64 (x20_1 + 1))) = some (r1, r2) := q8g
          have Ny323 := za hy_; clear hy_; have H' := za H; clear H
          obtain ⟨Ao13, co13, eo13⟩ := Kd.R_slice HO_6.out
          subst eo13
          have q12 : ((wrap64 (x20_1 + 1)) : Int) ≤ ((t315.length : Int) : Int) := of_decide_eq_true q8b
          obtain ⟨i012, hi012, _, hsz12, _⟩ := info_parts info3
          have hroom12 : t315.length ≤ co13 := (Kd.R_reads' HO_6.out).2.1
          have hC12 : Kd.F (Kd.int .i64) _ _ Ao13 t315.length t315 := (Kd.V_at (base := w.heap.size) (Kd.R_V (Kd.R_apart' (HO_6.out) (Kd.N_typed HO_7.out) (by decide)))).2.2
          have ql12 : (x8_1 : Int) ≤ ((wrap64 (x20_1 + 1)) : Int) := of_decide_eq_true q8b
          have q012 : (0 : Int) ≤ (x8_1 : Int) := of_decide_eq_true q8b
          have hcut12 := clip_mid (P := Try.prog) 28 3 .i64 .i64 .i64 Try.underlying28 hi012 1 hsz12 Ao13 t315.length co13 x8_1 (wrap64 (x20_1 + 1)) q012 ql12 q12 hroom12
          have hr12 := Kd.F_clip (lo := (x8_1 : Int).toNat) (hi := ((wrap64 (x20_1 + 1)) : Int).toNat) hC12 (by omega) (by omega)
          obtain ⟨A12, hA12⟩ : ∃ A1, A1 = (if ((wrap64 (x20_1 + 1)) : Int).toNat = (x8_1 : Int).toNat then Ao13 else (Ao13 : Option Addr).map (·.add ((x8_1 : Int).toNat * 1))) := ⟨_, rfl⟩
          have hy_ : y318.length = ((wrap64 (x20_1 + 1)) : Int).toNat - (x8_1 : Int).toNat := (by rw [Ny318.out, List.length_drop, List.length_take] <;> omega)
          rw [show ((t315).take ((wrap64 (x20_1 + 1)) : Int).toNat).drop (x8_1 : Int).toNat = y318 from Ny318.out.symm] at hr12
          replace hr12 : Kd.F (Kd.int .i64) _ _ A12 y318.length y318 := (by rw [hA12]; exact hr12)
          rw [← hy_, ← hA12] at hcut12
          have HO322 := za (show Kd.V (Kd.int .i64) 3 _ w.heap.size _ (.slice A12 y318.length y318.length) y318 from Kd.V_mk (Nat.le_refl _) hr12)
          have HC322 := za (Nat.le_refl y318.length)
          clear hr12 hC12 hroom12 hi012 hsz12; have KY12 := za hy_; have KA12 := za hA12; clear hy_ hA12
          replace q12 := eq_true q12
          go_wp2_with (first | ((with_reducible refine gate_builtin (b := .append) (xs := #[.tmp 42, .tmp 48]) rfl ?_); at_builtin; refine Kd.N_append (Kd.slice 3 (Kd.int .i64)) (w0 := w) w.heap.size rfl (.tmp 42) (.tmp 48) 47 28 (.slice none 0 0) 24 rfl Try.underlying47 info28 rfl (by decide) (by omega) u7 x7_1 y318 [.slice A12 y318.length y318.length] (fun k_ => (w.heap.size ≤ k_)) (fun k_ => ((fun k_ => (w.heap.size ≤ k_))) k_ ∧ some k_ ≠ (u7 : Value).ownBlock) rfl rfl ?aP (fun _ hk => hk) ?aF ?aO ?aB ?aS ?aL ?_; (case aP => exact (Kd.FK_slice_mk (Kd.V_reads' (Kd.V_mono (ok' := (fun k_ => ((fun k_ => (w.heap.size ≤ k_))) k_ ∧ some k_ ≠ (u7 : Value).ownBlock)) (HO322.out) (fun k_ hk => ⟨hk.1, hk.2⟩))).2.1 (Kd.V_F (Kd.V_mono (ok' := (fun k_ => ((fun k_ => (w.heap.size ≤ k_))) k_ ∧ some k_ ≠ (u7 : Value).ownBlock)) (HO322.out) (fun k_ hk => ⟨hk.1, hk.2⟩))))); (case aB => exact (zm HB)); (case aF => exact (fun k_ hk => (Nat.le_trans (below_size (zm HB)) hk))); (case aO => exact q8d); (case aS => exact (below_size (zm HB))); (case aL => have := LMc11.out; omega); intro v324 w14 ho hb hg hat; rw [← Ny323.out] at ho; have HO325 := za (ho); replace HO_6 := za (Kd.R_over' q8e (Kd.N_typed q8d) (by decide) hg); replace HO322 := za (Kd.V_afterv (ok := (fun k_ => (w.heap.size ≤ k_))) (by (with_reducible repeat (first | apply Kd.V_alloc | apply Kd.V_drewN | apply Kd.V_drew)); exact HO322.out) hg hat); replace HB := za (hb); clear HO_7 ho hb hg hat))
          go_quiet (fail)
          go_wp2_with (first | ((with_reducible refine gate_builtin (b := .append) (xs := #[.tmp 42, .tmp 48]) rfl ?_); at_builtin; refine Kd.N_append (Kd.slice 3 (Kd.int .i64)) (w0 := w) w.heap.size rfl (.tmp 42) (.tmp 48) 47 28 (.slice none 0 0) 24 rfl Try.underlying47 info28 rfl (by decide) (by omega) u7 x7_1 y318 [.slice A12 y318.length y318.length] (fun k_ => (w.heap.size ≤ k_)) (fun k_ => ((fun k_ => (w.heap.size ≤ k_))) k_ ∧ some k_ ≠ (u7 : Value).ownBlock) rfl rfl ?aP (fun _ hk => hk) ?aF ?aO ?aB ?aS ?aL ?_; (case aP => exact (Kd.FK_slice_mk (Kd.V_reads' (Kd.V_mono (ok' := (fun k_ => ((fun k_ => (w.heap.size ≤ k_))) k_ ∧ some k_ ≠ (u7 : Value).ownBlock)) (HO322.out) (fun k_ hk => ⟨hk.1, hk.2⟩))).2.1 (Kd.V_F (Kd.V_mono (ok' := (fun k_ => ((fun k_ => (w.heap.size ≤ k_))) k_ ∧ some k_ ≠ (u7 : Value).ownBlock)) (Kd.V_drewN HO322.out _) (fun k_ hk => ⟨hk.1, hk.2⟩))))); (case aB => exact (zm HB)); (case aF => exact (fun k_ hk => (Nat.le_trans (below_size (zm HB)) hk))); (case aO => exact q8d); (case aS => exact (below_size (zm HB))); (case aL => have := LMc11.out; omega); intro v324 w14 ho hb hg hat; rw [← Ny323.out] at ho; have HO325 := za (ho); replace HO_6 := za (Kd.R_over' q8e (Kd.N_typed q8d) (by decide) hg); replace HO322 := za (Kd.V_afterv (ok := (fun k_ => (w.heap.size ≤ k_))) (by (with_reducible repeat (first | apply Kd.V_alloc | apply Kd.V_drewN | apply Kd.V_drew)); exact HO322.out) hg hat); replace HB := za (hb); clear HO_7 ho hb hg hat))
          go_roundg k1
          case measure => have := HK1.out; omega
          case rel => exact ⟨(y323), (wrap64 (x20_1 + 1)), (wrap64 (x20_1 + 1)), q8c, q8c, H', ⟨by have := HK1.out; omega⟩, ⟨by (with_reducible repeat (first | apply Kd.R_alloc | apply Kd.R_drewN | apply Kd.R_drew)); exact HO_6.out⟩, ⟨by (with_reducible repeat (first | apply Kd.N_alloc | apply Kd.N_drewN | apply Kd.N_drew)); exact HO325.out⟩, ⟨zm HB⟩⟩
         ·rw [if_neg c11] at H
          exact absurd H (by simp)
        ·rw [if_neg c10] at H
         exact absurd H (by simp)
       ·rw [if_neg c9] at H
        exact absurd H (by simp)
      ·rw [if_neg c8] at H
       exact absurd H (by simp)
     ·rw [if_neg c7] at H
      have c7b0 : ((wrap64 (x20_1 + 1)) == (l0.length : Int)) = false := beq_eq_false_iff_ne.mpr c7
      have c7b1 : ((wrap64 (x20_1 + 1)) != (l0.length : Int)) = true := bne_iff_ne.mpr c7
      obtain ⟨ji15, hji15⟩ : ∃ j_ : Int, (wrap64 (x20_1 + 1)) = j_ := ⟨_, rfl⟩
      replace H : (if 0 ≤ (ji15) then (if (ji15) < (l0.length : Int) then (if 0 ≤ x20_1 then (if x20_1 < (l0.length : Int) then (if ((rd_T46 l0 (ji15)).f0) = ((rd_T46 l0 x20_1).f0) then (bubble_Split.l0 k1 l0 t315 x7_1 x8_1 (l0.length : Int) ji15) else (if 0 ≤ x8_1 then (if x8_1 ≤ (ji15) then (if (ji15) ≤ (t315.length : Int) then (if x7_1.length < 5864062014805 then (bubble_Split.l0 k1 l0 t315 (x7_1 ++ [((t315.take ((ji15) : Int).toNat).drop (x8_1 : Int).toNat)]) ji15 (l0.length : Int) ji15) else (none)) else (none)) else (none)) else (none))) else (none)) else (none)) else (none)) else (none)) = some (r1, r2) := by first | (rw [hji15] at H; exact H) | (simp only [hji15] at H ⊢; exact H)
      (try rw [hji15] at c7b0)
      (try rw [hji15] at c7b1)
      have hji15w : (IntKind.i64.wrap (x20_1 + 1)) = ji15 := (i64_w _).trans hji15
      by_cases c16 : 0 ≤ (ji15)
      ·rw [if_pos c16] at H
       have c16b0 : decide (0 ≤ (ji15)) = true := decide_eq_true c16
       clear c16
       by_cases c17 : (ji15) < (l0.length : Int)
       ·rw [if_pos c17] at H
        have c17b0 : decide ((ji15) < (l0.length : Int)) = true := decide_eq_true c17
        clear c17
        by_cases c18 : 0 ≤ x20_1
        ·rw [if_pos c18] at H
         have c18b0 : decide (0 ≤ x20_1) = true := decide_eq_true c18
         clear c18
         by_cases c19 : x20_1 < (l0.length : Int)
         ·rw [if_pos c19] at H
          have c19b0 : decide (x20_1 < (l0.length : Int)) = true := decide_eq_true c19
          clear c19
          by_cases c20 : ((rd_T46 l0 (ji15)).f0) = ((rd_T46 l0 x20_1).f0)
          ·rw [if_pos c20] at H
           have c20b0 : (((rd_T46 l0 (ji15)).f0) == ((rd_T46 l0 x20_1).f0)) = true := beq_iff_eq.mpr c20
           have c20b1 : (((rd_T46 l0 (ji15)).f0) != ((rd_T46 l0 x20_1).f0)) = false := bne_eq_false_iff_eq.mpr c20
           clear c20; have H' := za H; clear H
           have p326 : 0 ≤ ((ji15) : Int) := of_decide_eq_true q8b
           have q326 : (ji15) < (l0.length : Int) := of_decide_eq_true q8b
           obtain ⟨ad326, e326, hx326_0, hx326_1⟩ := at_T46 HR0.out (ji15) p326 q326
           cases e326
           replace hx326_0 := zx HB hx326_0
           replace hx326_1 := zx HB hx326_1
           replace p326 := eq_true p326
           replace q326 := eq_true q326
           have p327 : 0 ≤ (x20_1 : Int) := of_decide_eq_true q8b
           have q327 : x20_1 < (l0.length : Int) := of_decide_eq_true q8b
           obtain ⟨ad327, e327, hx327_0, hx327_1⟩ := at_T46 HR0.out x20_1 p327 q327
           obtain rfl : ad326 = ad327 := (by injection e327)
           replace hx327_0 := zx HB hx327_0
           replace hx327_1 := zx HB hx327_1
           replace p327 := eq_true p327
           replace q327 := eq_true q327
           go_wp2
           repeat (go_quiet (fail); try go_wp2)
           go_roundg k1
           case measure => have := HK1.out; omega
           case rel => exact ⟨(x7_1), (x8_1), (ji15), q8c, q8f, H', ⟨by have := HK1.out; omega⟩, ⟨by (with_reducible repeat (first | apply Kd.R_alloc | apply Kd.R_drewN | apply Kd.R_drew)); exact HO_6.out⟩, ⟨by (with_reducible repeat (first | apply Kd.N_alloc | apply Kd.N_drewN | apply Kd.N_drew)); exact HO_7.out⟩, ⟨zm HB⟩⟩
          ·rw [if_neg c20] at H
           have c20b0 : (((rd_T46 l0 (ji15)).f0) == ((rd_T46 l0 x20_1).f0)) = false := beq_eq_false_iff_ne.mpr c20
           have c20b1 : (((rd_T46 l0 (ji15)).f0) != ((rd_T46 l0 x20_1).f0)) = true := bne_iff_ne.mpr c20
           by_cases c21 : 0 ≤ x8_1
           ·rw [if_pos c21] at H
            have c21b0 := eq_true c21
            have c21b1 : decide (0 ≤ x8_1) = true := decide_eq_true c21
            clear c21
            by_cases c22 : x8_1 ≤ (ji15)
            ·rw [if_pos c22] at H
             have c22b0 := eq_true c22
             have c22b1 : decide (x8_1 ≤ (ji15)) = true := decide_eq_true c22
             clear c22
             by_cases c23 : (ji15) ≤ (t315.length : Int)
             ·rw [if_pos c23] at H
              have c23b0 := eq_true c23
              have c23b1 : decide ((ji15) ≤ (t315.length : Int)) = true := decide_eq_true c23
              clear c23
              obtain ⟨y328, hy_⟩ : ∃ y_ : List Int, y_ = ((t315.take ((ji15) : Int).toNat).drop (x8_1 : Int).toNat) := ⟨_, rfl⟩
              replace H : (if x7_1.length < 5864062014805 then (bubble_Split.l0 k1 l0 t315 (x7_1 ++ [y328]) ji15 (l0.length : Int) ji15) else (none)) = some (r1, r2) := q8g
              have Ny328 := za hy_; clear hy_
              by_cases c24 : x7_1.length < 5864062014805
              ·rw [if_pos c24] at H
               have LMc24 := za c24; clear c24
               obtain ⟨y333, hy_⟩ : ∃ y_ : List (List Int), y_ = (x7_1 ++ [y328]) := ⟨_, rfl⟩
               replace H : (bubble_Split.l0 k1 l0 t315 y333 ji15 (l0.length : Int) ji15) = some (r1, r2) := q8g
               have Ny333 := za hy_; clear hy_; have H' := za H; clear H
               have p326 : 0 ≤ ((ji15) : Int) := of_decide_eq_true q8b
               have q326 : (ji15) < (l0.length : Int) := of_decide_eq_true q8b
               obtain ⟨ad326, e326, hx326_0, hx326_1⟩ := at_T46 HR0.out (ji15) p326 q326
               cases e326
               replace hx326_0 := zx HB hx326_0
               replace hx326_1 := zx HB hx326_1
               replace p326 := eq_true p326
               replace q326 := eq_true q326
               have p327 : 0 ≤ (x20_1 : Int) := of_decide_eq_true q8b
               have q327 : x20_1 < (l0.length : Int) := of_decide_eq_true q8b
               obtain ⟨ad327, e327, hx327_0, hx327_1⟩ := at_T46 HR0.out x20_1 p327 q327
               obtain rfl : ad326 = ad327 := (by injection e327)
               replace hx327_0 := zx HB hx327_0
               replace hx327_1 := zx HB hx327_1
               replace p327 := eq_true p327
               replace q327 := eq_true q327
               obtain ⟨Ao26, co26, eo26⟩ := Kd.R_slice HO_6.out
               subst eo26
               have q25 : ((ji15) : Int) ≤ ((t315.length : Int) : Int) := of_decide_eq_true q8b
               obtain ⟨i025, hi025, _, hsz25, _⟩ := info_parts info3
               have hroom25 : t315.length ≤ co26 := (Kd.R_reads' HO_6.out).2.1
               have hC25 : Kd.F (Kd.int .i64) _ _ Ao26 t315.length t315 := (Kd.V_at (base := w.heap.size) (Kd.R_V (Kd.R_apart' (HO_6.out) (Kd.N_typed HO_7.out) (by decide)))).2.2
               have ql25 : (x8_1 : Int) ≤ ((ji15) : Int) := of_decide_eq_true q8b
               have q025 : (0 : Int) ≤ (x8_1 : Int) := of_decide_eq_true q8b
               have hcut25 := clip_mid (P := Try.prog) 28 3 .i64 .i64 .i64 Try.underlying28 hi025 1 hsz25 Ao26 t315.length co26 x8_1 (ji15) q025 ql25 q25 hroom25
               have hr25 := Kd.F_clip (lo := (x8_1 : Int).toNat) (hi := ((ji15) : Int).toNat) hC25 (by omega) (by omega)
               obtain ⟨A25, hA25⟩ : ∃ A1, A1 = (if ((ji15) : Int).toNat = (x8_1 : Int).toNat then Ao26 else (Ao26 : Option Addr).map (·.add ((x8_1 : Int).toNat * 1))) := ⟨_, rfl⟩
               have hy_ : y328.length = ((ji15) : Int).toNat - (x8_1 : Int).toNat := (by rw [Ny328.out, List.length_drop, List.length_take] <;> omega)
               rw [show ((t315).take ((ji15) : Int).toNat).drop (x8_1 : Int).toNat = y328 from Ny328.out.symm] at hr25
               replace hr25 : Kd.F (Kd.int .i64) _ _ A25 y328.length y328 := (by rw [hA25]; exact hr25)
               rw [← hy_, ← hA25] at hcut25
               have HO332 := za (show Kd.V (Kd.int .i64) 3 _ w.heap.size _ (.slice A25 y328.length y328.length) y328 from Kd.V_mk (Nat.le_refl _) hr25)
               have HC332 := za (Nat.le_refl y328.length)
               clear hr25 hC25 hroom25 hi025 hsz25; have KY25 := za hy_; have KA25 := za hA25; clear hy_ hA25
               replace q25 := eq_true q25
               go_wp2_with (first | ((with_reducible refine gate_builtin (b := .append) (xs := #[.tmp 42, .tmp 48]) rfl ?_); at_builtin; refine Kd.N_append (Kd.slice 3 (Kd.int .i64)) (w0 := w) w.heap.size rfl (.tmp 42) (.tmp 48) 47 28 (.slice none 0 0) 24 rfl Try.underlying47 info28 rfl (by decide) (by omega) u7 x7_1 y328 [.slice A25 y328.length y328.length] (fun k_ => (w.heap.size ≤ k_)) (fun k_ => ((fun k_ => (w.heap.size ≤ k_))) k_ ∧ some k_ ≠ (u7 : Value).ownBlock) rfl rfl ?aP (fun _ hk => hk) ?aF ?aO ?aB ?aS ?aL ?_; (case aP => exact (Kd.FK_slice_mk (Kd.V_reads' (Kd.V_mono (ok' := (fun k_ => ((fun k_ => (w.heap.size ≤ k_))) k_ ∧ some k_ ≠ (u7 : Value).ownBlock)) (HO332.out) (fun k_ hk => ⟨hk.1, hk.2⟩))).2.1 (Kd.V_F (Kd.V_mono (ok' := (fun k_ => ((fun k_ => (w.heap.size ≤ k_))) k_ ∧ some k_ ≠ (u7 : Value).ownBlock)) (HO332.out) (fun k_ hk => ⟨hk.1, hk.2⟩))))); (case aB => exact (zm HB)); (case aF => exact (fun k_ hk => (Nat.le_trans (below_size (zm HB)) hk))); (case aO => exact q8d); (case aS => exact (below_size (zm HB))); (case aL => have := LMc24.out; omega); intro v334 w27 ho hb hg hat; rw [← Ny333.out] at ho; have HO335 := za (ho); replace HO_6 := za (Kd.R_over' q8e (Kd.N_typed q8d) (by decide) hg); replace HO332 := za (Kd.V_afterv (ok := (fun k_ => (w.heap.size ≤ k_))) (by (with_reducible repeat (first | apply Kd.V_alloc | apply Kd.V_drewN | apply Kd.V_drew)); exact HO332.out) hg hat); replace HB := za (hb); clear HO_7 ho hb hg hat))
               go_quiet (fail)
               go_wp2_with (first | ((with_reducible refine gate_builtin (b := .append) (xs := #[.tmp 42, .tmp 48]) rfl ?_); at_builtin; refine Kd.N_append (Kd.slice 3 (Kd.int .i64)) (w0 := w) w.heap.size rfl (.tmp 42) (.tmp 48) 47 28 (.slice none 0 0) 24 rfl Try.underlying47 info28 rfl (by decide) (by omega) u7 x7_1 y328 [.slice A25 y328.length y328.length] (fun k_ => (w.heap.size ≤ k_)) (fun k_ => ((fun k_ => (w.heap.size ≤ k_))) k_ ∧ some k_ ≠ (u7 : Value).ownBlock) rfl rfl ?aP (fun _ hk => hk) ?aF ?aO ?aB ?aS ?aL ?_; (case aP => exact (Kd.FK_slice_mk (Kd.V_reads' (Kd.V_mono (ok' := (fun k_ => ((fun k_ => (w.heap.size ≤ k_))) k_ ∧ some k_ ≠ (u7 : Value).ownBlock)) (HO332.out) (fun k_ hk => ⟨hk.1, hk.2⟩))).2.1 (Kd.V_F (Kd.V_mono (ok' := (fun k_ => ((fun k_ => (w.heap.size ≤ k_))) k_ ∧ some k_ ≠ (u7 : Value).ownBlock)) (Kd.V_drewN HO332.out _) (fun k_ hk => ⟨hk.1, hk.2⟩))))); (case aB => exact (zm HB)); (case aF => exact (fun k_ hk => (Nat.le_trans (below_size (zm HB)) hk))); (case aO => exact q8d); (case aS => exact (below_size (zm HB))); (case aL => have := LMc24.out; omega); intro v334 w27 ho hb hg hat; rw [← Ny333.out] at ho; have HO335 := za (ho); replace HO_6 := za (Kd.R_over' q8e (Kd.N_typed q8d) (by decide) hg); replace HO332 := za (Kd.V_afterv (ok := (fun k_ => (w.heap.size ≤ k_))) (by (with_reducible repeat (first | apply Kd.V_alloc | apply Kd.V_drewN | apply Kd.V_drew)); exact HO332.out) hg hat); replace HB := za (hb); clear HO_7 ho hb hg hat))
               go_roundg k1
               case measure => have := HK1.out; omega
               case rel => exact ⟨(y333), (ji15), (ji15), q8f, q8f, H', ⟨by have := HK1.out; omega⟩, ⟨by (with_reducible repeat (first | apply Kd.R_alloc | apply Kd.R_drewN | apply Kd.R_drew)); exact HO_6.out⟩, ⟨by (with_reducible repeat (first | apply Kd.N_alloc | apply Kd.N_drewN | apply Kd.N_drew)); exact HO335.out⟩, ⟨zm HB⟩⟩
              ·rw [if_neg c24] at H
               exact absurd H (by simp)
             ·rw [if_neg c23] at H
              exact absurd H (by simp)
            ·rw [if_neg c22] at H
             exact absurd H (by simp)
           ·rw [if_neg c21] at H
            exact absurd H (by simp)
         ·rw [if_neg c19] at H
          exact absurd H (by simp)
        ·rw [if_neg c18] at H
         exact absurd H (by simp)
       ·rw [if_neg c17] at H
        exact absurd H (by simp)
      ·rw [if_neg c16] at H
       exact absurd H (by simp)
    ·rw [if_neg c6] at H
     have c6b0 : decide (x20_1 < (l0.length : Int)) = false := decide_eq_false c6
     clear c6
     simp only [Option.some.injEq, Prod.mk.injEq] at H
     obtain ⟨rfl, rfl⟩ := H
     go_wp2
     repeat (go_quiet (fail); try go_wp2)
     go_ret2
     exact ⟨_, zf, by (with_reducible repeat (first | apply Kd.N_alloc | apply Kd.N_drewN | apply Kd.N_drew)); exact HO_7.out, zm HB⟩
 ·rw [if_neg c3] at H
  have c3b0 : ((l0.length : Int) == (l1.length : Int)) = false := beq_eq_false_iff_ne.mpr c3
  have c3b1 : ((l0.length : Int) != (l1.length : Int)) = true := bne_iff_ne.mpr c3
  have c3b2 : (l0.length == l1.length) = false := by first | simpa using c3 | (simp at c3 ⊢; omega)
  simp only [Option.some.injEq, Prod.mk.injEq] at H
  obtain ⟨rfl, rfl⟩ := H
  go_enter Try.func25, Try.ntmps25
  go_wp2
  repeat (go_quiet (fail); try go_wp2)
  go_ret2
  exact ⟨_, zf, by first | exact Kd.S_nil _ _ _ _ _ | exact Kd.N_nil _ _ _ _ _ | exact Kd.V_nil _ _ _ _ _ | exact Kd.Q_nil _ _ _ _ _ | exact Kd.R_nil _ _ _ _ _, zm HB⟩

/-! ### item_in: function 61 -/
def item_in.f (a0 : Int) (a1 : Int) (a2 : Int) : Option (Bool) := if a0 ≥ a1 then (some (decide (a0 ≤ a2))) else (some false)
set_option maxHeartbeats 8000000 in
set_option maxRecDepth 100000 in
theorem item_in.calls (a0 : Int) (a1 : Int) (a2 : Int) (r : Bool) (w : World) (h : item_in.f a0 a1 a2 = some r) :
    Calls Try.prog 61 #[.int .i64 a0, .int .i64 a1, .int .i64 a2] w fun e w' => e = .returned (.bool r) ∧ Drawn0 w w' := by
 have H : (if a0 ≥ a1 then (some (decide (a0 ≤ a2))) else (some false)) = some r := h
 clear h
 by_cases c4 : a0 ≥ a1
 ·rw [if_pos c4] at H
  have c4b0 : decide (a1 ≤ a0) = true := decide_eq_true c4
  clear c4
  obtain rfl := Option.some.inj H
  go_enter Try.func61, Try.ntmps61
  go_wp2
  go_ret
  exact ⟨by first | rfl | (simp; done) | (simp [*]; done), by repeat (first | exact Drawn0.refl _ | apply Drawn0.step)⟩
 ·rw [if_neg c4] at H
  have c4b0 : decide (a1 ≤ a0) = false := decide_eq_false c4
  clear c4
  obtain rfl := Option.some.inj H
  go_enter Try.func61, Try.ntmps61
  go_wp2
  go_ret
  exact ⟨by first | rfl | (simp; done) | (simp [*]; done), by repeat (first | exact Drawn0.refl _ | apply Drawn0.step)⟩

-- NOT PRINTED: function 67 (api_Part_67)

-- NOT PRINTED: function 62 (api_Part_62)

/-! ### item_ValidPart: function 66 -/
def item_ValidPart.j0 : Nat → Bool → Int → Int → Int → Int → Int → Int → Option (Bool)
  | 0, _, _, _, _, _, _, _ => none
  | k + 1, x18, x337000, x337001, x337002, x337003, x337004, x337005 => if x18 = true then (some false) else (if x337000 = 1 then (if x337004 = 0 then (some (x337005 == 0)) else (some false)) else (if x337000 = 2 then ((item_in.f x337004 2 5).bind fun t340 => (if t340 = true then ((item_in.f x337005 0 (wrap64 (x337004 - 1))).bind fun t341 => (some t341)) else (some false))) else (some false)))
def item_ValidPart.f (k : Nat) (a0_0 : Int) (a0_1 : Int) (a0_2 : Int) (a0_3 : Int) (a0_4 : Int) (a0_5 : Int) : Option (Bool) := (item_in.f a0_1 1 40).bind fun t337 => (if t337 = true then ((item_in.f a0_2 0 15).bind fun t338 => (if t338 = true then ((item_in.f a0_3 0 5).bind fun t339 => (item_ValidPart.j0 k (!t339) a0_0 a0_1 a0_2 a0_3 a0_4 a0_5)) else (item_ValidPart.j0 k true a0_0 a0_1 a0_2 a0_3 a0_4 a0_5))) else (item_ValidPart.j0 k true a0_0 a0_1 a0_2 a0_3 a0_4 a0_5))
theorem item_ValidPart.mono_l : ∀ k, (∀ y0 y1 y2 y3 y4 y5 y6, LeO (item_ValidPart.j0 k y0 y1 y2 y3 y4 y5 y6) (item_ValidPart.j0 (k + 1) y0 y1 y2 y3 y4 y5 y6))
  | 0 => fun _ _ _ _ _ _ _ r h => by simp [item_ValidPart.j0] at h
  | k + 1 => by
    have ih0 := item_ValidPart.mono_l k
    · intro y0 y1 y2 y3 y4 y5 y6
      unfold item_ValidPart.j0
      repeat' first
      | (with_reducible exact ih0 _ _ _ _ _ _ _)
      | (with_reducible exact LeO.refl _)
      | (with_reducible exact LeO.none _)
      | (with_reducible refine LeO.ite ?_ ?_)
      | (with_reducible refine LeO.bind ?_ (fun _ => ?_))
      | exact ih0 _ _ _ _ _ _ _
      | exact LeO.none _
      | refine LeO.ite ?_ ?_
      | refine LeO.bind ?_ (fun _ => ?_)
theorem item_ValidPart.mono : ∀ a0 a1 a2 a3 a4 a5 k, LeO (item_ValidPart.f k a0 a1 a2 a3 a4 a5) (item_ValidPart.f (k + 1) a0 a1 a2 a3 a4 a5) := by
  intro a0 a1 a2 a3 a4 a5 k
  have ih0 := item_ValidPart.mono_l k
  unfold item_ValidPart.f
  repeat' first
      | (with_reducible exact ih0 _ _ _ _ _ _ _)
      | (with_reducible exact LeO.refl _)
      | (with_reducible exact LeO.none _)
      | (with_reducible refine LeO.ite ?_ ?_)
      | (with_reducible refine LeO.bind ?_ (fun _ => ?_))
      | exact ih0 _ _ _ _ _ _ _
      | exact LeO.none _
      | refine LeO.ite ?_ ?_
      | refine LeO.bind ?_ (fun _ => ?_)
set_option maxHeartbeats 8000000 in
set_option maxRecDepth 100000 in
theorem item_ValidPart.calls (k : Nat) (a0_0 : Int) (a0_1 : Int) (a0_2 : Int) (a0_3 : Int) (a0_4 : Int) (a0_5 : Int) (r : Bool) (w : World) (h : item_ValidPart.f k a0_0 a0_1 a0_2 a0_3 a0_4 a0_5 = some r) :
    Calls Try.prog 66 #[.agg #[.int .i64 a0_0, .int .i64 a0_1, .int .i64 a0_2, .int .i64 a0_3, .int .i64 a0_4, .int .i64 a0_5]] w fun e w' => e = .returned (.bool r) ∧ Below w.heap.size w w' := by
 have hu65 := Try.underlying65
 have HB := za (Below.refl w.heap.size w)
 have H : ((item_in.f a0_1 1 40).bind fun t337 => (if t337 = true then ((item_in.f a0_2 0 15).bind fun t338 => (if t338 = true then ((item_in.f a0_3 0 5).bind fun t339 => (item_ValidPart.j0 k (!t339) a0_0 a0_1 a0_2 a0_3 a0_4 a0_5)) else (item_ValidPart.j0 k true a0_0 a0_1 a0_2 a0_3 a0_4 a0_5))) else (item_ValidPart.j0 k true a0_0 a0_1 a0_2 a0_3 a0_4 a0_5))) = some r := h
 clear h; have HC2 := za H; clear H
 go_enter Try.func66, Try.ntmps66
 go_upto_region 1 with (first | ((with_reducible refine gate_dst (N := 1) rfl ?_); refine zE 1 #[.int .i64 a0_0, .int .i64 a0_1, .int .i64 a0_2, .int .i64 a0_3, .int .i64 a0_4, .int .i64 a0_5] 65 ?_; intro gb336 hg w3 hbox hb; have BK336 := za (hbox); have GW336 := zg HB hg; have GE336 := zg HB hg; replace HB := zs HB hb; clear hb hbox hg))
 (try simp only [Act.put, List.setIfInBounds_toArray, List.set_cons_zero, List.set_cons_succ])
 go_cut [18] (fun v18 wc => ∃ (kq : Nat) (x18_1 : Bool), v18 = .bool x18_1 ∧ Aside0 (item_ValidPart.j0 kq x18_1 a0_0 a0_1 a0_2 a0_3 a0_4 a0_5 = some r) ∧ Aside0 (kq ≤ k) ∧ Aside0 (wc.heap[gb336]? = some (.cells #[.int .i64 a0_0, .int .i64 a0_1, .int .i64 a0_2, .int .i64 a0_3, .int .i64 a0_4, .int .i64 a0_5] 65 (0, 0))) ∧ Aside0 (Below w.heap.size w wc))
 case first =>
  have H := HC2.out
  clear HC2
  replace H := Option.bind_eq_some_iff.mp H
  obtain ⟨t337, A40, H⟩ := H
  replace H : (if t337 = true then ((item_in.f a0_2 0 15).bind fun t338 => (if t338 = true then ((item_in.f a0_3 0 5).bind fun t339 => (item_ValidPart.j0 k (!t339) a0_0 a0_1 a0_2 a0_3 a0_4 a0_5)) else (item_ValidPart.j0 k true a0_0 a0_1 a0_2 a0_3 a0_4 a0_5))) else (item_ValidPart.j0 k true a0_0 a0_1 a0_2 a0_3 a0_4 a0_5)) = some r := H
  have A4 := za A40; clear A40
  by_cases c5 : t337 = true
  ·subst c5
   have H1 : ((item_in.f a0_2 0 15).bind fun t338 => (if t338 = true then ((item_in.f a0_3 0 5).bind fun t339 => (item_ValidPart.j0 k (!t339) a0_0 a0_1 a0_2 a0_3 a0_4 a0_5)) else (item_ValidPart.j0 k true a0_0 a0_1 a0_2 a0_3 a0_4 a0_5))) = some r := by rw [if_pos rfl] at H; exact H
   clear H; have H := H1; clear H1
   replace H := Option.bind_eq_some_iff.mp H
   obtain ⟨t338, A60, H⟩ := H
   replace H : (if t338 = true then ((item_in.f a0_3 0 5).bind fun t339 => (item_ValidPart.j0 k (!t339) a0_0 a0_1 a0_2 a0_3 a0_4 a0_5)) else (item_ValidPart.j0 k true a0_0 a0_1 a0_2 a0_3 a0_4 a0_5)) = some r := H
   have A6 := za A60; clear A60
   by_cases c7 : t338 = true
   ·subst c7
    have H1 : ((item_in.f a0_3 0 5).bind fun t339 => (item_ValidPart.j0 k (!t339) a0_0 a0_1 a0_2 a0_3 a0_4 a0_5)) = some r := by rw [if_pos rfl] at H; exact H
    clear H; have H := H1; clear H1
    replace H := Option.bind_eq_some_iff.mp H
    obtain ⟨t339, A80, H⟩ := H
    replace H : (item_ValidPart.j0 k (!t339) a0_0 a0_1 a0_2 a0_3 a0_4 a0_5) = some r := H
    have A8 := za A80; clear A80; have H' := za H; clear H
    obtain ⟨hcz9_0, hcz9_1, hcz9_2, hcz9_3, hcz9_4, hcz9_5, hfz9_0, hfz9_1, hfz9_2, hfz9_3, hfz9_4, hfz9_5⟩ := z6 BK336
    go_wp2_with (first | ((with_reducible refine gate_callee (f := 61) rfl ?_); refine zL (some 5) Try.func61 #[.int .i64 a0_1, .int .i64 1, .int .i64 40] ?_; (with_reducible refine (item_in.calls a0_1 1 40 true _ A4.out).mono ?_); rintro e w' ⟨rfl, ⟨nd, rfl⟩⟩; refine ⟨_, rfl, ?_⟩) | (go_at_call 61; (with_reducible refine (item_in.calls a0_2 0 15 true _ A6.out).mono ?_); rintro e w' ⟨rfl, ⟨nd, rfl⟩⟩) | (go_at_call 61; (with_reducible refine (item_in.calls a0_3 0 5 t339 _ A8.out).mono ?_); rintro e w' ⟨rfl, ⟨nd, rfl⟩⟩))
    go_meet
    case rel => exact ⟨_, (!t339), q8c, H', ⟨by first | omega | exact Nat.le_refl _⟩, ⟨q8a⟩, ⟨zm HB⟩⟩
   ·replace c7 := Bool.eq_false_iff.mpr c7
    subst c7
    have H1 : (item_ValidPart.j0 k true a0_0 a0_1 a0_2 a0_3 a0_4 a0_5) = some r := by rw [if_neg (show ¬ (false = true) by decide)] at H; exact H
    clear H; have H := H1; clear H1; have H' := za H; clear H
    obtain ⟨hcz10_0, hcz10_1, hcz10_2, hcz10_3, hcz10_4, hcz10_5, hfz10_0, hfz10_1, hfz10_2, hfz10_3, hfz10_4, hfz10_5⟩ := z6 BK336
    go_wp2_with (first | ((with_reducible refine gate_callee (f := 61) rfl ?_); refine zL (some 5) Try.func61 #[.int .i64 a0_1, .int .i64 1, .int .i64 40] ?_; (with_reducible refine (item_in.calls a0_1 1 40 true _ A4.out).mono ?_); rintro e w' ⟨rfl, ⟨nd, rfl⟩⟩; refine ⟨_, rfl, ?_⟩) | (go_at_call 61; (with_reducible refine (item_in.calls a0_2 0 15 false _ A6.out).mono ?_); rintro e w' ⟨rfl, ⟨nd, rfl⟩⟩))
    go_meet
    case rel => exact ⟨_, (true), q8c, H', ⟨by first | omega | exact Nat.le_refl _⟩, ⟨q8a⟩, ⟨zm HB⟩⟩
  ·replace c5 := Bool.eq_false_iff.mpr c5
   subst c5
   have H1 : (item_ValidPart.j0 k true a0_0 a0_1 a0_2 a0_3 a0_4 a0_5) = some r := by rw [if_neg (show ¬ (false = true) by decide)] at H; exact H
   clear H; have H := H1; clear H1; have H' := za H; clear H
   obtain ⟨hcz11_0, hcz11_1, hcz11_2, hcz11_3, hcz11_4, hcz11_5, hfz11_0, hfz11_1, hfz11_2, hfz11_3, hfz11_4, hfz11_5⟩ := z6 BK336
   go_wp2_with (first | ((with_reducible refine gate_callee (f := 61) rfl ?_); refine zL (some 5) Try.func61 #[.int .i64 a0_1, .int .i64 1, .int .i64 40] ?_; (with_reducible refine (item_in.calls a0_1 1 40 false _ A4.out).mono ?_); rintro e w' ⟨rfl, ⟨nd, rfl⟩⟩; refine ⟨_, rfl, ?_⟩))
   go_meet
   case rel => exact ⟨_, (true), q8c, H', ⟨by first | omega | exact Nat.le_refl _⟩, ⟨q8a⟩, ⟨zm HB⟩⟩
 case rest =>
  clear HC2; (try clear p2); (try clear c5); (try clear c6); (try clear c7); (try clear hcz10_0); (try clear hcz10_1); (try clear hcz10_2); (try clear hcz10_3); (try clear hcz10_4); (try clear hcz10_5); (try clear hcz11_0); (try clear hcz11_1); (try clear hcz11_2); (try clear hcz11_3); (try clear hcz11_4); (try clear hcz11_5); (try clear hcz9_0); (try clear hcz9_1); (try clear hcz9_2); (try clear hcz9_3); (try clear hcz9_4); (try clear hcz9_5); (try clear hfz10_0); (try clear hfz10_1); (try clear hfz10_2); (try clear hfz10_3); (try clear hfz10_4); (try clear hfz10_5); (try clear hfz11_0); (try clear hfz11_1); (try clear hfz11_2); (try clear hfz11_3); (try clear hfz11_4); (try clear hfz11_5); (try clear hfz9_0); (try clear hfz9_1); (try clear hfz9_2); (try clear hfz9_3); (try clear hfz9_4); (try clear hfz9_5)
  obtain ⟨kq, x18_1, rfl, HA, HJ1, BK336, HB⟩ := hcut
  cases kq with
  | zero => exact absurd HA.out (by simp [item_ValidPart.j0])
  | succ kj1 =>
   have H := HA.out
   clear HA
   simp only [item_ValidPart.j0] at H
   by_cases c12 : x18_1 = true
   ·subst c12
    have H1 : (some false) = some r := by rw [if_pos rfl] at H; exact H
    clear H; have H := H1; clear H1
    obtain rfl := Option.some.inj H
    go_wp2
    go_ret
    exact ⟨zf, zm HB⟩
   ·replace c12 := Bool.eq_false_iff.mpr c12
    subst c12
    have H1 : (if a0_0 = 1 then (if a0_4 = 0 then (some (a0_5 == 0)) else (some false)) else (if a0_0 = 2 then ((item_in.f a0_4 2 5).bind fun t340 => (if t340 = true then ((item_in.f a0_5 0 (wrap64 (a0_4 - 1))).bind fun t341 => (some t341)) else (some false))) else (some false))) = some r := by rw [if_neg (show ¬ (false = true) by decide)] at H; exact H
    clear H; have H := H1; clear H1
    by_cases c13 : a0_0 = 1
    ·rw [if_pos c13] at H
     have c13b0 : (a0_0 == 1) = true := beq_iff_eq.mpr c13
     have c13b1 : (a0_0 != 1) = false := bne_eq_false_iff_eq.mpr c13
     clear c13
     by_cases c14 : a0_4 = 0
     ·rw [if_pos c14] at H
      have c14b0 : (a0_4 == 0) = true := beq_iff_eq.mpr c14
      have c14b1 : (a0_4 != 0) = false := bne_eq_false_iff_eq.mpr c14
      clear c14
      obtain rfl := Option.some.inj H
      obtain ⟨hcz15_0, hcz15_1, hcz15_2, hcz15_3, hcz15_4, hcz15_5, hfz15_0, hfz15_1, hfz15_2, hfz15_3, hfz15_4, hfz15_5⟩ := z6 BK336
      go_wp2
      go_ret
      exact ⟨zf, zm HB⟩
     ·rw [if_neg c14] at H
      have c14b0 : (a0_4 == 0) = false := beq_eq_false_iff_ne.mpr c14
      have c14b1 : (a0_4 != 0) = true := bne_iff_ne.mpr c14
      obtain rfl := Option.some.inj H
      obtain ⟨hcz16_0, hcz16_1, hcz16_2, hcz16_3, hcz16_4, hcz16_5, hfz16_0, hfz16_1, hfz16_2, hfz16_3, hfz16_4, hfz16_5⟩ := z6 BK336
      go_wp2
      go_ret
      exact ⟨zf, zm HB⟩
    ·rw [if_neg c13] at H
     have c13b0 : (a0_0 == 1) = false := beq_eq_false_iff_ne.mpr c13
     have c13b1 : (a0_0 != 1) = true := bne_iff_ne.mpr c13
     by_cases c17 : a0_0 = 2
     ·rw [if_pos c17] at H
      have c17b0 : (a0_0 == 2) = true := beq_iff_eq.mpr c17
      have c17b1 : (a0_0 != 2) = false := bne_eq_false_iff_eq.mpr c17
      clear c17
      replace H := Option.bind_eq_some_iff.mp H
      obtain ⟨t340, A180, H⟩ := H
      replace H : (if t340 = true then ((item_in.f a0_5 0 (wrap64 (a0_4 - 1))).bind fun t341 => (some t341)) else (some false)) = some r := H
      have A18 := za A180; clear A180
      by_cases c19 : t340 = true
      ·subst c19
       have H1 : ((item_in.f a0_5 0 (wrap64 (a0_4 - 1))).bind fun t341 => (some t341)) = some r := by rw [if_pos rfl] at H; exact H
       clear H; have H := H1; clear H1
       replace H := Option.bind_eq_some_iff.mp H
       obtain ⟨t341, A200, H⟩ := H
       replace H : (some t341) = some r := H
       have A20 := za A200; clear A200
       obtain rfl := Option.some.inj H
       obtain ⟨hcz21_0, hcz21_1, hcz21_2, hcz21_3, hcz21_4, hcz21_5, hfz21_0, hfz21_1, hfz21_2, hfz21_3, hfz21_4, hfz21_5⟩ := z6 BK336
       go_wp2_with (first | ((with_reducible refine gate_callee (f := 61) rfl ?_); refine zL (some 35) Try.func61 #[.int .i64 a0_4, .int .i64 2, .int .i64 5] ?_; (with_reducible refine (item_in.calls a0_4 2 5 true _ A18.out).mono ?_); rintro e w' ⟨rfl, ⟨nd, rfl⟩⟩; refine ⟨_, rfl, ?_⟩) | (go_at_call 61; (with_reducible refine (item_in.calls a0_5 0 (wrap64 (a0_4 - 1)) t341 _ A20.out).mono ?_); rintro e w' ⟨rfl, ⟨nd, rfl⟩⟩))
       go_ret
       exact ⟨zf, zm HB⟩
      ·replace c19 := Bool.eq_false_iff.mpr c19
       subst c19
       have H1 : (some false) = some r := by rw [if_neg (show ¬ (false = true) by decide)] at H; exact H
       clear H; have H := H1; clear H1
       obtain rfl := Option.some.inj H
       obtain ⟨hcz22_0, hcz22_1, hcz22_2, hcz22_3, hcz22_4, hcz22_5, hfz22_0, hfz22_1, hfz22_2, hfz22_3, hfz22_4, hfz22_5⟩ := z6 BK336
       go_wp2_with (first | ((with_reducible refine gate_callee (f := 61) rfl ?_); refine zL (some 35) Try.func61 #[.int .i64 a0_4, .int .i64 2, .int .i64 5] ?_; (with_reducible refine (item_in.calls a0_4 2 5 false _ A18.out).mono ?_); rintro e w' ⟨rfl, ⟨nd, rfl⟩⟩; refine ⟨_, rfl, ?_⟩))
       go_ret
       exact ⟨zf, zm HB⟩
     ·rw [if_neg c17] at H
      have c17b0 : (a0_0 == 2) = false := beq_eq_false_iff_ne.mpr c17
      have c17b1 : (a0_0 != 2) = true := bne_iff_ne.mpr c17
      obtain rfl := Option.some.inj H
      obtain ⟨hcz23_0, hcz23_1, hcz23_2, hcz23_3, hcz23_4, hcz23_5, hfz23_0, hfz23_1, hfz23_2, hfz23_3, hfz23_4, hfz23_5⟩ := z6 BK336
      go_wp2
      go_ret
      exact ⟨zf, zm HB⟩

/-! ### item_bad: function 63 -/
def item_bad.f (k : Nat) (a0_0 : Int) (a0_1 : Int) (a0_2 : Int) (a0_3 : Int) (a0_4 : Int) (a0_5 : Int) : Option (Bool) := (item_ValidPart.f k a0_0 a0_1 a0_2 a0_3 a0_4 a0_5).bind fun t343 => (some (!t343))
theorem item_bad.mono : ∀ a0 a1 a2 a3 a4 a5 k, LeO (item_bad.f k a0 a1 a2 a3 a4 a5) (item_bad.f (k + 1) a0 a1 a2 a3 a4 a5) := by
  intro a0 a1 a2 a3 a4 a5 k
  unfold item_bad.f
  repeat' first
      | (with_reducible exact item_ValidPart.mono _ _ _ _ _ _ _)
      | (with_reducible exact LeO.refl _)
      | (with_reducible exact LeO.none _)
      | (with_reducible refine LeO.ite ?_ ?_)
      | (with_reducible refine LeO.bind ?_ (fun _ => ?_))
      | exact item_ValidPart.mono _ _ _ _ _ _ _
      | exact LeO.none _
      | refine LeO.ite ?_ ?_
      | refine LeO.bind ?_ (fun _ => ?_)
set_option maxHeartbeats 8000000 in
set_option maxRecDepth 100000 in
theorem item_bad.calls (k : Nat) (a0_0 : Int) (a0_1 : Int) (a0_2 : Int) (a0_3 : Int) (a0_4 : Int) (a0_5 : Int) (r : Bool) (w : World) (h : item_bad.f k a0_0 a0_1 a0_2 a0_3 a0_4 a0_5 = some r) :
    Calls Try.prog 63 #[.agg #[.int .i64 a0_0, .int .i64 a0_1, .int .i64 a0_2, .int .i64 a0_3, .int .i64 a0_4, .int .i64 a0_5]] w fun e w' => e = .returned (.bool r) ∧ Below w.heap.size w w' := by
 have hu65 := Try.underlying65
 have HB := za (Below.refl w.heap.size w)
 have H : ((item_ValidPart.f k a0_0 a0_1 a0_2 a0_3 a0_4 a0_5).bind fun t343 => (some (!t343))) = some r := h
 clear h
 replace H := Option.bind_eq_some_iff.mp H
 obtain ⟨t343, A20, H⟩ := H
 replace H : (some (!t343)) = some r := H
 have A2 := za A20; clear A20
 obtain rfl := Option.some.inj H
 go_enter Try.func63, Try.ntmps63
 go_wp2_with (first | ((with_reducible refine gate_dst (N := 1) rfl ?_); refine zE 1 #[.int .i64 a0_0, .int .i64 a0_1, .int .i64 a0_2, .int .i64 a0_3, .int .i64 a0_4, .int .i64 a0_5] 65 ?_; intro gb342 hg w3 hbox hb; have BK342 := za (hbox); have GW342 := zg HB hg; have GE342 := zg HB hg; replace HB := zs HB hb; clear hb hbox hg; obtain ⟨hcz4_0, hcz4_1, hcz4_2, hcz4_3, hcz4_4, hcz4_5, hfz4_0, hfz4_1, hfz4_2, hfz4_3, hfz4_4, hfz4_5⟩ := z6 BK342) | ((with_reducible refine gate_callee (f := 66) rfl ?_); refine zL (some 4) Try.func66 #[.agg #[.int .i64 a0_0, .int .i64 a0_1, .int .i64 a0_2, .int .i64 a0_3, .int .i64 a0_4, .int .i64 a0_5]] ?_; (with_reducible refine (item_ValidPart.calls k a0_0 a0_1 a0_2 a0_3 a0_4 a0_5 t343 _ A2.out).mono ?_); rintro e w5 ⟨rfl, hb⟩; refine ⟨_, rfl, ?_⟩; replace BK342 := zb BK342 hb; replace HB := zs HB hb; (try clear hb); (try clear hb2); (try clear hk); (try clear hi)))
 go_ret
 exact ⟨zf, zm HB⟩

/-! ### item_sum: function 64 -/
def item_sum.l0 : Nat → Int → List (S65) → Int → Int → Option (Int)
  | 0, _, _, _, _ => none
  | k + 1, x3, x6, x7, x8 => if x8 < x7 then (if 0 ≤ x8 then (if x8 < (x6.length : Int) then (item_sum.l0 k (wrap64 (x3 + ((rd_T65 x6 x8).f1))) x6 x7 (wrap64 (x8 + 1))) else (none)) else (none)) else (some x3)
def item_sum.f (k : Nat) (l0 : List (S65)) : Option (Int) := item_sum.l0 k 0 l0 (l0.length : Int) 0
theorem item_sum.mono_l : ∀ k, (∀ y0 y1 y2 y3, LeO (item_sum.l0 k y0 y1 y2 y3) (item_sum.l0 (k + 1) y0 y1 y2 y3))
  | 0 => fun _ _ _ _ r h => by simp [item_sum.l0] at h
  | k + 1 => by
    have ih0 := item_sum.mono_l k
    · intro y0 y1 y2 y3
      unfold item_sum.l0
      repeat' first
      | (with_reducible exact ih0 _ _ _ _)
      | (with_reducible exact LeO.refl _)
      | (with_reducible exact LeO.none _)
      | (with_reducible refine LeO.ite ?_ ?_)
      | (with_reducible refine LeO.bind ?_ (fun _ => ?_))
      | exact ih0 _ _ _ _
      | exact LeO.none _
      | refine LeO.ite ?_ ?_
      | refine LeO.bind ?_ (fun _ => ?_)
theorem item_sum.mono : ∀ a0 k, LeO (item_sum.f k a0) (item_sum.f (k + 1) a0) := by
  intro a0 k
  have ih0 := item_sum.mono_l k
  unfold item_sum.f
  repeat' first
      | (with_reducible exact ih0 _ _ _ _)
      | (with_reducible exact LeO.refl _)
      | (with_reducible exact LeO.none _)
      | (with_reducible refine LeO.ite ?_ ?_)
      | (with_reducible refine LeO.bind ?_ (fun _ => ?_))
      | exact ih0 _ _ _ _
      | exact LeO.none _
      | refine LeO.ite ?_ ?_
      | refine LeO.bind ?_ (fun _ => ?_)
set_option maxHeartbeats 8000000 in
set_option maxRecDepth 100000 in
theorem item_sum.calls (k : Nat) (A0 : Option Addr) (c0 : Nat) (l0 : List (S65)) (r : Int) (w : World) (hr0 : Kd.C k65 w A0 l0.length l0) (hc0 : l0.length ≤ c0) (h : item_sum.f k l0 = some r) :
    Calls Try.prog 64 #[.slice A0 l0.length c0] w fun e w' => e = .returned (.int .i64 r) ∧ Below w.heap.size w w' := by
 have hu65 := Try.underlying65
 have HR0 := za hr0; have HC0 := za hc0; clear hr0 hc0
 have HB := za (Below.refl w.heap.size w)
 have H : (item_sum.l0 k 0 l0 (l0.length : Int) 0) = some r := h
 clear h; have H' := za H; clear H
 go_enter Try.func64, Try.ntmps64
 go_wp2
 go_loopg [3, 8] k (fun kq v3 v8 w' => ∃ (x3_1 : Int) (x8_1 : Int), v3 = .int .i64 x3_1 ∧ v8 = .int .i64 x8_1 ∧ Aside0 (item_sum.l0 kq x3_1 l0 (l0.length : Int) x8_1 = some r) ∧ Aside0 (kq ≤ k) ∧ Aside0 (Below w.heap.size w w'))
 case atStart => exact ⟨(0), (0), q8c, q8c, H', ⟨Nat.le_refl _⟩, ⟨zm HB⟩⟩
 case round =>
  clear H'
  obtain ⟨x3_1, x8_1, rfl, rfl, HA, HK1, HB⟩ := hrel
  cases gk with
  | zero => exact absurd HA.out (by simp [item_sum.l0])
  | succ k1 =>
   have H := HA.out
   clear HA
   simp only [item_sum.l0] at H
   by_cases c2 : x8_1 < (l0.length : Int)
   ·rw [if_pos c2] at H
    have c2b0 : decide (x8_1 < (l0.length : Int)) = true := decide_eq_true c2
    clear c2
    by_cases c3 : 0 ≤ x8_1
    ·rw [if_pos c3] at H
     have c3b0 : decide (0 ≤ x8_1) = true := decide_eq_true c3
     clear c3
     by_cases c4 : x8_1 < (l0.length : Int)
     ·rw [if_pos c4] at H
      have c4b0 : decide (x8_1 < (l0.length : Int)) = true := decide_eq_true c4
      clear c4; have H' := za H; clear H
      have p344 : 0 ≤ (x8_1 : Int) := of_decide_eq_true q8b
      have q344 : x8_1 < (l0.length : Int) := of_decide_eq_true q8b
      obtain ⟨ad344, e344, hx344_0, hx344_1, hx344_2, hx344_3, hx344_4, hx344_5⟩ := at_T65 HR0.out x8_1 p344 q344
      cases e344
      replace hx344_0 := zx HB hx344_0
      replace hx344_1 := zx HB hx344_1
      replace hx344_2 := zx HB hx344_2
      replace hx344_3 := zx HB hx344_3
      replace hx344_4 := zx HB hx344_4
      replace hx344_5 := zx HB hx344_5
      replace p344 := eq_true p344
      replace q344 := eq_true q344
      go_wp2_with (first | ((with_reducible refine gate_dst (N := 5) rfl ?_); refine zE 5 #[.int .i64 0, .int .i64 0, .int .i64 0, .int .i64 0, .int .i64 0, .int .i64 0] 65 ?_; intro gb345 hg w5 hbox hb; have BK345 := za (hbox); have GW345 := zg HB hg; have GE345 := zg HB hg; replace HB := zs HB hb; clear hb hbox hg; obtain ⟨hcz6_0, hcz6_1, hcz6_2, hcz6_3, hcz6_4, hcz6_5, hfz6_0, hfz6_1, hfz6_2, hfz6_3, hfz6_4, hfz6_5⟩ := z6 BK345))
      go_roundg k1
      case measure => have := HK1.out; omega
      case rel => exact ⟨(wrap64 (x3_1 + ((rd_T65 l0 x8_1).f1))), (wrap64 (x8_1 + 1)), q8c, q8c, H', ⟨by have := HK1.out; omega⟩, ⟨zm HB⟩⟩
     ·rw [if_neg c4] at H
      exact absurd H (by simp)
    ·rw [if_neg c3] at H
     exact absurd H (by simp)
   ·rw [if_neg c2] at H
    have c2b0 : decide (x8_1 < (l0.length : Int)) = false := decide_eq_false c2
    clear c2
    obtain rfl := Option.some.inj H
    go_wp2
    go_ret
    exact ⟨zf, zm HB⟩

/-! ### api_Part_bad_s67: function 67 -/
def api_Part_bad_s67.l0 : Nat → List (S65) → Int → Int → Option (Int)
  | 0, _, _, _ => none
  | k + 1, x0, x7, x8 => if x8 < x7 then (if 0 ≤ x8 then (if x8 < (x0.length : Int) then ((item_bad.f k ((rd_T65 x0 x8).f0) ((rd_T65 x0 x8).f1) ((rd_T65 x0 x8).f2) ((rd_T65 x0 x8).f3) ((rd_T65 x0 x8).f4) ((rd_T65 x0 x8).f5)).bind fun t347 => (if t347 = true then (some x8) else (api_Part_bad_s67.l0 k x0 x7 (wrap64 (x8 + 1))))) else (none)) else (none)) else (some (-1))
def api_Part_bad_s67.f (k : Nat) (l0 : List (S65))  : Option (Int) := api_Part_bad_s67.l0 k l0 (l0.length : Int) 0
theorem api_Part_bad_s67.mono_l : ∀ k, (∀ y0 y1 y2, LeO (api_Part_bad_s67.l0 k y0 y1 y2) (api_Part_bad_s67.l0 (k + 1) y0 y1 y2))
  | 0 => fun _ _ _ r h => by simp [api_Part_bad_s67.l0] at h
  | k + 1 => by
    have ih0 := api_Part_bad_s67.mono_l k
    · intro y0 y1 y2
      unfold api_Part_bad_s67.l0
      repeat' first
      | (with_reducible exact ih0 _ _ _)
      | (with_reducible exact item_bad.mono _ _ _ _ _ _ _)
      | (with_reducible exact LeO.refl _)
      | (with_reducible exact LeO.none _)
      | (with_reducible refine LeO.ite ?_ ?_)
      | (with_reducible refine LeO.bind ?_ (fun _ => ?_))
      | exact ih0 _ _ _
      | exact item_bad.mono _ _ _ _ _ _ _
      | exact LeO.none _
      | refine LeO.ite ?_ ?_
      | refine LeO.bind ?_ (fun _ => ?_)
theorem api_Part_bad_s67.mono : ∀ a0 k, LeO (api_Part_bad_s67.f k a0) (api_Part_bad_s67.f (k + 1) a0) := by
  intro a0 k
  have ih0 := api_Part_bad_s67.mono_l k
  unfold api_Part_bad_s67.f
  repeat' first
      | (with_reducible exact ih0 _ _ _)
      | (with_reducible exact item_bad.mono _ _ _ _ _ _ _)
      | (with_reducible exact LeO.refl _)
      | (with_reducible exact LeO.none _)
      | (with_reducible refine LeO.ite ?_ ?_)
      | (with_reducible refine LeO.bind ?_ (fun _ => ?_))
      | exact ih0 _ _ _
      | exact item_bad.mono _ _ _ _ _ _ _
      | exact LeO.none _
      | refine LeO.ite ?_ ?_
      | refine LeO.bind ?_ (fun _ => ?_)
set_option maxHeartbeats 8000000 in
set_option maxRecDepth 100000 in
theorem api_Part_bad_s67.calls (k : Nat) (A0 : Option Addr) (c0 : Nat) (l0 : List (S65))  (r : Int) (w : World) (hr0 : Kd.C k65 w A0 l0.length l0) (hc0 : l0.length ≤ c0) (h : api_Part_bad_s67.f k l0 = some r) :
    Calls Try.prog 67 #[.slice A0 l0.length c0, .func (.func 63) #[] #[]] w fun e w' => e = .returned (.int .i64 r) ∧ Below w.heap.size w w' := by
 have hu65 := Try.underlying65
 have HR0 := za hr0; have HC0 := za hc0; clear hr0 hc0
 have HB := za (Below.refl w.heap.size w)
 have H : (api_Part_bad_s67.l0 k l0 (l0.length : Int) 0) = some r := h
 clear h; have H' := za H; clear H
 go_enter Try.func67, Try.ntmps67
 go_wp2
 go_loopg [8] k (fun kq v8 w' => ∃ (x8_1 : Int), v8 = .int .i64 x8_1 ∧ Aside0 (api_Part_bad_s67.l0 kq l0 (l0.length : Int) x8_1 = some r) ∧ Aside0 (kq ≤ k) ∧ Aside0 (Below w.heap.size w w'))
 case atStart => exact ⟨(0), q8c, H', ⟨Nat.le_refl _⟩, ⟨zm HB⟩⟩
 case round =>
  clear H'; (try clear p2)
  obtain ⟨x8_1, rfl, HA, HK1, HB⟩ := hrel
  cases gk with
  | zero => exact absurd HA.out (by simp [api_Part_bad_s67.l0])
  | succ k1 =>
   have H := HA.out
   clear HA
   simp only [api_Part_bad_s67.l0] at H
   by_cases c3 : x8_1 < (l0.length : Int)
   ·rw [if_pos c3] at H
    have c3b0 : decide (x8_1 < (l0.length : Int)) = true := decide_eq_true c3
    clear c3
    by_cases c4 : 0 ≤ x8_1
    ·rw [if_pos c4] at H
     have c4b0 : decide (0 ≤ x8_1) = true := decide_eq_true c4
     clear c4
     by_cases c5 : x8_1 < (l0.length : Int)
     ·rw [if_pos c5] at H
      have c5b0 : decide (x8_1 < (l0.length : Int)) = true := decide_eq_true c5
      clear c5
      replace H := Option.bind_eq_some_iff.mp H
      obtain ⟨t347, A60, H⟩ := H
      replace H : (if t347 = true then (some x8_1) else (api_Part_bad_s67.l0 k1 l0 (l0.length : Int) (wrap64 (x8_1 + 1)))) = some r := H
      have A6 := za A60; clear A60
      by_cases c7 : t347 = true
      ·subst c7
       have H1 : (some x8_1) = some r := by rw [if_pos rfl] at H; exact H
       clear H; have H := H1; clear H1
       obtain rfl := Option.some.inj H
       have p346 : 0 ≤ (x8_1 : Int) := of_decide_eq_true q8b
       have q346 : x8_1 < (l0.length : Int) := of_decide_eq_true q8b
       obtain ⟨ad346, e346, hx346_0, hx346_1, hx346_2, hx346_3, hx346_4, hx346_5⟩ := at_T65 HR0.out x8_1 p346 q346
       cases e346
       replace hx346_0 := zx HB hx346_0
       replace hx346_1 := zx HB hx346_1
       replace hx346_2 := zx HB hx346_2
       replace hx346_3 := zx HB hx346_3
       replace hx346_4 := zx HB hx346_4
       replace hx346_5 := zx HB hx346_5
       replace p346 := eq_true p346
       replace q346 := eq_true q346
       go_wp2_with (first | (go_at_call 63; (with_reducible refine (item_bad.calls k1 ((rd_T65 l0 x8_1).f0) ((rd_T65 l0 x8_1).f1) ((rd_T65 l0 x8_1).f2) ((rd_T65 l0 x8_1).f3) ((rd_T65 l0 x8_1).f4) ((rd_T65 l0 x8_1).f5) true _ A6.out).mono ?_); rintro e w8 ⟨rfl, hb⟩; replace HB := zs HB hb; (try clear hb); (try clear hb2); (try clear hk); (try clear hi)))
       go_ret
       exact ⟨zf, zm HB⟩
      ·replace c7 := Bool.eq_false_iff.mpr c7
       subst c7
       have H1 : (api_Part_bad_s67.l0 k1 l0 (l0.length : Int) (wrap64 (x8_1 + 1))) = some r := by rw [if_neg (show ¬ (false = true) by decide)] at H; exact H
       clear H; have H := H1; clear H1; have H' := za H; clear H
       have p346 : 0 ≤ (x8_1 : Int) := of_decide_eq_true q8b
       have q346 : x8_1 < (l0.length : Int) := of_decide_eq_true q8b
       obtain ⟨ad346, e346, hx346_0, hx346_1, hx346_2, hx346_3, hx346_4, hx346_5⟩ := at_T65 HR0.out x8_1 p346 q346
       cases e346
       replace hx346_0 := zx HB hx346_0
       replace hx346_1 := zx HB hx346_1
       replace hx346_2 := zx HB hx346_2
       replace hx346_3 := zx HB hx346_3
       replace hx346_4 := zx HB hx346_4
       replace hx346_5 := zx HB hx346_5
       replace p346 := eq_true p346
       replace q346 := eq_true q346
       go_wp2_with (first | (go_at_call 63; (with_reducible refine (item_bad.calls k1 ((rd_T65 l0 x8_1).f0) ((rd_T65 l0 x8_1).f1) ((rd_T65 l0 x8_1).f2) ((rd_T65 l0 x8_1).f3) ((rd_T65 l0 x8_1).f4) ((rd_T65 l0 x8_1).f5) false _ A6.out).mono ?_); rintro e w9 ⟨rfl, hb⟩; replace HB := zs HB hb; (try clear hb); (try clear hb2); (try clear hk); (try clear hi)))
       go_roundg k1
       case measure => have := HK1.out; omega
       case rel => exact ⟨(wrap64 (x8_1 + 1)), q8c, H', ⟨by have := HK1.out; omega⟩, ⟨zm HB⟩⟩
     ·rw [if_neg c5] at H
      exact absurd H (by simp)
    ·rw [if_neg c4] at H
     exact absurd H (by simp)
   ·rw [if_neg c3] at H
    have c3b0 : decide (x8_1 < (l0.length : Int)) = false := decide_eq_false c3
    clear c3
    obtain rfl := Option.some.inj H
    go_wp2
    go_ret
    exact ⟨zf, zm HB⟩

/-! ### api_Part_bad_s62: function 62 -/
def api_Part_bad_s62.f (k : Nat) (l0 : List (S65))  : Option (Bool) := (api_Part_bad_s67.f k l0).bind fun t348 => (some (decide (t348 ≥ 0)))
theorem api_Part_bad_s62.mono : ∀ a0 k, LeO (api_Part_bad_s62.f k a0) (api_Part_bad_s62.f (k + 1) a0) := by
  intro a0 k
  unfold api_Part_bad_s62.f
  repeat' first
      | (with_reducible exact api_Part_bad_s67.mono _ _)
      | (with_reducible exact LeO.refl _)
      | (with_reducible exact LeO.none _)
      | (with_reducible refine LeO.ite ?_ ?_)
      | (with_reducible refine LeO.bind ?_ (fun _ => ?_))
      | exact api_Part_bad_s67.mono _ _
      | exact LeO.none _
      | refine LeO.ite ?_ ?_
      | refine LeO.bind ?_ (fun _ => ?_)
set_option maxHeartbeats 8000000 in
set_option maxRecDepth 100000 in
theorem api_Part_bad_s62.calls (k : Nat) (A0 : Option Addr) (c0 : Nat) (l0 : List (S65))  (r : Bool) (w : World) (hr0 : Kd.C k65 w A0 l0.length l0) (hc0 : l0.length ≤ c0) (h : api_Part_bad_s62.f k l0 = some r) :
    Calls Try.prog 62 #[.slice A0 l0.length c0, .func (.func 63) #[] #[]] w fun e w' => e = .returned (.bool r) ∧ Below w.heap.size w w' := by
 have HR0 := za hr0; have HC0 := za hc0; clear hr0 hc0
 have HB := za (Below.refl w.heap.size w)
 have H : ((api_Part_bad_s67.f k l0).bind fun t348 => (some (decide (t348 ≥ 0)))) = some r := h
 clear h
 replace H := Option.bind_eq_some_iff.mp H
 obtain ⟨t348, A30, H⟩ := H
 replace H : (some (decide (t348 ≥ 0))) = some r := H
 have A3 := za A30; clear A30
 obtain rfl := Option.some.inj H
 go_enter Try.func62, Try.ntmps62
 go_wp2_with (first | (go_at_call 67; (with_reducible refine (api_Part_bad_s67.calls k _ _ l0 t348 _ ?side1 ?side2 A3.out).mono ?_); (case side1 => repeat (first | exact HR0.out | (with_reducible refine Kd.C_alloc ?_ _) | (with_reducible refine Kd.C_drewN ?_ _) | (with_reducible refine Kd.C_drew ?_))); (case side2 => exact HC0.out); rintro e w4 ⟨rfl, hb⟩; replace HB := zs HB hb; (try clear hb); (try clear hb2); (try clear hk); (try clear hi)))
 go_ret
 exact ⟨zf, zm HB⟩

/-! ### item_ValidPaper: function 52 -/
def item_ValidPaper.f (k : Nat) (a0_0 : Int) (a0_1 : Int) (l0_2 : List (S65)) : Option (Bool) := (item_in.f a0_0 0 31).bind fun t350 => (if t350 = true then ((item_in.f a0_1 0 3).bind fun t351 => (if t351 = true then ((item_in.f (l0_2.length : Int) 1 24).bind fun t352 => (if t352 = true then ((api_Part_bad_s62.f k l0_2).bind fun t353 => (if t353 = true then (some false) else ((item_sum.f k l0_2).bind fun t354 => (some (decide (t354 ≤ 200)))))) else (some false))) else (some false))) else (some false))
theorem item_ValidPaper.mono : ∀ a0 a1 a2 k, LeO (item_ValidPaper.f k a0 a1 a2) (item_ValidPaper.f (k + 1) a0 a1 a2) := by
  intro a0 a1 a2 k
  unfold item_ValidPaper.f
  repeat' first
      | (with_reducible exact api_Part_bad_s62.mono _ _)
      | (with_reducible exact item_sum.mono _ _)
      | (with_reducible exact LeO.refl _)
      | (with_reducible exact LeO.none _)
      | (with_reducible refine LeO.ite ?_ ?_)
      | (with_reducible refine LeO.bind ?_ (fun _ => ?_))
      | exact api_Part_bad_s62.mono _ _
      | exact item_sum.mono _ _
      | exact LeO.none _
      | refine LeO.ite ?_ ?_
      | refine LeO.bind ?_ (fun _ => ?_)
set_option maxHeartbeats 8000000 in
set_option maxRecDepth 100000 in
theorem item_ValidPaper.calls (k : Nat) (a0_0 : Int) (a0_1 : Int) (A0_2 : Option Addr) (c0_2 : Nat) (l0_2 : List (S65)) (r : Bool) (w : World) (hr0_2 : Kd.C k65 w A0_2 l0_2.length l0_2) (hc0_2 : l0_2.length ≤ c0_2) (h : item_ValidPaper.f k a0_0 a0_1 l0_2 = some r) :
    Calls Try.prog 52 #[.agg #[.int .i64 a0_0, .int .i64 a0_1, .slice A0_2 l0_2.length c0_2]] w fun e w' => e = .returned (.bool r) ∧ Below w.heap.size w w' := by
 have hu53 := Try.underlying53
 have HR0_2 := za hr0_2; have HC0_2 := za hc0_2; clear hr0_2 hc0_2
 have HB := za (Below.refl w.heap.size w)
 have H : ((item_in.f a0_0 0 31).bind fun t350 => (if t350 = true then ((item_in.f a0_1 0 3).bind fun t351 => (if t351 = true then ((item_in.f (l0_2.length : Int) 1 24).bind fun t352 => (if t352 = true then ((api_Part_bad_s62.f k l0_2).bind fun t353 => (if t353 = true then (some false) else ((item_sum.f k l0_2).bind fun t354 => (some (decide (t354 ≤ 200)))))) else (some false))) else (some false))) else (some false))) = some r := h
 clear h
 replace H := Option.bind_eq_some_iff.mp H
 obtain ⟨t350, A20, H⟩ := H
 replace H : (if t350 = true then ((item_in.f a0_1 0 3).bind fun t351 => (if t351 = true then ((item_in.f (l0_2.length : Int) 1 24).bind fun t352 => (if t352 = true then ((api_Part_bad_s62.f k l0_2).bind fun t353 => (if t353 = true then (some false) else ((item_sum.f k l0_2).bind fun t354 => (some (decide (t354 ≤ 200)))))) else (some false))) else (some false))) else (some false)) = some r := H
 have A2 := za A20; clear A20
 by_cases c3 : t350 = true
 ·subst c3
  have H1 : ((item_in.f a0_1 0 3).bind fun t351 => (if t351 = true then ((item_in.f (l0_2.length : Int) 1 24).bind fun t352 => (if t352 = true then ((api_Part_bad_s62.f k l0_2).bind fun t353 => (if t353 = true then (some false) else ((item_sum.f k l0_2).bind fun t354 => (some (decide (t354 ≤ 200)))))) else (some false))) else (some false))) = some r := by rw [if_pos rfl] at H; exact H
  clear H; have H := H1; clear H1
  replace H := Option.bind_eq_some_iff.mp H
  obtain ⟨t351, A40, H⟩ := H
  replace H : (if t351 = true then ((item_in.f (l0_2.length : Int) 1 24).bind fun t352 => (if t352 = true then ((api_Part_bad_s62.f k l0_2).bind fun t353 => (if t353 = true then (some false) else ((item_sum.f k l0_2).bind fun t354 => (some (decide (t354 ≤ 200)))))) else (some false))) else (some false)) = some r := H
  have A4 := za A40; clear A40
  by_cases c5 : t351 = true
  ·subst c5
   have H1 : ((item_in.f (l0_2.length : Int) 1 24).bind fun t352 => (if t352 = true then ((api_Part_bad_s62.f k l0_2).bind fun t353 => (if t353 = true then (some false) else ((item_sum.f k l0_2).bind fun t354 => (some (decide (t354 ≤ 200)))))) else (some false))) = some r := by rw [if_pos rfl] at H; exact H
   clear H; have H := H1; clear H1
   replace H := Option.bind_eq_some_iff.mp H
   obtain ⟨t352, A60, H⟩ := H
   replace H : (if t352 = true then ((api_Part_bad_s62.f k l0_2).bind fun t353 => (if t353 = true then (some false) else ((item_sum.f k l0_2).bind fun t354 => (some (decide (t354 ≤ 200)))))) else (some false)) = some r := H
   have A6 := za A60; clear A60
   by_cases c7 : t352 = true
   ·subst c7
    have H1 : ((api_Part_bad_s62.f k l0_2).bind fun t353 => (if t353 = true then (some false) else ((item_sum.f k l0_2).bind fun t354 => (some (decide (t354 ≤ 200)))))) = some r := by rw [if_pos rfl] at H; exact H
    clear H; have H := H1; clear H1
    replace H := Option.bind_eq_some_iff.mp H
    obtain ⟨t353, A80, H⟩ := H
    replace H : (if t353 = true then (some false) else ((item_sum.f k l0_2).bind fun t354 => (some (decide (t354 ≤ 200))))) = some r := H
    have A8 := za A80; clear A80
    by_cases c9 : t353 = true
    ·subst c9
     have H1 : (some false) = some r := by rw [if_pos rfl] at H; exact H
     clear H; have H := H1; clear H1
     obtain rfl := Option.some.inj H
     go_enter Try.func52, Try.ntmps52
     go_wp2_with (first | ((with_reducible refine gate_dst (N := 1) rfl ?_); (try (refine gate_guard (by rfl) ?_; dsimp only)); refine zE 1 #[.int .i64 a0_0, .int .i64 a0_1, .slice A0_2 l0_2.length c0_2] 53 ?_; intro gb349 hg w10 hbox hb; have BK349 := za (hbox); have GW349 := zg HB hg; have GE349 := zg HB hg; replace HB := zs HB hb; clear hb hbox hg; obtain ⟨hcz11_0, hcz11_1, hcz11_2, hfz11_0, hfz11_1, hfz11_2⟩ := z3 BK349) | ((with_reducible refine gate_callee (f := 61) rfl ?_); refine zL (some 5) Try.func61 #[.int .i64 a0_0, .int .i64 0, .int .i64 31] ?_; (with_reducible refine (item_in.calls a0_0 0 31 true _ A2.out).mono ?_); rintro e w' ⟨rfl, ⟨nd, rfl⟩⟩; refine ⟨_, rfl, ?_⟩) | (go_at_call 61; (with_reducible refine (item_in.calls a0_1 0 3 true _ A4.out).mono ?_); rintro e w' ⟨rfl, ⟨nd, rfl⟩⟩) | (go_at_call 61; (with_reducible refine (item_in.calls (l0_2.length : Int) 1 24 true _ A6.out).mono ?_); rintro e w' ⟨rfl, ⟨nd, rfl⟩⟩) | (go_at_call 62; (with_reducible refine (api_Part_bad_s62.calls k _ _ l0_2 true _ ?side1 ?side2 A8.out).mono ?_); (case side1 => repeat (first | exact (Kd.C_below HR0_2.out (zm HB)) | (with_reducible refine Kd.C_alloc ?_ _) | (with_reducible refine Kd.C_drewN ?_ _) | (with_reducible refine Kd.C_drew ?_))); (case side2 => exact HC0_2.out); rintro e w12 ⟨rfl, hb⟩; replace BK349 := zb BK349 hb; replace HB := zs HB hb; (try clear hb); (try clear hb2); (try clear hk); (try clear hi)))
     go_ret
     exact ⟨zf, zm HB⟩
    ·replace c9 := Bool.eq_false_iff.mpr c9
     subst c9
     have H1 : ((item_sum.f k l0_2).bind fun t354 => (some (decide (t354 ≤ 200)))) = some r := by rw [if_neg (show ¬ (false = true) by decide)] at H; exact H
     clear H; have H := H1; clear H1
     replace H := Option.bind_eq_some_iff.mp H
     obtain ⟨t354, A130, H⟩ := H
     replace H : (some (decide (t354 ≤ 200))) = some r := H
     have A13 := za A130; clear A130
     obtain rfl := Option.some.inj H
     go_enter Try.func52, Try.ntmps52
     go_wp2_with (first | ((with_reducible refine gate_dst (N := 1) rfl ?_); (try (refine gate_guard (by rfl) ?_; dsimp only)); refine zE 1 #[.int .i64 a0_0, .int .i64 a0_1, .slice A0_2 l0_2.length c0_2] 53 ?_; intro gb349 hg w14 hbox hb; have BK349 := za (hbox); have GW349 := zg HB hg; have GE349 := zg HB hg; replace HB := zs HB hb; clear hb hbox hg; obtain ⟨hcz15_0, hcz15_1, hcz15_2, hfz15_0, hfz15_1, hfz15_2⟩ := z3 BK349) | ((with_reducible refine gate_callee (f := 61) rfl ?_); refine zL (some 5) Try.func61 #[.int .i64 a0_0, .int .i64 0, .int .i64 31] ?_; (with_reducible refine (item_in.calls a0_0 0 31 true _ A2.out).mono ?_); rintro e w' ⟨rfl, ⟨nd, rfl⟩⟩; refine ⟨_, rfl, ?_⟩) | (go_at_call 61; (with_reducible refine (item_in.calls a0_1 0 3 true _ A4.out).mono ?_); rintro e w' ⟨rfl, ⟨nd, rfl⟩⟩) | (go_at_call 61; (with_reducible refine (item_in.calls (l0_2.length : Int) 1 24 true _ A6.out).mono ?_); rintro e w' ⟨rfl, ⟨nd, rfl⟩⟩) | (go_at_call 62; (with_reducible refine (api_Part_bad_s62.calls k _ _ l0_2 false _ ?side1 ?side2 A8.out).mono ?_); (case side1 => repeat (first | exact (Kd.C_below HR0_2.out (zm HB)) | (with_reducible refine Kd.C_alloc ?_ _) | (with_reducible refine Kd.C_drewN ?_ _) | (with_reducible refine Kd.C_drew ?_))); (case side2 => exact HC0_2.out); rintro e w16 ⟨rfl, hb⟩; replace BK349 := zb BK349 hb; replace HB := zs HB hb; (try clear hb); (try clear hb2); (try clear hk); (try clear hi); obtain ⟨hcz17_0, hcz17_1, hcz17_2, hfz17_0, hfz17_1, hfz17_2⟩ := z3 BK349) | (go_at_call 64; (with_reducible refine (item_sum.calls k _ _ l0_2 t354 _ ?side1 ?side2 A13.out).mono ?_); (case side1 => exact zC HR0_2 HB); (case side2 => exact HC0_2.out); rintro e w18 ⟨rfl, hb⟩; replace BK349 := zb BK349 hb; replace HB := zs HB hb; (try clear hb); (try clear hb2); (try clear hk); (try clear hi)))
     go_ret
     exact ⟨zf, zm HB⟩
   ·replace c7 := Bool.eq_false_iff.mpr c7
    subst c7
    have H1 : (some false) = some r := by rw [if_neg (show ¬ (false = true) by decide)] at H; exact H
    clear H; have H := H1; clear H1
    obtain rfl := Option.some.inj H
    go_enter Try.func52, Try.ntmps52
    go_wp2_with (first | ((with_reducible refine gate_dst (N := 1) rfl ?_); (try (refine gate_guard (by rfl) ?_; dsimp only)); refine zE 1 #[.int .i64 a0_0, .int .i64 a0_1, .slice A0_2 l0_2.length c0_2] 53 ?_; intro gb349 hg w19 hbox hb; have BK349 := za (hbox); have GW349 := zg HB hg; have GE349 := zg HB hg; replace HB := zs HB hb; clear hb hbox hg; obtain ⟨hcz20_0, hcz20_1, hcz20_2, hfz20_0, hfz20_1, hfz20_2⟩ := z3 BK349) | ((with_reducible refine gate_callee (f := 61) rfl ?_); refine zL (some 5) Try.func61 #[.int .i64 a0_0, .int .i64 0, .int .i64 31] ?_; (with_reducible refine (item_in.calls a0_0 0 31 true _ A2.out).mono ?_); rintro e w' ⟨rfl, ⟨nd, rfl⟩⟩; refine ⟨_, rfl, ?_⟩) | (go_at_call 61; (with_reducible refine (item_in.calls a0_1 0 3 true _ A4.out).mono ?_); rintro e w' ⟨rfl, ⟨nd, rfl⟩⟩) | (go_at_call 61; (with_reducible refine (item_in.calls (l0_2.length : Int) 1 24 false _ A6.out).mono ?_); rintro e w' ⟨rfl, ⟨nd, rfl⟩⟩))
    go_ret
    exact ⟨zf, zm HB⟩
  ·replace c5 := Bool.eq_false_iff.mpr c5
   subst c5
   have H1 : (some false) = some r := by rw [if_neg (show ¬ (false = true) by decide)] at H; exact H
   clear H; have H := H1; clear H1
   obtain rfl := Option.some.inj H
   go_enter Try.func52, Try.ntmps52
   go_wp2_with (first | ((with_reducible refine gate_dst (N := 1) rfl ?_); (try (refine gate_guard (by rfl) ?_; dsimp only)); refine zE 1 #[.int .i64 a0_0, .int .i64 a0_1, .slice A0_2 l0_2.length c0_2] 53 ?_; intro gb349 hg w21 hbox hb; have BK349 := za (hbox); have GW349 := zg HB hg; have GE349 := zg HB hg; replace HB := zs HB hb; clear hb hbox hg; obtain ⟨hcz22_0, hcz22_1, hcz22_2, hfz22_0, hfz22_1, hfz22_2⟩ := z3 BK349) | ((with_reducible refine gate_callee (f := 61) rfl ?_); refine zL (some 5) Try.func61 #[.int .i64 a0_0, .int .i64 0, .int .i64 31] ?_; (with_reducible refine (item_in.calls a0_0 0 31 true _ A2.out).mono ?_); rintro e w' ⟨rfl, ⟨nd, rfl⟩⟩; refine ⟨_, rfl, ?_⟩) | (go_at_call 61; (with_reducible refine (item_in.calls a0_1 0 3 false _ A4.out).mono ?_); rintro e w' ⟨rfl, ⟨nd, rfl⟩⟩))
   go_ret
   exact ⟨zf, zm HB⟩
 ·replace c3 := Bool.eq_false_iff.mpr c3
  subst c3
  have H1 : (some false) = some r := by rw [if_neg (show ¬ (false = true) by decide)] at H; exact H
  clear H; have H := H1; clear H1
  obtain rfl := Option.some.inj H
  go_enter Try.func52, Try.ntmps52
  go_wp2_with (first | ((with_reducible refine gate_dst (N := 1) rfl ?_); (try (refine gate_guard (by rfl) ?_; dsimp only)); refine zE 1 #[.int .i64 a0_0, .int .i64 a0_1, .slice A0_2 l0_2.length c0_2] 53 ?_; intro gb349 hg w23 hbox hb; have BK349 := za (hbox); have GW349 := zg HB hg; have GE349 := zg HB hg; replace HB := zs HB hb; clear hb hbox hg; obtain ⟨hcz24_0, hcz24_1, hcz24_2, hfz24_0, hfz24_1, hfz24_2⟩ := z3 BK349) | ((with_reducible refine gate_callee (f := 61) rfl ?_); refine zL (some 5) Try.func61 #[.int .i64 a0_0, .int .i64 0, .int .i64 31] ?_; (with_reducible refine (item_in.calls a0_0 0 31 false _ A2.out).mono ?_); rintro e w' ⟨rfl, ⟨nd, rfl⟩⟩; refine ⟨_, rfl, ?_⟩))
  go_ret
  exact ⟨zf, zm HB⟩

/-! ### booklet_Need: function 55 -/
def booklet_Need.f (k : Nat) (a0_0 : Int) (a0_1 : Int) (a0_2 : Int) (a0_3 : Int) (a0_4 : Int) (a0_5 : Int) : Option (Int) := (item_ValidPart.f k a0_0 a0_1 a0_2 a0_3 a0_4 a0_5).bind fun t356 => (if t356 = true then (if a0_0 = 2 then (some (wrap64 (2 + a0_4))) else (some (mn (wrap64 (2 + a0_1)) 30))) else (some 0))
theorem booklet_Need.mono : ∀ a0 a1 a2 a3 a4 a5 k, LeO (booklet_Need.f k a0 a1 a2 a3 a4 a5) (booklet_Need.f (k + 1) a0 a1 a2 a3 a4 a5) := by
  intro a0 a1 a2 a3 a4 a5 k
  unfold booklet_Need.f
  repeat' first
      | (with_reducible exact item_ValidPart.mono _ _ _ _ _ _ _)
      | (with_reducible exact LeO.refl _)
      | (with_reducible exact LeO.none _)
      | (with_reducible refine LeO.ite ?_ ?_)
      | (with_reducible refine LeO.bind ?_ (fun _ => ?_))
      | exact item_ValidPart.mono _ _ _ _ _ _ _
      | exact LeO.none _
      | refine LeO.ite ?_ ?_
      | refine LeO.bind ?_ (fun _ => ?_)
set_option maxHeartbeats 8000000 in
set_option maxRecDepth 100000 in
theorem booklet_Need.calls (k : Nat) (a0_0 : Int) (a0_1 : Int) (a0_2 : Int) (a0_3 : Int) (a0_4 : Int) (a0_5 : Int) (r : Int) (w : World) (h : booklet_Need.f k a0_0 a0_1 a0_2 a0_3 a0_4 a0_5 = some r) :
    Calls Try.prog 55 #[.agg #[.int .i64 a0_0, .int .i64 a0_1, .int .i64 a0_2, .int .i64 a0_3, .int .i64 a0_4, .int .i64 a0_5]] w fun e w' => e = .returned (.int .i64 r) ∧ Below w.heap.size w w' := by
 have hu65 := Try.underlying65
 have HB := za (Below.refl w.heap.size w)
 have H : ((item_ValidPart.f k a0_0 a0_1 a0_2 a0_3 a0_4 a0_5).bind fun t356 => (if t356 = true then (if a0_0 = 2 then (some (wrap64 (2 + a0_4))) else (some (mn (wrap64 (2 + a0_1)) 30))) else (some 0))) = some r := h
 clear h
 replace H := Option.bind_eq_some_iff.mp H
 obtain ⟨t356, A20, H⟩ := H
 replace H : (if t356 = true then (if a0_0 = 2 then (some (wrap64 (2 + a0_4))) else (some (mn (wrap64 (2 + a0_1)) 30))) else (some 0)) = some r := H
 have A2 := za A20; clear A20
 by_cases c3 : t356 = true
 ·subst c3
  have H1 : (if a0_0 = 2 then (some (wrap64 (2 + a0_4))) else (some (mn (wrap64 (2 + a0_1)) 30))) = some r := by rw [if_pos rfl] at H; exact H
  clear H; have H := H1; clear H1
  by_cases c4 : a0_0 = 2
  ·rw [if_pos c4] at H
   have c4b0 : (a0_0 == 2) = true := beq_iff_eq.mpr c4
   have c4b1 : (a0_0 != 2) = false := bne_eq_false_iff_eq.mpr c4
   clear c4
   obtain rfl := Option.some.inj H
   go_enter Try.func55, Try.ntmps55
   go_wp2_with (first | ((with_reducible refine gate_dst (N := 1) rfl ?_); refine zE 1 #[.int .i64 a0_0, .int .i64 a0_1, .int .i64 a0_2, .int .i64 a0_3, .int .i64 a0_4, .int .i64 a0_5] 65 ?_; intro gb355 hg w5 hbox hb; have BK355 := za (hbox); have GW355 := zg HB hg; have GE355 := zg HB hg; replace HB := zs HB hb; clear hb hbox hg; obtain ⟨hcz6_0, hcz6_1, hcz6_2, hcz6_3, hcz6_4, hcz6_5, hfz6_0, hfz6_1, hfz6_2, hfz6_3, hfz6_4, hfz6_5⟩ := z6 BK355) | ((with_reducible refine gate_callee (f := 66) rfl ?_); refine zL (some 5) Try.func66 #[.agg #[.int .i64 a0_0, .int .i64 a0_1, .int .i64 a0_2, .int .i64 a0_3, .int .i64 a0_4, .int .i64 a0_5]] ?_; (with_reducible refine (item_ValidPart.calls k a0_0 a0_1 a0_2 a0_3 a0_4 a0_5 true _ A2.out).mono ?_); rintro e w7 ⟨rfl, hb⟩; refine ⟨_, rfl, ?_⟩; replace BK355 := zb BK355 hb; replace HB := zs HB hb; (try clear hb); (try clear hb2); (try clear hk); (try clear hi); obtain ⟨hcz8_0, hcz8_1, hcz8_2, hcz8_3, hcz8_4, hcz8_5, hfz8_0, hfz8_1, hfz8_2, hfz8_3, hfz8_4, hfz8_5⟩ := z6 BK355))
   go_ret
   exact ⟨zf, zm HB⟩
  ·rw [if_neg c4] at H
   have c4b0 : (a0_0 == 2) = false := beq_eq_false_iff_ne.mpr c4
   have c4b1 : (a0_0 != 2) = true := bne_iff_ne.mpr c4
   obtain ⟨ji9, hji9⟩ : ∃ j_ : Int, (mn (wrap64 (2 + a0_1)) 30) = j_ := ⟨_, rfl⟩
   replace H : (some ji9) = some r := by first | (rw [hji9] at H; exact H) | (simp only [hji9] at H ⊢; exact H)
   (try rw [hji9] at A2)
   (try (have hji9h : ji9 ≤ 30 := by (rw [← hji9]; unfold mn; (repeat' split) <;> omega)))
   (try (have hji9g : ji9 ≤ 64 := by omega))
   have hji9_ : (if 30 < (wrap64 (2 + a0_1)) then 30 else (wrap64 (2 + a0_1))) = ji9 := hji9
   obtain rfl := Option.some.inj H
   go_enter Try.func55, Try.ntmps55
   go_wp2_with (first | ((with_reducible refine gate_dst (N := 1) rfl ?_); refine zE 1 #[.int .i64 a0_0, .int .i64 a0_1, .int .i64 a0_2, .int .i64 a0_3, .int .i64 a0_4, .int .i64 a0_5] 65 ?_; intro gb355 hg w10 hbox hb; have BK355 := za (hbox); have GW355 := zg HB hg; have GE355 := zg HB hg; replace HB := zs HB hb; clear hb hbox hg; obtain ⟨hcz11_0, hcz11_1, hcz11_2, hcz11_3, hcz11_4, hcz11_5, hfz11_0, hfz11_1, hfz11_2, hfz11_3, hfz11_4, hfz11_5⟩ := z6 BK355) | ((with_reducible refine gate_callee (f := 66) rfl ?_); refine zL (some 5) Try.func66 #[.agg #[.int .i64 a0_0, .int .i64 a0_1, .int .i64 a0_2, .int .i64 a0_3, .int .i64 a0_4, .int .i64 a0_5]] ?_; (with_reducible refine (item_ValidPart.calls k a0_0 a0_1 a0_2 a0_3 a0_4 a0_5 true _ A2.out).mono ?_); rintro e w12 ⟨rfl, hb⟩; refine ⟨_, rfl, ?_⟩; replace BK355 := zb BK355 hb; replace HB := zs HB hb; (try clear hb); (try clear hb2); (try clear hk); (try clear hi); obtain ⟨hcz13_0, hcz13_1, hcz13_2, hcz13_3, hcz13_4, hcz13_5, hfz13_0, hfz13_1, hfz13_2, hfz13_3, hfz13_4, hfz13_5⟩ := z6 BK355))
   go_ret
   exact ⟨by first | rfl | (simp [errW_none, errW_some] <;> rfl) | (simp only [← hji9]; first | rfl | (simp [errW_none, errW_some] <;> rfl)) | (simp [*, errW_none, errW_some] <;> rfl), zm HB⟩
 ·replace c3 := Bool.eq_false_iff.mpr c3
  subst c3
  have H1 : (some 0) = some r := by rw [if_neg (show ¬ (false = true) by decide)] at H; exact H
  clear H; have H := H1; clear H1
  obtain rfl := Option.some.inj H
  go_enter Try.func55, Try.ntmps55
  go_wp2_with (first | ((with_reducible refine gate_dst (N := 1) rfl ?_); refine zE 1 #[.int .i64 a0_0, .int .i64 a0_1, .int .i64 a0_2, .int .i64 a0_3, .int .i64 a0_4, .int .i64 a0_5] 65 ?_; intro gb355 hg w14 hbox hb; have BK355 := za (hbox); have GW355 := zg HB hg; have GE355 := zg HB hg; replace HB := zs HB hb; clear hb hbox hg; obtain ⟨hcz15_0, hcz15_1, hcz15_2, hcz15_3, hcz15_4, hcz15_5, hfz15_0, hfz15_1, hfz15_2, hfz15_3, hfz15_4, hfz15_5⟩ := z6 BK355) | ((with_reducible refine gate_callee (f := 66) rfl ?_); refine zL (some 5) Try.func66 #[.agg #[.int .i64 a0_0, .int .i64 a0_1, .int .i64 a0_2, .int .i64 a0_3, .int .i64 a0_4, .int .i64 a0_5]] ?_; (with_reducible refine (item_ValidPart.calls k a0_0 a0_1 a0_2 a0_3 a0_4 a0_5 false _ A2.out).mono ?_); rintro e w16 ⟨rfl, hb⟩; refine ⟨_, rfl, ?_⟩; replace BK355 := zb BK355 hb; replace HB := zs HB hb; (try clear hb); (try clear hb2); (try clear hk); (try clear hi)))
  go_ret
  exact ⟨zf, zm HB⟩

/-! ### booklet_Valid: function 53 -/
mutual
def booklet_Valid.j0 : Nat → Bool → Int → Int → List (S65) → List (List Int) → Option (Bool)
  | 0, _, _, _, _, _ => none
  | k + 1, x38, x358000, x358001, x358002, x359000 => if x38 = true then (some false) else (booklet_Valid.l0 k 0 x359000 (x359000.length : Int) 0 x358000 x358001 x358002)
def booklet_Valid.l0 : Nat → Int → List (List Int) → Int → Int → Int → Int → List (S65) → Option (Bool)
  | 0, _, _, _, _, _, _, _ => none
  | k + 1, x6, x40, x41, x42, x358000, x358001, x358002 => if x42 < x41 then (if 0 ≤ x42 then (if x42 < (x40.length : Int) then (booklet_Valid.l1 k x6 30 x40 x41 x42 (rd_L2 x40 x42) ((rd_L2 x40 x42).length : Int) 0 x358000 x358001 x358002) else (none)) else (none)) else (some (x6 == (x358002.length : Int)))
def booklet_Valid.l1 : Nat → Int → Int → List (List Int) → Int → Int → List Int → Int → Int → Int → Int → List (S65) → Option (Bool)
  | 0, _, _, _, _, _, _, _, _, _, _, _ => none
  | k + 1, x6, x9, x40, x41, x42, x46, x47, x48, x358000, x358001, x358002 => if x48 < x47 then (if 0 ≤ x48 then (if x48 < (x46.length : Int) then (if (rd x46 x48) = x6 then (if (rd x46 x48) ≥ (x358002.length : Int) then (some false) else (if 0 ≤ (rd x46 x48) then (if (rd x46 x48) < (x358002.length : Int) then ((booklet_Need.f k ((rd_T65 x358002 (rd x46 x48)).f0) ((rd_T65 x358002 (rd x46 x48)).f1) ((rd_T65 x358002 (rd x46 x48)).f2) ((rd_T65 x358002 (rd x46 x48)).f3) ((rd_T65 x358002 (rd x46 x48)).f4) ((rd_T65 x358002 (rd x46 x48)).f5)).bind fun t364 => (booklet_Valid.l1 k (wrap64 (x6 + 1)) (wrap64 (x9 - t364)) x40 x41 x42 x46 x47 (wrap64 (x48 + 1)) x358000 x358001 x358002)) else (none)) else (none))) else (some false)) else (none)) else (none)) else (if x9 < 0 then (some false) else (booklet_Valid.l0 k x6 x40 x41 (wrap64 (x42 + 1)) x358000 x358001 x358002))
end
def booklet_Valid.f (k : Nat) (a0_0 : Int) (a0_1 : Int) (l0_2 : List (S65)) (l1_0 : List (List Int)) : Option (Bool) := (item_ValidPaper.f k a0_0 a0_1 l0_2).bind fun t359 => (if t359 = true then (if (l1_0.length : Int) = 0 then (booklet_Valid.j0 k true a0_0 a0_1 l0_2 l1_0) else (if (l1_0.length : Int) > 12 then (booklet_Valid.j0 k true a0_0 a0_1 l0_2 l1_0) else (if ((l1_0.length : Int) % 4) = 0 then (if 0 < (l1_0.length : Int) then (booklet_Valid.j0 k (decide (((rd_L2 l1_0 0).length : Int) > 0)) a0_0 a0_1 l0_2 l1_0) else (none)) else (booklet_Valid.j0 k true a0_0 a0_1 l0_2 l1_0)))) else (booklet_Valid.j0 k true a0_0 a0_1 l0_2 l1_0))
theorem booklet_Valid.mono_l : ∀ k, (∀ y0 y1 y2 y3 y4, LeO (booklet_Valid.j0 k y0 y1 y2 y3 y4) (booklet_Valid.j0 (k + 1) y0 y1 y2 y3 y4)) ∧ (∀ y0 y1 y2 y3 y4 y5 y6, LeO (booklet_Valid.l0 k y0 y1 y2 y3 y4 y5 y6) (booklet_Valid.l0 (k + 1) y0 y1 y2 y3 y4 y5 y6)) ∧ (∀ y0 y1 y2 y3 y4 y5 y6 y7 y8 y9 y10, LeO (booklet_Valid.l1 k y0 y1 y2 y3 y4 y5 y6 y7 y8 y9 y10) (booklet_Valid.l1 (k + 1) y0 y1 y2 y3 y4 y5 y6 y7 y8 y9 y10))
  | 0 => ⟨fun _ _ _ _ _ r h => by simp [booklet_Valid.j0] at h, fun _ _ _ _ _ _ _ r h => by simp [booklet_Valid.l0] at h, fun _ _ _ _ _ _ _ _ _ _ _ r h => by simp [booklet_Valid.l1] at h⟩
  | k + 1 => by
    obtain ⟨ih0, ih1, ih2⟩ := booklet_Valid.mono_l k
    refine ⟨?_, ?_, ?_⟩
    · intro y0 y1 y2 y3 y4
      unfold booklet_Valid.j0
      repeat' first
      | (with_reducible exact ih0 _ _ _ _ _)
      | (with_reducible exact ih1 _ _ _ _ _ _ _)
      | (with_reducible exact ih2 _ _ _ _ _ _ _ _ _ _ _)
      | (with_reducible exact booklet_Need.mono _ _ _ _ _ _ _)
      | (with_reducible exact item_ValidPaper.mono _ _ _ _)
      | (with_reducible exact LeO.refl _)
      | (with_reducible exact LeO.none _)
      | (with_reducible refine LeO.ite ?_ ?_)
      | (with_reducible refine LeO.bind ?_ (fun _ => ?_))
      | exact ih0 _ _ _ _ _
      | exact ih1 _ _ _ _ _ _ _
      | exact ih2 _ _ _ _ _ _ _ _ _ _ _
      | exact booklet_Need.mono _ _ _ _ _ _ _
      | exact item_ValidPaper.mono _ _ _ _
      | exact LeO.none _
      | refine LeO.ite ?_ ?_
      | refine LeO.bind ?_ (fun _ => ?_)
    · intro y0 y1 y2 y3 y4 y5 y6
      unfold booklet_Valid.l0
      repeat' first
      | (with_reducible exact ih0 _ _ _ _ _)
      | (with_reducible exact ih1 _ _ _ _ _ _ _)
      | (with_reducible exact ih2 _ _ _ _ _ _ _ _ _ _ _)
      | (with_reducible exact booklet_Need.mono _ _ _ _ _ _ _)
      | (with_reducible exact item_ValidPaper.mono _ _ _ _)
      | (with_reducible exact LeO.refl _)
      | (with_reducible exact LeO.none _)
      | (with_reducible refine LeO.ite ?_ ?_)
      | (with_reducible refine LeO.bind ?_ (fun _ => ?_))
      | exact ih0 _ _ _ _ _
      | exact ih1 _ _ _ _ _ _ _
      | exact ih2 _ _ _ _ _ _ _ _ _ _ _
      | exact booklet_Need.mono _ _ _ _ _ _ _
      | exact item_ValidPaper.mono _ _ _ _
      | exact LeO.none _
      | refine LeO.ite ?_ ?_
      | refine LeO.bind ?_ (fun _ => ?_)
    · intro y0 y1 y2 y3 y4 y5 y6 y7 y8 y9 y10
      unfold booklet_Valid.l1
      repeat' first
      | (with_reducible exact ih0 _ _ _ _ _)
      | (with_reducible exact ih1 _ _ _ _ _ _ _)
      | (with_reducible exact ih2 _ _ _ _ _ _ _ _ _ _ _)
      | (with_reducible exact booklet_Need.mono _ _ _ _ _ _ _)
      | (with_reducible exact item_ValidPaper.mono _ _ _ _)
      | (with_reducible exact LeO.refl _)
      | (with_reducible exact LeO.none _)
      | (with_reducible refine LeO.ite ?_ ?_)
      | (with_reducible refine LeO.bind ?_ (fun _ => ?_))
      | exact ih0 _ _ _ _ _
      | exact ih1 _ _ _ _ _ _ _
      | exact ih2 _ _ _ _ _ _ _ _ _ _ _
      | exact booklet_Need.mono _ _ _ _ _ _ _
      | exact item_ValidPaper.mono _ _ _ _
      | exact LeO.none _
      | refine LeO.ite ?_ ?_
      | refine LeO.bind ?_ (fun _ => ?_)
theorem booklet_Valid.mono : ∀ a0 a1 a2 a3 k, LeO (booklet_Valid.f k a0 a1 a2 a3) (booklet_Valid.f (k + 1) a0 a1 a2 a3) := by
  intro a0 a1 a2 a3 k
  obtain ⟨ih0, ih1, ih2⟩ := booklet_Valid.mono_l k
  unfold booklet_Valid.f
  repeat' first
      | (with_reducible exact ih0 _ _ _ _ _)
      | (with_reducible exact ih1 _ _ _ _ _ _ _)
      | (with_reducible exact ih2 _ _ _ _ _ _ _ _ _ _ _)
      | (with_reducible exact booklet_Need.mono _ _ _ _ _ _ _)
      | (with_reducible exact item_ValidPaper.mono _ _ _ _)
      | (with_reducible exact LeO.refl _)
      | (with_reducible exact LeO.none _)
      | (with_reducible refine LeO.ite ?_ ?_)
      | (with_reducible refine LeO.bind ?_ (fun _ => ?_))
      | exact ih0 _ _ _ _ _
      | exact ih1 _ _ _ _ _ _ _
      | exact ih2 _ _ _ _ _ _ _ _ _ _ _
      | exact booklet_Need.mono _ _ _ _ _ _ _
      | exact item_ValidPaper.mono _ _ _ _
      | exact LeO.none _
      | refine LeO.ite ?_ ?_
      | refine LeO.bind ?_ (fun _ => ?_)
set_option maxHeartbeats 8000000 in
set_option maxRecDepth 100000 in
theorem booklet_Valid.calls (k : Nat) (a0_0 : Int) (a0_1 : Int) (A0_2 : Option Addr) (c0_2 : Nat) (l0_2 : List (S65)) (A1_0 : Option Addr) (c1_0 : Nat) (l1_0 : List (List Int)) (r : Bool) (w : World) (hr0_2 : Kd.C k65 w A0_2 l0_2.length l0_2) (hc0_2 : l0_2.length ≤ c0_2) (hr1_0 : Kd.C (Kd.slice 3 (Kd.int .i64)) w A1_0 l1_0.length l1_0) (hc1_0 : l1_0.length ≤ c1_0) (h : booklet_Valid.f k a0_0 a0_1 l0_2 l1_0 = some r) :
    Calls Try.prog 53 #[.agg #[.int .i64 a0_0, .int .i64 a0_1, .slice A0_2 l0_2.length c0_2], .agg #[.slice A1_0 l1_0.length c1_0]] w fun e w' => e = .returned (.bool r) ∧ Below w.heap.size w w' := by
 have hu53 := Try.underlying53
 have hu56 := Try.underlying56
 have hu65 := Try.underlying65
 have HR0_2 := za hr0_2; have HC0_2 := za hc0_2; clear hr0_2 hc0_2; have HR1_0 := za hr1_0; have HC1_0 := za hc1_0; clear hr1_0 hc1_0
 have HB := za (Below.refl w.heap.size w)
 have H : ((item_ValidPaper.f k a0_0 a0_1 l0_2).bind fun t359 => (if t359 = true then (if (l1_0.length : Int) = 0 then (booklet_Valid.j0 k true a0_0 a0_1 l0_2 l1_0) else (if (l1_0.length : Int) > 12 then (booklet_Valid.j0 k true a0_0 a0_1 l0_2 l1_0) else (if ((l1_0.length : Int) % 4) = 0 then (if 0 < (l1_0.length : Int) then (booklet_Valid.j0 k (decide (((rd_L2 l1_0 0).length : Int) > 0)) a0_0 a0_1 l0_2 l1_0) else (none)) else (booklet_Valid.j0 k true a0_0 a0_1 l0_2 l1_0)))) else (booklet_Valid.j0 k true a0_0 a0_1 l0_2 l1_0))) = some r := h
 clear h; have HC3 := za H; clear H
 go_enter Try.func53, Try.ntmps53
 go_upto_region 2 with (first | ((with_reducible refine gate_dst (N := 2) rfl ?_); (try (refine gate_guard (by rfl) ?_; dsimp only)); refine zE 2 #[.int .i64 a0_0, .int .i64 a0_1, .slice A0_2 l0_2.length c0_2] 53 ?_; intro gb357 hg w4 hbox hb; have BK357 := za (hbox); have GW357 := zg HB hg; have GE357 := zg HB hg; replace HB := zs HB hb; clear hb hbox hg) | ((with_reducible refine gate_dst (N := 3) rfl ?_); (try (refine gate_guard (by rfl) ?_; dsimp only)); refine zE 3 #[.slice A1_0 l1_0.length c1_0] 56 ?_; intro gb358 hg w5 hbox hb; have BK358 := za (hbox); have GW358 := zg HB hg; have GE358 := zg HB hg; have NB357_358 := zl BK357 hg; have NB358_357 := zr BK357 hg; replace BK357 := zb BK357 hb; replace HB := zs HB hb; clear hb hbox hg; have hnb6 := NB358_357.out; have hnc6 := NB357_358.out; obtain ⟨hcz7_0, hfz7_0⟩ := z1 BK358))
 (try simp only [Act.put, List.setIfInBounds_toArray, List.set_cons_zero, List.set_cons_succ])
 go_cut [38] (fun v38 wc => ∃ (kq : Nat) (x38_2 : Bool), v38 = .bool x38_2 ∧ Aside0 (booklet_Valid.j0 kq x38_2 a0_0 a0_1 l0_2 l1_0 = some r) ∧ Aside0 (kq ≤ k) ∧ Aside0 (wc.heap[gb357]? = some (.cells #[.int .i64 a0_0, .int .i64 a0_1, (.slice A0_2 l0_2.length c0_2)] 53 (0, 0))) ∧ Aside0 (wc.heap[gb358]? = some (.cells #[(.slice A1_0 l1_0.length c1_0)] 56 (0, 0))) ∧ Aside0 (Below w.heap.size w wc))
 case first =>
  have H := HC3.out
  clear HC3
  replace H := Option.bind_eq_some_iff.mp H
  obtain ⟨t359, A80, H⟩ := H
  replace H : (if t359 = true then (if (l1_0.length : Int) = 0 then (booklet_Valid.j0 k true a0_0 a0_1 l0_2 l1_0) else (if (l1_0.length : Int) > 12 then (booklet_Valid.j0 k true a0_0 a0_1 l0_2 l1_0) else (if ((l1_0.length : Int) % 4) = 0 then (if 0 < (l1_0.length : Int) then (booklet_Valid.j0 k (decide (((rd_L2 l1_0 0).length : Int) > 0)) a0_0 a0_1 l0_2 l1_0) else (none)) else (booklet_Valid.j0 k true a0_0 a0_1 l0_2 l1_0)))) else (booklet_Valid.j0 k true a0_0 a0_1 l0_2 l1_0)) = some r := H
  have A8 := za A80; clear A80
  by_cases c9 : t359 = true
  ·subst c9
   have H1 : (if (l1_0.length : Int) = 0 then (booklet_Valid.j0 k true a0_0 a0_1 l0_2 l1_0) else (if (l1_0.length : Int) > 12 then (booklet_Valid.j0 k true a0_0 a0_1 l0_2 l1_0) else (if ((l1_0.length : Int) % 4) = 0 then (if 0 < (l1_0.length : Int) then (booklet_Valid.j0 k (decide (((rd_L2 l1_0 0).length : Int) > 0)) a0_0 a0_1 l0_2 l1_0) else (none)) else (booklet_Valid.j0 k true a0_0 a0_1 l0_2 l1_0)))) = some r := by rw [if_pos rfl] at H; exact H
   clear H; have H := H1; clear H1
   by_cases c10 : (l1_0.length : Int) = 0
   ·rw [if_pos c10] at H
    have c10b0 : ((l1_0.length : Int) == 0) = true := beq_iff_eq.mpr c10
    have c10b1 : ((l1_0.length : Int) != 0) = false := bne_eq_false_iff_eq.mpr c10
    clear c10
    (first | rw [c10b0] | (simp only [i64_w, i32_w]; rw [c10b0]) | skip)
    have H' := za H; clear H
    have hnb11 := NB357_358.out
    have hnc11 := NB358_357.out
    obtain ⟨hcz12_0, hcz12_1, hcz12_2, hfz12_0, hfz12_1, hfz12_2⟩ := z3 BK357
    go_wp2_with (first | ((with_reducible refine gate_callee (f := 52) rfl ?_); refine zL (some 16) Try.func52 #[.agg #[.int .i64 a0_0, .int .i64 a0_1, .slice A0_2 l0_2.length c0_2]] ?_; (with_reducible refine (item_ValidPaper.calls k a0_0 a0_1 _ _ l0_2 true _ ?side1 ?side2 A8.out).mono ?_); (case side1 => exact zC HR0_2 HB); (case side2 => exact HC0_2.out); rintro e w13 ⟨rfl, hb⟩; refine ⟨_, rfl, ?_⟩; replace BK357 := zb BK357 hb; replace BK358 := zb BK358 hb; replace HB := zs HB hb; (try clear hb); (try clear hb2); (try clear hk); (try clear hi)))
    go_meet
    case rel => exact ⟨_, (true), q8c, H', ⟨by first | omega | exact Nat.le_refl _⟩, ⟨q8a⟩, ⟨q8a⟩, ⟨zm HB⟩⟩
   ·rw [if_neg c10] at H
    have c10b0 : ((l1_0.length : Int) == 0) = false := beq_eq_false_iff_ne.mpr c10
    have c10b1 : ((l1_0.length : Int) != 0) = true := bne_iff_ne.mpr c10
    have c10b2 : ¬ (l1_0 = []) := fun h_ => c10 (by rw [h_]; rfl)
    (first | rw [c10b0] | (simp only [i64_w, i32_w]; rw [c10b0]) | skip)
    by_cases c14 : (l1_0.length : Int) > 12
    ·rw [if_pos c14] at H
     have c14b0 : decide (12 < (l1_0.length : Int)) = true := decide_eq_true c14
     have c14b1 : decide (12 < l1_0.length) = true := decide_eq_true (by omega)
     clear c14; have H' := za H; clear H
     have hnb15 := NB357_358.out
     have hnc15 := NB358_357.out
     obtain ⟨hcz16_0, hcz16_1, hcz16_2, hfz16_0, hfz16_1, hfz16_2⟩ := z3 BK357
     go_wp2_with (first | ((with_reducible refine gate_callee (f := 52) rfl ?_); refine zL (some 16) Try.func52 #[.agg #[.int .i64 a0_0, .int .i64 a0_1, .slice A0_2 l0_2.length c0_2]] ?_; (with_reducible refine (item_ValidPaper.calls k a0_0 a0_1 _ _ l0_2 true _ ?side1 ?side2 A8.out).mono ?_); (case side1 => exact zC HR0_2 HB); (case side2 => exact HC0_2.out); rintro e w17 ⟨rfl, hb⟩; refine ⟨_, rfl, ?_⟩; replace BK357 := zb BK357 hb; replace BK358 := zb BK358 hb; replace HB := zs HB hb; (try clear hb); (try clear hb2); (try clear hk); (try clear hi)))
     go_meet
     case rel => exact ⟨_, (true), q8c, H', ⟨by first | omega | exact Nat.le_refl _⟩, ⟨q8a⟩, ⟨q8a⟩, ⟨zm HB⟩⟩
    ·rw [if_neg c14] at H
     have c14b0 : decide (12 < (l1_0.length : Int)) = false := decide_eq_false c14
     have c14b1 : decide (12 < l1_0.length) = false := decide_eq_false (by omega)
     clear c14
     by_cases c18 : ((l1_0.length : Int) % 4) = 0
     ·rw [if_pos c18] at H
      have c18b0 : (((l1_0.length : Int) % 4) == 0) = true := beq_iff_eq.mpr c18
      have c18b1 : (((l1_0.length : Int) % 4) != 0) = false := bne_eq_false_iff_eq.mpr c18
      clear c18
      by_cases c19 : 0 < (l1_0.length : Int)
      ·rw [if_pos c19] at H
       have c19b0 : decide (0 < (l1_0.length : Int)) = true := decide_eq_true c19
       have c19b1 : decide (0 < l1_0.length) = true := decide_eq_true (by omega)
       clear c19; have H' := za H; clear H
       have hnb20 := NB357_358.out
       have hnc20 := NB358_357.out
       obtain ⟨hcz21_0, hcz21_1, hcz21_2, hfz21_0, hfz21_1, hfz21_2⟩ := z3 BK357
       go_wp2_with (first | ((with_reducible refine gate_callee (f := 52) rfl ?_); refine zL (some 16) Try.func52 #[.agg #[.int .i64 a0_0, .int .i64 a0_1, .slice A0_2 l0_2.length c0_2]] ?_; (with_reducible refine (item_ValidPaper.calls k a0_0 a0_1 _ _ l0_2 true _ ?side1 ?side2 A8.out).mono ?_); (case side1 => exact zC HR0_2 HB); (case side2 => exact HC0_2.out); rintro e w22 ⟨rfl, hb⟩; refine ⟨_, rfl, ?_⟩; replace BK357 := zb BK357 hb; replace BK358 := zb BK358 hb; replace HB := zs HB hb; (try clear hb); (try clear hb2); (try clear hk); (try clear hi); obtain ⟨hcz23_0, hfz23_0⟩ := z1 BK358; have p360 : 0 ≤ (0 : Int) := (by omega); have q360 : 0 < (l1_0.length : Int) := of_decide_eq_true q8b; obtain ⟨ad360, A360_0, c360_0, e360, hx360_0, hl360_0, hi360_0⟩ := at_L2 HR1_0.out 0 p360 q360; cases e360; have qi360 : (0 < l1_0.length) = True := eq_true (by omega); (try rw [show ((0 : Int)).toNat = 0 from rfl] at hx360_0); (try rw [Addr.add_zero'] at hx360_0); replace hx360_0 := zx HB hx360_0; have HR360_0 := za hi360_0; have HC360_0 := za hl360_0; clear hi360_0 hl360_0; replace p360 := eq_true p360; replace q360 := eq_true q360))
       go_meet
       case rel => exact ⟨_, (decide (((rd_L2 l1_0 0).length : Int) > 0)), q8c, H', ⟨by first | omega | exact Nat.le_refl _⟩, ⟨q8a⟩, ⟨q8a⟩, ⟨zm HB⟩⟩
      ·rw [if_neg c19] at H
       exact absurd H (by simp)
     ·rw [if_neg c18] at H
      have c18b0 : (((l1_0.length : Int) % 4) == 0) = false := beq_eq_false_iff_ne.mpr c18
      have c18b1 : (((l1_0.length : Int) % 4) != 0) = true := bne_iff_ne.mpr c18
      have H' := za H; clear H
      have hnb24 := NB357_358.out
      have hnc24 := NB358_357.out
      obtain ⟨hcz25_0, hcz25_1, hcz25_2, hfz25_0, hfz25_1, hfz25_2⟩ := z3 BK357
      go_wp2_with (first | ((with_reducible refine gate_callee (f := 52) rfl ?_); refine zL (some 16) Try.func52 #[.agg #[.int .i64 a0_0, .int .i64 a0_1, .slice A0_2 l0_2.length c0_2]] ?_; (with_reducible refine (item_ValidPaper.calls k a0_0 a0_1 _ _ l0_2 true _ ?side1 ?side2 A8.out).mono ?_); (case side1 => exact zC HR0_2 HB); (case side2 => exact HC0_2.out); rintro e w26 ⟨rfl, hb⟩; refine ⟨_, rfl, ?_⟩; replace BK357 := zb BK357 hb; replace BK358 := zb BK358 hb; replace HB := zs HB hb; (try clear hb); (try clear hb2); (try clear hk); (try clear hi)))
      go_meet
      case rel => exact ⟨_, (true), q8c, H', ⟨by first | omega | exact Nat.le_refl _⟩, ⟨q8a⟩, ⟨q8a⟩, ⟨zm HB⟩⟩
  ·replace c9 := Bool.eq_false_iff.mpr c9
   subst c9
   have H1 : (booklet_Valid.j0 k true a0_0 a0_1 l0_2 l1_0) = some r := by rw [if_neg (show ¬ (false = true) by decide)] at H; exact H
   clear H; have H := H1; clear H1; have H' := za H; clear H
   have hnb27 := NB357_358.out
   have hnc27 := NB358_357.out
   obtain ⟨hcz28_0, hcz28_1, hcz28_2, hfz28_0, hfz28_1, hfz28_2⟩ := z3 BK357
   go_wp2_with (first | ((with_reducible refine gate_callee (f := 52) rfl ?_); refine zL (some 16) Try.func52 #[.agg #[.int .i64 a0_0, .int .i64 a0_1, .slice A0_2 l0_2.length c0_2]] ?_; (with_reducible refine (item_ValidPaper.calls k a0_0 a0_1 _ _ l0_2 false _ ?side1 ?side2 A8.out).mono ?_); (case side1 => exact zC HR0_2 HB); (case side2 => exact HC0_2.out); rintro e w29 ⟨rfl, hb⟩; refine ⟨_, rfl, ?_⟩; replace BK357 := zb BK357 hb; replace BK358 := zb BK358 hb; replace HB := zs HB hb; (try clear hb); (try clear hb2); (try clear hk); (try clear hi)))
   go_meet
   case rel => exact ⟨_, (true), q8c, H', ⟨by first | omega | exact Nat.le_refl _⟩, ⟨q8a⟩, ⟨q8a⟩, ⟨zm HB⟩⟩
 case rest =>
  clear HC3; (try clear c1); (try clear c2); (try clear p2); (try clear c3); (try clear p3); (try clear q3); (try clear hx3); (try clear qi3); (try clear c5); (try clear c6); (try clear c9); (try clear c10); (try clear c10b0); (try clear c10b1); (try clear c10b2); (try clear c11); (try clear c14); (try clear c14b0); (try clear c14b1); (try clear c15); (try clear c18); (try clear c18b0); (try clear c18b1); (try clear c19); (try clear c19b0); (try clear c19b1); (try clear c20); (try clear c24); (try clear c27); (try clear hcz12_0); (try clear hcz12_1); (try clear hcz12_2); (try clear hcz16_0); (try clear hcz16_1); (try clear hcz16_2); (try clear hcz21_0); (try clear hcz21_1); (try clear hcz21_2); (try clear hcz23_0); (try clear hcz25_0); (try clear hcz25_1); (try clear hcz25_2); (try clear hcz28_0); (try clear hcz28_1); (try clear hcz28_2); (try clear hcz7_0); (try clear hfz12_0); (try clear hfz12_1); (try clear hfz12_2); (try clear hfz16_0); (try clear hfz16_1); (try clear hfz16_2); (try clear hfz21_0); (try clear hfz21_1); (try clear hfz21_2); (try clear hfz23_0); (try clear hfz25_0); (try clear hfz25_1); (try clear hfz25_2); (try clear hfz28_0); (try clear hfz28_1); (try clear hfz28_2); (try clear hfz7_0); (try clear hx360_0); (try clear p360); (try clear q360)
  obtain ⟨kq, x38_2, rfl, HA, HJ2, BK357, BK358, HB⟩ := hcut
  cases kq with
  | zero => exact absurd HA.out (by simp [booklet_Valid.j0])
  | succ kj2 =>
   have H := HA.out
   clear HA
   simp only [booklet_Valid.j0] at H
   by_cases c30 : x38_2 = true
   ·subst c30
    have H1 : (some false) = some r := by rw [if_pos rfl] at H; exact H
    clear H; have H := H1; clear H1
    obtain rfl := Option.some.inj H
    go_wp2
    go_ret
    exact ⟨zf, zm HB⟩
   ·replace c30 := Bool.eq_false_iff.mpr c30
    subst c30
    have H1 : (booklet_Valid.l0 kj2 0 l1_0 (l1_0.length : Int) 0 a0_0 a0_1 l0_2) = some r := by rw [if_neg (show ¬ (false = true) by decide)] at H; exact H
    clear H; have H := H1; clear H1; have H' := za H; clear H
    have hnb31 := NB358_357.out
    have hnc31 := NB357_358.out
    obtain ⟨hcz32_0, hfz32_0⟩ := z1 BK358
    go_wp2
    go_loopg [6, 42] kj2 (fun kq v6 v42 w' => ∃ (x6_2 : Int) (x42_2 : Int), v6 = .int .i64 x6_2 ∧ v42 = .int .i64 x42_2 ∧ Aside0 (booklet_Valid.l0 kq x6_2 l1_0 (l1_0.length : Int) x42_2 a0_0 a0_1 l0_2 = some r) ∧ Aside0 (kq ≤ kj2) ∧ Aside0 (w'.heap[gb357]? = some (.cells #[.int .i64 a0_0, .int .i64 a0_1, (.slice A0_2 l0_2.length c0_2)] 53 (0, 0))) ∧ Aside0 (w'.heap[gb358]? = some (.cells #[(.slice A1_0 l1_0.length c1_0)] 56 (0, 0))) ∧ Aside0 (Below w.heap.size w w'))
    case atStart => exact ⟨(0), (0), q8c, q8c, H', ⟨Nat.le_refl _⟩, ⟨q8a⟩, ⟨q8a⟩, ⟨zm HB⟩⟩
    case round =>
     clear H'; (try clear c1); (try clear c2); (try clear p2); (try clear c3); (try clear p3); (try clear q3); (try clear hx3); (try clear qi3); (try clear c5); (try clear c6); (try clear c9); (try clear c10); (try clear c10b0); (try clear c10b1); (try clear c10b2); (try clear c11); (try clear c14); (try clear c14b0); (try clear c14b1); (try clear c15); (try clear c18); (try clear c18b0); (try clear c18b1); (try clear c19); (try clear c19b0); (try clear c19b1); (try clear c20); (try clear c24); (try clear c27); (try clear c30); (try clear c31); (try clear hcz12_0); (try clear hcz12_1); (try clear hcz12_2); (try clear hcz16_0); (try clear hcz16_1); (try clear hcz16_2); (try clear hcz21_0); (try clear hcz21_1); (try clear hcz21_2); (try clear hcz23_0); (try clear hcz25_0); (try clear hcz25_1); (try clear hcz25_2); (try clear hcz28_0); (try clear hcz28_1); (try clear hcz28_2); (try clear hcz32_0); (try clear hcz7_0); (try clear hfz12_0); (try clear hfz12_1); (try clear hfz12_2); (try clear hfz16_0); (try clear hfz16_1); (try clear hfz16_2); (try clear hfz21_0); (try clear hfz21_1); (try clear hfz21_2); (try clear hfz23_0); (try clear hfz25_0); (try clear hfz25_1); (try clear hfz25_2); (try clear hfz28_0); (try clear hfz28_1); (try clear hfz28_2); (try clear hfz32_0); (try clear hfz7_0); (try clear hx360_0); (try clear p2); (try clear p3); (try clear p360); (try clear q3); (try clear q360)
     obtain ⟨x6_2, x42_2, rfl, rfl, HA, HK2, BK357, BK358, HB⟩ := hrel
     cases gk with
     | zero => exact absurd HA.out (by simp [booklet_Valid.l0])
     | succ k2 =>
      have H := HA.out
      clear HA
      simp only [booklet_Valid.l0] at H
      by_cases c33 : x42_2 < (l1_0.length : Int)
      ·rw [if_pos c33] at H
       have c33b0 : decide (x42_2 < (l1_0.length : Int)) = true := decide_eq_true c33
       clear c33
       by_cases c34 : 0 ≤ x42_2
       ·rw [if_pos c34] at H
        have c34b0 : decide (0 ≤ x42_2) = true := decide_eq_true c34
        clear c34
        by_cases c35 : x42_2 < (l1_0.length : Int)
        ·rw [if_pos c35] at H
         have c35b0 : decide (x42_2 < (l1_0.length : Int)) = true := decide_eq_true c35
         clear c35; have H' := za H; clear H
         have p361 : 0 ≤ (x42_2 : Int) := of_decide_eq_true q8b
         have q361 : x42_2 < (l1_0.length : Int) := of_decide_eq_true q8b
         obtain ⟨ad361, A361_0, c361_0, e361, hx361_0, hl361_0, hi361_0⟩ := at_L2 HR1_0.out x42_2 p361 q361
         cases e361
         replace hx361_0 := zx HB hx361_0
         have HR361_0 := za hi361_0; have HC361_0 := za hl361_0; clear hi361_0 hl361_0
         replace p361 := eq_true p361
         replace q361 := eq_true q361
         go_wp2
         go_loopg [6, 9, 48] k2 (fun kq v6 v9 v48 w' => ∃ (x6_3 : Int) (x9_3 : Int) (x48_3 : Int), v6 = .int .i64 x6_3 ∧ v9 = .int .i64 x9_3 ∧ v48 = .int .i64 x48_3 ∧ Aside0 (booklet_Valid.l1 kq x6_3 x9_3 l1_0 (l1_0.length : Int) x42_2 (rd_L2 l1_0 x42_2) ((rd_L2 l1_0 x42_2).length : Int) x48_3 a0_0 a0_1 l0_2 = some r) ∧ Aside0 (kq ≤ k2) ∧ Aside0 (w'.heap[gb357]? = some (.cells #[.int .i64 a0_0, .int .i64 a0_1, (.slice A0_2 l0_2.length c0_2)] 53 (0, 0))) ∧ Aside0 (w'.heap[gb358]? = some (.cells #[(.slice (some ad361) l1_0.length c1_0)] 56 (0, 0))) ∧ Aside0 (Below w.heap.size w w'))
         case atStart => exact ⟨(x6_2), (30), (0), q8c, q8c, q8c, H', ⟨Nat.le_refl _⟩, ⟨q8a⟩, ⟨q8a⟩, ⟨zm HB⟩⟩
         case round =>
          clear H'; (try clear c1); (try clear c2); (try clear p2); (try clear c3); (try clear p3); (try clear q3); (try clear hx3); (try clear qi3); (try clear c5); (try clear c6); (try clear c9); (try clear c10); (try clear c10b0); (try clear c10b1); (try clear c10b2); (try clear c11); (try clear c14); (try clear c14b0); (try clear c14b1); (try clear c15); (try clear c18); (try clear c18b0); (try clear c18b1); (try clear c19); (try clear c19b0); (try clear c19b1); (try clear c20); (try clear c24); (try clear c27); (try clear c30); (try clear c31); (try clear c33); (try clear c33b0); (try clear c34); (try clear c34b0); (try clear c35); (try clear c35b0); (try clear hcz12_0); (try clear hcz12_1); (try clear hcz12_2); (try clear hcz16_0); (try clear hcz16_1); (try clear hcz16_2); (try clear hcz21_0); (try clear hcz21_1); (try clear hcz21_2); (try clear hcz23_0); (try clear hcz25_0); (try clear hcz25_1); (try clear hcz25_2); (try clear hcz28_0); (try clear hcz28_1); (try clear hcz28_2); (try clear hcz32_0); (try clear hcz7_0); (try clear hfz12_0); (try clear hfz12_1); (try clear hfz12_2); (try clear hfz16_0); (try clear hfz16_1); (try clear hfz16_2); (try clear hfz21_0); (try clear hfz21_1); (try clear hfz21_2); (try clear hfz23_0); (try clear hfz25_0); (try clear hfz25_1); (try clear hfz25_2); (try clear hfz28_0); (try clear hfz28_1); (try clear hfz28_2); (try clear hfz32_0); (try clear hfz7_0); (try clear hx360_0); (try clear hx361_0); (try clear p2); (try clear p3); (try clear p360); (try clear p361); (try clear q3); (try clear q360); (try clear q361)
          obtain ⟨x6_3, x9_3, x48_3, rfl, rfl, rfl, HA, HK3, BK357, BK358, HB⟩ := hrel
          cases gk with
          | zero => exact absurd HA.out (by simp [booklet_Valid.l1])
          | succ k3 =>
           have H := HA.out
           clear HA
           simp only [booklet_Valid.l1] at H
           by_cases c36 : x48_3 < ((rd_L2 l1_0 x42_2).length : Int)
           ·rw [if_pos c36] at H
            have c36b0 : decide (x48_3 < ((rd_L2 l1_0 x42_2).length : Int)) = true := decide_eq_true c36
            clear c36
            by_cases c37 : 0 ≤ x48_3
            ·rw [if_pos c37] at H
             have c37b0 : decide (0 ≤ x48_3) = true := decide_eq_true c37
             clear c37
             by_cases c38 : x48_3 < ((rd_L2 l1_0 x42_2).length : Int)
             ·rw [if_pos c38] at H
              have c38b0 : decide (x48_3 < ((rd_L2 l1_0 x42_2).length : Int)) = true := decide_eq_true c38
              clear c38
              by_cases c39 : (rd (rd_L2 l1_0 x42_2) x48_3) = x6_3
              ·rw [if_pos c39] at H
               have c39b0 : ((rd (rd_L2 l1_0 x42_2) x48_3) == x6_3) = true := beq_iff_eq.mpr c39
               have c39b1 : ((rd (rd_L2 l1_0 x42_2) x48_3) != x6_3) = false := bne_eq_false_iff_eq.mpr c39
               clear c39
               by_cases c40 : (rd (rd_L2 l1_0 x42_2) x48_3) ≥ (l0_2.length : Int)
               ·rw [if_pos c40] at H
                have c40b0 : decide ((l0_2.length : Int) ≤ (rd (rd_L2 l1_0 x42_2) x48_3)) = true := decide_eq_true c40
                clear c40
                obtain rfl := Option.some.inj H
                have p362 : 0 ≤ (x48_3 : Int) := of_decide_eq_true q8b
                have q362 : x48_3 < ((rd_L2 l1_0 x42_2).length : Int) := of_decide_eq_true q8b
                obtain ⟨ad362, e362, hx362_0⟩ := Kd.at_int HR361_0.out x48_3 p362 q362
                cases e362
                replace hx362_0 := zx HB hx362_0
                replace p362 := eq_true p362
                replace q362 := eq_true q362
                have hnb41 := NB357_358.out
                have hnc41 := NB358_357.out
                obtain ⟨hcz42_0, hcz42_1, hcz42_2, hfz42_0, hfz42_1, hfz42_2⟩ := z3 BK357
                go_wp2
                go_ret
                exact ⟨zf, zm HB⟩
               ·rw [if_neg c40] at H
                have c40b0 : decide ((l0_2.length : Int) ≤ (rd (rd_L2 l1_0 x42_2) x48_3)) = false := decide_eq_false c40
                clear c40
                by_cases c43 : 0 ≤ (rd (rd_L2 l1_0 x42_2) x48_3)
                ·rw [if_pos c43] at H
                 have c43b0 : decide (0 ≤ (rd (rd_L2 l1_0 x42_2) x48_3)) = true := decide_eq_true c43
                 clear c43
                 by_cases c44 : (rd (rd_L2 l1_0 x42_2) x48_3) < (l0_2.length : Int)
                 ·rw [if_pos c44] at H
                  have c44b0 : decide ((rd (rd_L2 l1_0 x42_2) x48_3) < (l0_2.length : Int)) = true := decide_eq_true c44
                  clear c44
                  replace H := Option.bind_eq_some_iff.mp H
                  obtain ⟨t364, A450, H⟩ := H
                  replace H : (booklet_Valid.l1 k3 (wrap64 (x6_3 + 1)) (wrap64 (x9_3 - t364)) l1_0 (l1_0.length : Int) x42_2 (rd_L2 l1_0 x42_2) ((rd_L2 l1_0 x42_2).length : Int) (wrap64 (x48_3 + 1)) a0_0 a0_1 l0_2) = some r := H
                  have A45 := za A450; clear A450; have H' := za H; clear H
                  have p362 : 0 ≤ (x48_3 : Int) := of_decide_eq_true q8b
                  have q362 : x48_3 < ((rd_L2 l1_0 x42_2).length : Int) := of_decide_eq_true q8b
                  obtain ⟨ad362, e362, hx362_0⟩ := Kd.at_int HR361_0.out x48_3 p362 q362
                  cases e362
                  replace hx362_0 := zx HB hx362_0
                  replace p362 := eq_true p362
                  replace q362 := eq_true q362
                  have hnb46 := NB357_358.out
                  have hnc46 := NB358_357.out
                  obtain ⟨hcz47_0, hcz47_1, hcz47_2, hfz47_0, hfz47_1, hfz47_2⟩ := z3 BK357
                  have p363 : 0 ≤ ((rd (rd_L2 l1_0 x42_2) x48_3) : Int) := of_decide_eq_true q8b
                  have q363 : (rd (rd_L2 l1_0 x42_2) x48_3) < (l0_2.length : Int) := of_decide_eq_true q8b
                  obtain ⟨ad363, e363, hx363_0, hx363_1, hx363_2, hx363_3, hx363_4, hx363_5⟩ := at_T65 HR0_2.out (rd (rd_L2 l1_0 x42_2) x48_3) p363 q363
                  cases e363
                  replace hx363_0 := zx HB hx363_0
                  replace hx363_1 := zx HB hx363_1
                  replace hx363_2 := zx HB hx363_2
                  replace hx363_3 := zx HB hx363_3
                  replace hx363_4 := zx HB hx363_4
                  replace hx363_5 := zx HB hx363_5
                  replace p363 := eq_true p363
                  replace q363 := eq_true q363
                  go_wp2_with (first | ((with_reducible refine gate_callee (f := 55) rfl ?_); refine zL (some 68) Try.func55 #[.agg #[.int .i64 ((rd_T65 l0_2 (rd (rd_L2 l1_0 x42_2) x48_3)).f0), .int .i64 ((rd_T65 l0_2 (rd (rd_L2 l1_0 x42_2) x48_3)).f1), .int .i64 ((rd_T65 l0_2 (rd (rd_L2 l1_0 x42_2) x48_3)).f2), .int .i64 ((rd_T65 l0_2 (rd (rd_L2 l1_0 x42_2) x48_3)).f3), .int .i64 ((rd_T65 l0_2 (rd (rd_L2 l1_0 x42_2) x48_3)).f4), .int .i64 ((rd_T65 l0_2 (rd (rd_L2 l1_0 x42_2) x48_3)).f5)]] ?_; (with_reducible refine (booklet_Need.calls k3 ((rd_T65 l0_2 (rd (rd_L2 l1_0 x42_2) x48_3)).f0) ((rd_T65 l0_2 (rd (rd_L2 l1_0 x42_2) x48_3)).f1) ((rd_T65 l0_2 (rd (rd_L2 l1_0 x42_2) x48_3)).f2) ((rd_T65 l0_2 (rd (rd_L2 l1_0 x42_2) x48_3)).f3) ((rd_T65 l0_2 (rd (rd_L2 l1_0 x42_2) x48_3)).f4) ((rd_T65 l0_2 (rd (rd_L2 l1_0 x42_2) x48_3)).f5) t364 _ A45.out).mono ?_); rintro e w48 ⟨rfl, hb⟩; refine ⟨_, rfl, ?_⟩; replace BK357 := zb BK357 hb; replace BK358 := zb BK358 hb; replace HB := zs HB hb; (try clear hb); (try clear hb2); (try clear hk); (try clear hi)))
                  go_roundg k3
                  case measure => have := HJ2.out; have := HK2.out; have := HK3.out; omega
                  case rel => exact ⟨(wrap64 (x6_3 + 1)), (wrap64 (x9_3 - t364)), (wrap64 (x48_3 + 1)), q8c, q8c, q8c, H', ⟨by have := HJ2.out; have := HK2.out; have := HK3.out; omega⟩, ⟨q8a⟩, ⟨q8a⟩, ⟨zm HB⟩⟩
                 ·rw [if_neg c44] at H
                  exact absurd H (by simp)
                ·rw [if_neg c43] at H
                 exact absurd H (by simp)
              ·rw [if_neg c39] at H
               have c39b0 : ((rd (rd_L2 l1_0 x42_2) x48_3) == x6_3) = false := beq_eq_false_iff_ne.mpr c39
               have c39b1 : ((rd (rd_L2 l1_0 x42_2) x48_3) != x6_3) = true := bne_iff_ne.mpr c39
               obtain rfl := Option.some.inj H
               have p362 : 0 ≤ (x48_3 : Int) := of_decide_eq_true q8b
               have q362 : x48_3 < ((rd_L2 l1_0 x42_2).length : Int) := of_decide_eq_true q8b
               obtain ⟨ad362, e362, hx362_0⟩ := Kd.at_int HR361_0.out x48_3 p362 q362
               cases e362
               replace hx362_0 := zx HB hx362_0
               replace p362 := eq_true p362
               replace q362 := eq_true q362
               go_wp2
               go_ret
               exact ⟨zf, zm HB⟩
             ·rw [if_neg c38] at H
              exact absurd H (by simp)
            ·rw [if_neg c37] at H
             exact absurd H (by simp)
           ·rw [if_neg c36] at H
            have c36b0 : decide (x48_3 < ((rd_L2 l1_0 x42_2).length : Int)) = false := decide_eq_false c36
            clear c36
            by_cases c49 : x9_3 < 0
            ·rw [if_pos c49] at H
             have c49b0 : decide (x9_3 < 0) = true := decide_eq_true c49
             clear c49
             obtain rfl := Option.some.inj H
             go_wp2
             go_ret
             exact ⟨zf, zm HB⟩
            ·rw [if_neg c49] at H
             have c49b0 : decide (x9_3 < 0) = false := decide_eq_false c49
             clear c49; have H' := za H; clear H
             go_wp2
             go_roundg k3
             case measure => have := HJ2.out; have := HK2.out; have := HK3.out; omega
             case rel => exact ⟨(x6_3), (wrap64 (x42_2 + 1)), q8c, q8c, H', ⟨by have := HJ2.out; have := HK2.out; have := HK3.out; omega⟩, ⟨q8a⟩, ⟨q8a⟩, ⟨zm HB⟩⟩
        ·rw [if_neg c35] at H
         exact absurd H (by simp)
       ·rw [if_neg c34] at H
        exact absurd H (by simp)
      ·rw [if_neg c33] at H
       have c33b0 : decide (x42_2 < (l1_0.length : Int)) = false := decide_eq_false c33
       clear c33
       obtain rfl := Option.some.inj H
       have hnb50 := NB357_358.out
       have hnc50 := NB358_357.out
       obtain ⟨hcz51_0, hcz51_1, hcz51_2, hfz51_0, hfz51_1, hfz51_2⟩ := z3 BK357
       go_wp2
       go_ret
       exact ⟨zf, zm HB⟩

/-! ### booklet_Fields: function 36 -/
mutual
def booklet_Fields.j0 : Nat → Int → Bool → Int → Int → List (S65) → List (List Int) → Option ((List (S46)))
  | 0, _, _, _, _, _, _ => none
  | k + 1, x2, x25, x366000, x366001, x366002, x367000 => if x25 = true then (some ([] : List (S46))) else (if 0 ≤ x2 then (if x2 < (x367000.length : Int) then (booklet_Fields.l0 k ([] : List (S46)) (rd_L2 x367000 x2) ((rd_L2 x367000 x2).length : Int) 0 x366000 x366001 x366002) else (none)) else (none))
def booklet_Fields.l0 : Nat → List (S46) → List Int → Int → Int → Int → Int → List (S65) → Option ((List (S46)))
  | 0, _, _, _, _, _, _, _ => none
  | k + 1, x7, x30, x31, x32, x366000, x366001, x366002 => if x32 < x31 then (if 0 ≤ x32 then (if x32 < (x30.length : Int) then (if 0 ≤ (rd x30 x32) then (if (rd x30 x32) < (x366002.length : Int) then (booklet_Fields.l1 k x7 (rd x30 x32) x30 x31 x32 ((rd_T65 x366002 (rd x30 x32)).f4) 0 x366000 x366001 x366002) else (none)) else (none)) else (none)) else (none)) else (some x7)
def booklet_Fields.l1 : Nat → List (S46) → Int → List Int → Int → Int → Int → Int → Int → Int → List (S65) → Option ((List (S46)))
  | 0, _, _, _, _, _, _, _, _, _, _ => none
  | k + 1, x7, x9, x30, x31, x32, x41, x42, x366000, x366001, x366002 => if x42 < x41 then (if x7.length < 8796093022208 then (booklet_Fields.l1 k (x7 ++ [(⟨x9, x42⟩ : S46)]) x9 x30 x31 x32 x41 (wrap64 (x42 + 1)) x366000 x366001 x366002) else (none)) else (booklet_Fields.l0 k x7 x30 x31 (wrap64 (x32 + 1)) x366000 x366001 x366002)
end
def booklet_Fields.f (k : Nat) (a0_0 : Int) (a0_1 : Int) (l0_2 : List (S65)) (l1_0 : List (List Int)) (a2 : Int) : Option ((List (S46))) := (booklet_Valid.f k a0_0 a0_1 l0_2 l1_0).bind fun t367 => (if t367 = true then (if a2 < 0 then (booklet_Fields.j0 k a2 true a0_0 a0_1 l0_2 l1_0) else (booklet_Fields.j0 k a2 (decide (a2 ≥ (l1_0.length : Int))) a0_0 a0_1 l0_2 l1_0)) else (booklet_Fields.j0 k a2 true a0_0 a0_1 l0_2 l1_0))
theorem booklet_Fields.mono_l : ∀ k, (∀ y0 y1 y2 y3 y4 y5, LeO (booklet_Fields.j0 k y0 y1 y2 y3 y4 y5) (booklet_Fields.j0 (k + 1) y0 y1 y2 y3 y4 y5)) ∧ (∀ y0 y1 y2 y3 y4 y5 y6, LeO (booklet_Fields.l0 k y0 y1 y2 y3 y4 y5 y6) (booklet_Fields.l0 (k + 1) y0 y1 y2 y3 y4 y5 y6)) ∧ (∀ y0 y1 y2 y3 y4 y5 y6 y7 y8 y9, LeO (booklet_Fields.l1 k y0 y1 y2 y3 y4 y5 y6 y7 y8 y9) (booklet_Fields.l1 (k + 1) y0 y1 y2 y3 y4 y5 y6 y7 y8 y9))
  | 0 => ⟨fun _ _ _ _ _ _ r h => by simp [booklet_Fields.j0] at h, fun _ _ _ _ _ _ _ r h => by simp [booklet_Fields.l0] at h, fun _ _ _ _ _ _ _ _ _ _ r h => by simp [booklet_Fields.l1] at h⟩
  | k + 1 => by
    obtain ⟨ih0, ih1, ih2⟩ := booklet_Fields.mono_l k
    refine ⟨?_, ?_, ?_⟩
    · intro y0 y1 y2 y3 y4 y5
      unfold booklet_Fields.j0
      repeat' first
      | (with_reducible exact ih0 _ _ _ _ _ _)
      | (with_reducible exact ih1 _ _ _ _ _ _ _)
      | (with_reducible exact ih2 _ _ _ _ _ _ _ _ _ _)
      | (with_reducible exact booklet_Valid.mono _ _ _ _ _)
      | (with_reducible exact LeO.refl _)
      | (with_reducible exact LeO.none _)
      | (with_reducible refine LeO.ite ?_ ?_)
      | (with_reducible refine LeO.bind ?_ (fun _ => ?_))
      | exact ih0 _ _ _ _ _ _
      | exact ih1 _ _ _ _ _ _ _
      | exact ih2 _ _ _ _ _ _ _ _ _ _
      | exact booklet_Valid.mono _ _ _ _ _
      | exact LeO.none _
      | refine LeO.ite ?_ ?_
      | refine LeO.bind ?_ (fun _ => ?_)
    · intro y0 y1 y2 y3 y4 y5 y6
      unfold booklet_Fields.l0
      repeat' first
      | (with_reducible exact ih0 _ _ _ _ _ _)
      | (with_reducible exact ih1 _ _ _ _ _ _ _)
      | (with_reducible exact ih2 _ _ _ _ _ _ _ _ _ _)
      | (with_reducible exact booklet_Valid.mono _ _ _ _ _)
      | (with_reducible exact LeO.refl _)
      | (with_reducible exact LeO.none _)
      | (with_reducible refine LeO.ite ?_ ?_)
      | (with_reducible refine LeO.bind ?_ (fun _ => ?_))
      | exact ih0 _ _ _ _ _ _
      | exact ih1 _ _ _ _ _ _ _
      | exact ih2 _ _ _ _ _ _ _ _ _ _
      | exact booklet_Valid.mono _ _ _ _ _
      | exact LeO.none _
      | refine LeO.ite ?_ ?_
      | refine LeO.bind ?_ (fun _ => ?_)
    · intro y0 y1 y2 y3 y4 y5 y6 y7 y8 y9
      unfold booklet_Fields.l1
      repeat' first
      | (with_reducible exact ih0 _ _ _ _ _ _)
      | (with_reducible exact ih1 _ _ _ _ _ _ _)
      | (with_reducible exact ih2 _ _ _ _ _ _ _ _ _ _)
      | (with_reducible exact booklet_Valid.mono _ _ _ _ _)
      | (with_reducible exact LeO.refl _)
      | (with_reducible exact LeO.none _)
      | (with_reducible refine LeO.ite ?_ ?_)
      | (with_reducible refine LeO.bind ?_ (fun _ => ?_))
      | exact ih0 _ _ _ _ _ _
      | exact ih1 _ _ _ _ _ _ _
      | exact ih2 _ _ _ _ _ _ _ _ _ _
      | exact booklet_Valid.mono _ _ _ _ _
      | exact LeO.none _
      | refine LeO.ite ?_ ?_
      | refine LeO.bind ?_ (fun _ => ?_)
theorem booklet_Fields.mono : ∀ a0 a1 a2 a3 a4 k, LeO (booklet_Fields.f k a0 a1 a2 a3 a4) (booklet_Fields.f (k + 1) a0 a1 a2 a3 a4) := by
  intro a0 a1 a2 a3 a4 k
  obtain ⟨ih0, ih1, ih2⟩ := booklet_Fields.mono_l k
  unfold booklet_Fields.f
  repeat' first
      | (with_reducible exact ih0 _ _ _ _ _ _)
      | (with_reducible exact ih1 _ _ _ _ _ _ _)
      | (with_reducible exact ih2 _ _ _ _ _ _ _ _ _ _)
      | (with_reducible exact booklet_Valid.mono _ _ _ _ _)
      | (with_reducible exact LeO.refl _)
      | (with_reducible exact LeO.none _)
      | (with_reducible refine LeO.ite ?_ ?_)
      | (with_reducible refine LeO.bind ?_ (fun _ => ?_))
      | exact ih0 _ _ _ _ _ _
      | exact ih1 _ _ _ _ _ _ _
      | exact ih2 _ _ _ _ _ _ _ _ _ _
      | exact booklet_Valid.mono _ _ _ _ _
      | exact LeO.none _
      | refine LeO.ite ?_ ?_
      | refine LeO.bind ?_ (fun _ => ?_)
set_option maxHeartbeats 8000000 in
set_option maxRecDepth 100000 in
theorem booklet_Fields.calls (k : Nat) (a0_0 : Int) (a0_1 : Int) (A0_2 : Option Addr) (c0_2 : Nat) (l0_2 : List (S65)) (A1_0 : Option Addr) (c1_0 : Nat) (l1_0 : List (List Int)) (a2 : Int) (r : List (S46)) (w : World) (hr0_2 : Kd.C k65 w A0_2 l0_2.length l0_2) (hc0_2 : l0_2.length ≤ c0_2) (hr1_0 : Kd.C (Kd.slice 3 (Kd.int .i64)) w A1_0 l1_0.length l1_0) (hc1_0 : l1_0.length ≤ c1_0) (h : booklet_Fields.f k a0_0 a0_1 l0_2 l1_0 a2 = some r) :
    Calls Try.prog 36 #[.agg #[.int .i64 a0_0, .int .i64 a0_1, .slice A0_2 l0_2.length c0_2], .agg #[.slice A1_0 l1_0.length c1_0], .int .i64 a2] w fun e w' => ∃ v0_ : Value, e = .returned (v0_) ∧ Kd.R k46 46 w' w.heap.size (fun _ => True) v0_ r ∧ Below w.heap.size w w' := by
 have hu53 := Try.underlying53
 have hu56 := Try.underlying56
 have hu46 := Try.underlying46
 have HR0_2 := za hr0_2; have HC0_2 := za hc0_2; clear hr0_2 hc0_2; have HR1_0 := za hr1_0; have HC1_0 := za hc1_0; clear hr1_0 hc1_0
 have HB := za (Below.refl w.heap.size w)
 have H : ((booklet_Valid.f k a0_0 a0_1 l0_2 l1_0).bind fun t367 => (if t367 = true then (if a2 < 0 then (booklet_Fields.j0 k a2 true a0_0 a0_1 l0_2 l1_0) else (booklet_Fields.j0 k a2 (decide (a2 ≥ (l1_0.length : Int))) a0_0 a0_1 l0_2 l1_0)) else (booklet_Fields.j0 k a2 true a0_0 a0_1 l0_2 l1_0))) = some r := h
 clear h; have HC4 := za H; clear H
 go_enter Try.func36, Try.ntmps36
 go_upto_region 1 with (first | ((with_reducible refine gate_dst (N := 3) rfl ?_); (try (refine gate_guard (by rfl) ?_; dsimp only)); refine zE 3 #[.int .i64 a0_0, .int .i64 a0_1, .slice A0_2 l0_2.length c0_2] 53 ?_; intro gb365 hg w5 hbox hb; have BK365 := za (hbox); have GW365 := zg HB hg; have GE365 := zg HB hg; replace HB := zs HB hb; clear hb hbox hg) | ((with_reducible refine gate_dst (N := 4) rfl ?_); (try (refine gate_guard (by rfl) ?_; dsimp only)); refine zE 4 #[.slice A1_0 l1_0.length c1_0] 56 ?_; intro gb366 hg w6 hbox hb; have BK366 := za (hbox); have GW366 := zg HB hg; have GE366 := zg HB hg; have NB365_366 := zl BK365 hg; have NB366_365 := zr BK365 hg; replace BK365 := zb BK365 hb; replace HB := zs HB hb; clear hb hbox hg))
 (try simp only [Act.put, List.setIfInBounds_toArray, List.set_cons_zero, List.set_cons_succ])
 go_cut [25] (fun v25 wc => ∃ (kq : Nat) (x25_3 : Bool), v25 = .bool x25_3 ∧ Aside0 (booklet_Fields.j0 kq a2 x25_3 a0_0 a0_1 l0_2 l1_0 = some r) ∧ Aside0 (kq ≤ k) ∧ Aside0 (wc.heap[gb365]? = some (.cells #[.int .i64 a0_0, .int .i64 a0_1, (.slice A0_2 l0_2.length c0_2)] 53 (0, 0))) ∧ Aside0 (wc.heap[gb366]? = some (.cells #[(.slice A1_0 l1_0.length c1_0)] 56 (0, 0))) ∧ Aside0 (Below w.heap.size w wc))
 case first =>
  have H := HC4.out
  clear HC4
  replace H := Option.bind_eq_some_iff.mp H
  obtain ⟨t367, A70, H⟩ := H
  replace H : (if t367 = true then (if a2 < 0 then (booklet_Fields.j0 k a2 true a0_0 a0_1 l0_2 l1_0) else (booklet_Fields.j0 k a2 (decide (a2 ≥ (l1_0.length : Int))) a0_0 a0_1 l0_2 l1_0)) else (booklet_Fields.j0 k a2 true a0_0 a0_1 l0_2 l1_0)) = some r := H
  have A7 := za A70; clear A70
  by_cases c8 : t367 = true
  ·subst c8
   have H1 : (if a2 < 0 then (booklet_Fields.j0 k a2 true a0_0 a0_1 l0_2 l1_0) else (booklet_Fields.j0 k a2 (decide (a2 ≥ (l1_0.length : Int))) a0_0 a0_1 l0_2 l1_0)) = some r := by rw [if_pos rfl] at H; exact H
   clear H; have H := H1; clear H1
   by_cases c9 : a2 < 0
   ·rw [if_pos c9] at H
    have c9b0 : decide (a2 < 0) = true := decide_eq_true c9
    clear c9
    (first | rw [c9b0] | (simp only [i64_w, i32_w]; rw [c9b0]) | skip)
    have H' := za H; clear H
    have hnb10 := NB365_366.out
    have hnc10 := NB366_365.out
    obtain ⟨hcz11_0, hcz11_1, hcz11_2, hfz11_0, hfz11_1, hfz11_2⟩ := z3 BK365
    obtain ⟨hcz12_0, hfz12_0⟩ := z1 BK366
    go_wp2_with (first | ((with_reducible refine gate_callee (f := 53) rfl ?_); refine zL (some 13) Try.func53 #[.agg #[.int .i64 a0_0, .int .i64 a0_1, .slice A0_2 l0_2.length c0_2], .agg #[.slice A1_0 l1_0.length c1_0]] ?_; (with_reducible refine (booklet_Valid.calls k a0_0 a0_1 _ _ l0_2 _ _ l1_0 true _ ?side1 ?side2 ?side3 ?side4 A7.out).mono ?_); (case side1 => exact zC HR0_2 HB); (case side2 => exact HC0_2.out); (case side3 => exact zC HR1_0 HB); (case side4 => exact HC1_0.out); rintro e w13 ⟨rfl, hb⟩; refine ⟨_, rfl, ?_⟩; replace BK365 := zb BK365 hb; replace BK366 := zb BK366 hb; replace HB := zs HB hb; (try clear hb); (try clear hb2); (try clear hk); (try clear hi)))
    go_meet
    case rel => exact ⟨_, (true), q8c, H', ⟨by first | omega | exact Nat.le_refl _⟩, ⟨q8a⟩, ⟨q8a⟩, ⟨zm HB⟩⟩
   ·rw [if_neg c9] at H
    have c9b0 : decide (a2 < 0) = false := decide_eq_false c9
    clear c9
    (first | rw [c9b0] | (simp only [i64_w, i32_w]; rw [c9b0]) | skip)
    have H' := za H; clear H
    have hnb14 := NB365_366.out
    have hnc14 := NB366_365.out
    obtain ⟨hcz15_0, hcz15_1, hcz15_2, hfz15_0, hfz15_1, hfz15_2⟩ := z3 BK365
    obtain ⟨hcz16_0, hfz16_0⟩ := z1 BK366
    go_wp2_with (first | ((with_reducible refine gate_callee (f := 53) rfl ?_); refine zL (some 13) Try.func53 #[.agg #[.int .i64 a0_0, .int .i64 a0_1, .slice A0_2 l0_2.length c0_2], .agg #[.slice A1_0 l1_0.length c1_0]] ?_; (with_reducible refine (booklet_Valid.calls k a0_0 a0_1 _ _ l0_2 _ _ l1_0 true _ ?side1 ?side2 ?side3 ?side4 A7.out).mono ?_); (case side1 => exact zC HR0_2 HB); (case side2 => exact HC0_2.out); (case side3 => exact zC HR1_0 HB); (case side4 => exact HC1_0.out); rintro e w17 ⟨rfl, hb⟩; refine ⟨_, rfl, ?_⟩; replace BK365 := zb BK365 hb; replace BK366 := zb BK366 hb; replace HB := zs HB hb; (try clear hb); (try clear hb2); (try clear hk); (try clear hi); obtain ⟨hcz18_0, hfz18_0⟩ := z1 BK366))
    go_meet
    case rel => exact ⟨_, (decide (a2 ≥ (l1_0.length : Int))), q8c, H', ⟨by first | omega | exact Nat.le_refl _⟩, ⟨q8a⟩, ⟨q8a⟩, ⟨zm HB⟩⟩
  ·replace c8 := Bool.eq_false_iff.mpr c8
   subst c8
   have H1 : (booklet_Fields.j0 k a2 true a0_0 a0_1 l0_2 l1_0) = some r := by rw [if_neg (show ¬ (false = true) by decide)] at H; exact H
   clear H; have H := H1; clear H1; have H' := za H; clear H
   have hnb19 := NB365_366.out
   have hnc19 := NB366_365.out
   obtain ⟨hcz20_0, hcz20_1, hcz20_2, hfz20_0, hfz20_1, hfz20_2⟩ := z3 BK365
   obtain ⟨hcz21_0, hfz21_0⟩ := z1 BK366
   go_wp2_with (first | ((with_reducible refine gate_callee (f := 53) rfl ?_); refine zL (some 13) Try.func53 #[.agg #[.int .i64 a0_0, .int .i64 a0_1, .slice A0_2 l0_2.length c0_2], .agg #[.slice A1_0 l1_0.length c1_0]] ?_; (with_reducible refine (booklet_Valid.calls k a0_0 a0_1 _ _ l0_2 _ _ l1_0 false _ ?side1 ?side2 ?side3 ?side4 A7.out).mono ?_); (case side1 => exact zC HR0_2 HB); (case side2 => exact HC0_2.out); (case side3 => exact zC HR1_0 HB); (case side4 => exact HC1_0.out); rintro e w22 ⟨rfl, hb⟩; refine ⟨_, rfl, ?_⟩; replace BK365 := zb BK365 hb; replace BK366 := zb BK366 hb; replace HB := zs HB hb; (try clear hb); (try clear hb2); (try clear hk); (try clear hi)))
   go_meet
   case rel => exact ⟨_, (true), q8c, H', ⟨by first | omega | exact Nat.le_refl _⟩, ⟨q8a⟩, ⟨q8a⟩, ⟨zm HB⟩⟩
 case rest =>
  clear HC4; (try clear c1); (try clear p2); (try clear c3); (try clear c5); (try clear c8); (try clear c9); (try clear c9b0); (try clear c10); (try clear c14); (try clear c19); (try clear hcz11_0); (try clear hcz11_1); (try clear hcz11_2); (try clear hcz12_0); (try clear hcz15_0); (try clear hcz15_1); (try clear hcz15_2); (try clear hcz16_0); (try clear hcz18_0); (try clear hcz20_0); (try clear hcz20_1); (try clear hcz20_2); (try clear hcz21_0); (try clear hfz11_0); (try clear hfz11_1); (try clear hfz11_2); (try clear hfz12_0); (try clear hfz15_0); (try clear hfz15_1); (try clear hfz15_2); (try clear hfz16_0); (try clear hfz18_0); (try clear hfz20_0); (try clear hfz20_1); (try clear hfz20_2); (try clear hfz21_0)
  obtain ⟨kq, x25_3, rfl, HA, HJ3, BK365, BK366, HB⟩ := hcut
  cases kq with
  | zero => exact absurd HA.out (by simp [booklet_Fields.j0])
  | succ kj3 =>
   have H := HA.out
   clear HA
   simp only [booklet_Fields.j0] at H
   by_cases c23 : x25_3 = true
   ·subst c23
    have H1 : (some ([] : List (S46))) = some r := by rw [if_pos rfl] at H; exact H
    clear H; have H := H1; clear H1
    obtain rfl := Option.some.inj H
    go_wp2
    go_ret
    exact ⟨_, zf, by first | exact Kd.R_nil _ _ _ _ _ | exact Kd.N_nil _ _ _ _ _ | exact Kd.V_nil _ _ _ _ _ | exact Kd.Q_nil _ _ _ _ _ | exact Kd.S_nil _ _ _ _ _, zm HB⟩
   ·replace c23 := Bool.eq_false_iff.mpr c23
    subst c23
    have H1 : (if 0 ≤ a2 then (if a2 < (l1_0.length : Int) then (booklet_Fields.l0 kj3 ([] : List (S46)) (rd_L2 l1_0 a2) ((rd_L2 l1_0 a2).length : Int) 0 a0_0 a0_1 l0_2) else (none)) else (none)) = some r := by rw [if_neg (show ¬ (false = true) by decide)] at H; exact H
    clear H; have H := H1; clear H1
    by_cases c24 : 0 ≤ a2
    ·rw [if_pos c24] at H
     have c24b0 : decide (0 ≤ a2) = true := decide_eq_true c24
     clear c24
     by_cases c25 : a2 < (l1_0.length : Int)
     ·rw [if_pos c25] at H
      have c25b0 : decide (a2 < (l1_0.length : Int)) = true := decide_eq_true c25
      clear c25; have H' := za H; clear H
      have hnb26 := NB366_365.out
      have hnc26 := NB365_366.out
      obtain ⟨hcz27_0, hfz27_0⟩ := z1 BK366
      have p368 : 0 ≤ (a2 : Int) := of_decide_eq_true q8b
      have q368 : a2 < (l1_0.length : Int) := of_decide_eq_true q8b
      obtain ⟨ad368, A368_0, c368_0, e368, hx368_0, hl368_0, hi368_0⟩ := at_L2 HR1_0.out a2 p368 q368
      cases e368
      replace hx368_0 := zx HB hx368_0
      have HR368_0 := za hi368_0; have HC368_0 := za hl368_0; clear hi368_0 hl368_0
      replace p368 := eq_true p368
      replace q368 := eq_true q368
      go_wp2
      go_loopg [7, 32] kj3 (fun kq v7 v32 w' => ∃ (x7_2 : List (S46)) (x32_2 : Int), v32 = .int .i64 x32_2 ∧ Aside0 (booklet_Fields.l0 kq x7_2 (rd_L2 l1_0 a2) ((rd_L2 l1_0 a2).length : Int) x32_2 a0_0 a0_1 l0_2 = some r) ∧ Aside0 (kq ≤ kj3) ∧ Aside0 (Kd.R k46 46 w' w.heap.size (fun _ => True) v7 x7_2) ∧ Aside0 (w'.heap[gb365]? = some (.cells #[.int .i64 a0_0, .int .i64 a0_1, (.slice A0_2 l0_2.length c0_2)] 53 (0, 0))) ∧ Aside0 (w'.heap[gb366]? = some (.cells #[(.slice (some ad368) l1_0.length c1_0)] 56 (0, 0))) ∧ Aside0 (Below w.heap.size w w'))
      case atStart => exact ⟨(([] : List (S46))), (0), q8c, H', ⟨Nat.le_refl _⟩, ⟨by first | exact Kd.R_nil _ _ _ _ _ | exact Kd.N_nil _ _ _ _ _ | exact Kd.V_nil _ _ _ _ _ | exact Kd.Q_nil _ _ _ _ _ | exact Kd.S_nil _ _ _ _ _⟩, ⟨q8a⟩, ⟨q8a⟩, ⟨zm HB⟩⟩
      case round =>
       clear H'; (try clear c1); (try clear c2); (try clear p2); (try clear c3); (try clear p3); (try clear q3); (try clear hx3); (try clear c5); (try clear c8); (try clear c9); (try clear c9b0); (try clear c10); (try clear c14); (try clear c19); (try clear c23); (try clear c24); (try clear c24b0); (try clear c25); (try clear c25b0); (try clear c26); (try clear hcz11_0); (try clear hcz11_1); (try clear hcz11_2); (try clear hcz12_0); (try clear hcz15_0); (try clear hcz15_1); (try clear hcz15_2); (try clear hcz16_0); (try clear hcz18_0); (try clear hcz20_0); (try clear hcz20_1); (try clear hcz20_2); (try clear hcz21_0); (try clear hcz27_0); (try clear hfz11_0); (try clear hfz11_1); (try clear hfz11_2); (try clear hfz12_0); (try clear hfz15_0); (try clear hfz15_1); (try clear hfz15_2); (try clear hfz16_0); (try clear hfz18_0); (try clear hfz20_0); (try clear hfz20_1); (try clear hfz20_2); (try clear hfz21_0); (try clear hfz27_0); (try clear hx368_0); (try clear p2); (try clear p368); (try clear q368)
       obtain ⟨x7_2, x32_2, rfl, HA, HK2, HO_7, BK365, BK366, HB⟩ := hrel
       cases gk with
       | zero => exact absurd HA.out (by simp [booklet_Fields.l0])
       | succ k2 =>
        have H := HA.out
        clear HA
        simp only [booklet_Fields.l0] at H
        by_cases c28 : x32_2 < ((rd_L2 l1_0 a2).length : Int)
        ·rw [if_pos c28] at H
         have c28b0 : decide (x32_2 < ((rd_L2 l1_0 a2).length : Int)) = true := decide_eq_true c28
         clear c28
         by_cases c29 : 0 ≤ x32_2
         ·rw [if_pos c29] at H
          have c29b0 : decide (0 ≤ x32_2) = true := decide_eq_true c29
          clear c29
          by_cases c30 : x32_2 < ((rd_L2 l1_0 a2).length : Int)
          ·rw [if_pos c30] at H
           have c30b0 : decide (x32_2 < ((rd_L2 l1_0 a2).length : Int)) = true := decide_eq_true c30
           clear c30
           by_cases c31 : 0 ≤ (rd (rd_L2 l1_0 a2) x32_2)
           ·rw [if_pos c31] at H
            have c31b0 : decide (0 ≤ (rd (rd_L2 l1_0 a2) x32_2)) = true := decide_eq_true c31
            clear c31
            by_cases c32 : (rd (rd_L2 l1_0 a2) x32_2) < (l0_2.length : Int)
            ·rw [if_pos c32] at H
             have c32b0 : decide ((rd (rd_L2 l1_0 a2) x32_2) < (l0_2.length : Int)) = true := decide_eq_true c32
             clear c32; have H' := za H; clear H
             have p369 : 0 ≤ (x32_2 : Int) := of_decide_eq_true q8b
             have q369 : x32_2 < ((rd_L2 l1_0 a2).length : Int) := of_decide_eq_true q8b
             obtain ⟨ad369, e369, hx369_0⟩ := Kd.at_int HR368_0.out x32_2 p369 q369
             cases e369
             replace hx369_0 := zx HB hx369_0
             replace p369 := eq_true p369
             replace q369 := eq_true q369
             have hnb33 := NB365_366.out
             have hnc33 := NB366_365.out
             obtain ⟨hcz34_0, hcz34_1, hcz34_2, hfz34_0, hfz34_1, hfz34_2⟩ := z3 BK365
             have p370 : 0 ≤ ((rd (rd_L2 l1_0 a2) x32_2) : Int) := of_decide_eq_true q8b
             have q370 : (rd (rd_L2 l1_0 a2) x32_2) < (l0_2.length : Int) := of_decide_eq_true q8b
             obtain ⟨ad370, e370, hx370_0, hx370_1, hx370_2, hx370_3, hx370_4, hx370_5⟩ := at_T65 HR0_2.out (rd (rd_L2 l1_0 a2) x32_2) p370 q370
             cases e370
             replace hx370_0 := zx HB hx370_0
             replace hx370_1 := zx HB hx370_1
             replace hx370_2 := zx HB hx370_2
             replace hx370_3 := zx HB hx370_3
             replace hx370_4 := zx HB hx370_4
             replace hx370_5 := zx HB hx370_5
             replace p370 := eq_true p370
             replace q370 := eq_true q370
             go_wp2
             go_loopg [7, 42] k2 (fun kq v7 v42 w' => ∃ (x7_3 : List (S46)) (x42_3 : Int), v42 = .int .i64 x42_3 ∧ Aside0 (booklet_Fields.l1 kq x7_3 (rd (rd_L2 l1_0 a2) x32_2) (rd_L2 l1_0 a2) ((rd_L2 l1_0 a2).length : Int) x32_2 ((rd_T65 l0_2 (rd (rd_L2 l1_0 a2) x32_2)).f4) x42_3 a0_0 a0_1 l0_2 = some r) ∧ Aside0 (kq ≤ k2) ∧ Aside0 (Kd.R k46 46 w' w.heap.size (fun _ => True) v7 x7_3) ∧ Aside0 (w'.heap[gb365]? = some (.cells #[.int .i64 a0_0, .int .i64 a0_1, (.slice (some ad370) l0_2.length c0_2)] 53 (0, 0))) ∧ Aside0 (w'.heap[gb366]? = some (.cells #[(.slice (some ad368) l1_0.length c1_0)] 56 (0, 0))) ∧ Aside0 (Below w.heap.size w w'))
             case atStart => exact ⟨(x7_2), (0), q8c, H', ⟨Nat.le_refl _⟩, ⟨by (with_reducible repeat (first | apply Kd.R_alloc | apply Kd.R_drewN | apply Kd.R_drew)); exact HO_7.out⟩, ⟨q8a⟩, ⟨q8a⟩, ⟨zm HB⟩⟩
             case round =>
              clear H'; (try clear c1); (try clear c2); (try clear p2); (try clear c3); (try clear p3); (try clear q3); (try clear hx3); (try clear c5); (try clear c8); (try clear c9); (try clear c9b0); (try clear c10); (try clear c14); (try clear c19); (try clear c23); (try clear c24); (try clear c24b0); (try clear c25); (try clear c25b0); (try clear c26); (try clear c28); (try clear c28b0); (try clear c29); (try clear c29b0); (try clear c30); (try clear c30b0); (try clear c31); (try clear c31b0); (try clear c32); (try clear c32b0); (try clear c33); (try clear hcz11_0); (try clear hcz11_1); (try clear hcz11_2); (try clear hcz12_0); (try clear hcz15_0); (try clear hcz15_1); (try clear hcz15_2); (try clear hcz16_0); (try clear hcz18_0); (try clear hcz20_0); (try clear hcz20_1); (try clear hcz20_2); (try clear hcz21_0); (try clear hcz27_0); (try clear hcz34_0); (try clear hcz34_1); (try clear hcz34_2); (try clear hfz11_0); (try clear hfz11_1); (try clear hfz11_2); (try clear hfz12_0); (try clear hfz15_0); (try clear hfz15_1); (try clear hfz15_2); (try clear hfz16_0); (try clear hfz18_0); (try clear hfz20_0); (try clear hfz20_1); (try clear hfz20_2); (try clear hfz21_0); (try clear hfz27_0); (try clear hfz34_0); (try clear hfz34_1); (try clear hfz34_2); (try clear hx368_0); (try clear hx369_0); (try clear hx370_0); (try clear hx370_1); (try clear hx370_2); (try clear hx370_3); (try clear hx370_4); (try clear hx370_5); (try clear p2); (try clear p3); (try clear p368); (try clear p369); (try clear p370); (try clear q3); (try clear q368); (try clear q369); (try clear q370)
              obtain ⟨x7_3, x42_3, rfl, HA, HK3, HO_7, BK365, BK366, HB⟩ := hrel
              cases gk with
              | zero => exact absurd HA.out (by simp [booklet_Fields.l1])
              | succ k3 =>
               have H := HA.out
               clear HA
               simp only [booklet_Fields.l1] at H
               by_cases c35 : x42_3 < ((rd_T65 l0_2 (rd (rd_L2 l1_0 a2) x32_2)).f4)
               ·rw [if_pos c35] at H
                have c35b0 : decide (x42_3 < ((rd_T65 l0_2 (rd (rd_L2 l1_0 a2) x32_2)).f4)) = true := decide_eq_true c35
                clear c35
                by_cases c36 : x7_3.length < 8796093022208
                ·rw [if_pos c36] at H
                 have LMc36 := za c36; clear c36
                 obtain ⟨y371, hy_⟩ : ∃ y_ : List (S46), y_ = (x7_3 ++ [(⟨(rd (rd_L2 l1_0 a2) x32_2), x42_3⟩ : S46)]) := ⟨_, rfl⟩
                 replace H : (booklet_Fields.l1 k3 y371 (rd (rd_L2 l1_0 a2) x32_2) (rd_L2 l1_0 a2) ((rd_L2 l1_0 a2).length : Int) x32_2 ((rd_T65 l0_2 (rd (rd_L2 l1_0 a2) x32_2)).f4) (wrap64 (x42_3 + 1)) a0_0 a0_1 l0_2) = some r := q8g
                 have Ny371 := za hy_; clear hy_; have H' := za H; clear H
                 go_wp2_with (first | ((with_reducible refine gate_builtin (b := .append) (xs := #[.tmp 45, .tmp 49]) rfl ?_); (try (refine gate_guard (by rfl) ?_; dsimp only)); at_builtin; refine Kd.R_append k46 (w0 := w) w.heap.size rfl (.tmp 45) (.tmp 49) 44 46 (.agg #[(.int .i64 0), (.int .i64 0)]) 16 rfl Try.underlying44 info46 rfl (by decide) (by omega) u7 x7_3 (⟨(rd (rd_L2 l1_0 a2) x32_2), x42_3⟩ : S46) [.int .i64 (rd (rd_L2 l1_0 a2) x32_2), .int .i64 x42_3] (fun _ => True) (fun _ => False) rfl rfl ?aP (fun _ hk => hk.elim) ?aF ?aO ?aB ?aS ?aL ?_; (case aP => exact k46_mkM _ _ _ (⟨(rd (rd_L2 l1_0 a2) x32_2), x42_3⟩ : S46)); (case aB => exact (zm HB)); (case aF => exact (fun _ _ => trivial)); (case aO => exact (by (with_reducible repeat (first | apply Kd.R_alloc | apply Kd.R_drewN | apply Kd.R_drew)); exact HO_7.out)); (case aS => exact (below_size (zm HB))); (case aL => have := LMc36.out; omega); intro v372 w37 ho hb hg hat; rw [← Ny371.out] at ho; have HO373 := za (ho); replace BK365 := (zw BK365 hg (Kd.R_ne HO_7.out BK365.out (by decide))); replace BK366 := (zw BK366 hg (Kd.R_ne HO_7.out BK366.out (by decide))); replace HB := za (hb); clear HO_7 ho hb hg hat))
                 go_roundg k3
                 case measure => have := HJ3.out; have := HK2.out; have := HK3.out; omega
                 case rel => exact ⟨(y371), (wrap64 (x42_3 + 1)), q8c, H', ⟨by have := HJ3.out; have := HK2.out; have := HK3.out; omega⟩, ⟨by (with_reducible repeat (first | apply Kd.R_alloc | apply Kd.R_drewN | apply Kd.R_drew)); exact HO373.out⟩, ⟨q8a⟩, ⟨q8a⟩, ⟨zm HB⟩⟩
                ·rw [if_neg c36] at H
                 exact absurd H (by simp)
               ·rw [if_neg c35] at H
                have c35b0 : decide (x42_3 < ((rd_T65 l0_2 (rd (rd_L2 l1_0 a2) x32_2)).f4)) = false := decide_eq_false c35
                clear c35; have H' := za H; clear H
                go_wp2
                go_roundg k3
                case measure => have := HJ3.out; have := HK2.out; have := HK3.out; omega
                case rel => exact ⟨(x7_3), (wrap64 (x32_2 + 1)), q8c, H', ⟨by have := HJ3.out; have := HK2.out; have := HK3.out; omega⟩, ⟨by (with_reducible repeat (first | apply Kd.R_alloc | apply Kd.R_drewN | apply Kd.R_drew)); exact HO_7.out⟩, ⟨q8a⟩, ⟨q8a⟩, ⟨zm HB⟩⟩
            ·rw [if_neg c32] at H
             exact absurd H (by simp)
           ·rw [if_neg c31] at H
            exact absurd H (by simp)
          ·rw [if_neg c30] at H
           exact absurd H (by simp)
         ·rw [if_neg c29] at H
          exact absurd H (by simp)
        ·rw [if_neg c28] at H
         have c28b0 : decide (x32_2 < ((rd_L2 l1_0 a2).length : Int)) = false := decide_eq_false c28
         clear c28
         obtain rfl := Option.some.inj H
         go_wp2
         go_ret
         exact ⟨_, zf, by (with_reducible repeat (first | apply Kd.R_alloc | apply Kd.R_drewN | apply Kd.R_drew)); exact HO_7.out, zm HB⟩
     ·rw [if_neg c25] at H
      exact absurd H (by simp)
    ·rw [if_neg c24] at H
     exact absurd H (by simp)

/-! ### bits_Mul32: function 68 -/
def bits_Mul32.f (a0 : Int) (a1 : Int) : Option (Int × Int) := some (((IntKind.u64.wrap ((IntKind.u64.wrap (a0)) * (IntKind.u64.wrap (a1)))) / 4294967296) % 4294967296, (IntKind.u64.wrap ((IntKind.u64.wrap (a0)) * (IntKind.u64.wrap (a1)))) % 4294967296)
set_option maxHeartbeats 8000000 in
set_option maxRecDepth 100000 in
theorem bits_Mul32.calls (a0 : Int) (a1 : Int) (r1 : Int) (r2 : Int) (w : World) (h : bits_Mul32.f a0 a1 = some (r1, r2)) :
    Calls Try.prog 68 #[.int .u32 a0, .int .u32 a1] w fun e w' => e = .returned (.tuple #[.int .u32 r1, .int .u32 r2]) ∧ Drawn0 w w' := by
 have H : (some (((IntKind.u64.wrap ((IntKind.u64.wrap (a0)) * (IntKind.u64.wrap (a1)))) / 4294967296) % 4294967296, (IntKind.u64.wrap ((IntKind.u64.wrap (a0)) * (IntKind.u64.wrap (a1)))) % 4294967296)) = some (r1, r2) := h
 clear h
 simp only [Option.some.injEq, Prod.mk.injEq] at H
 obtain ⟨rfl, rfl⟩ := H
 go_enter Try.func68, Try.ntmps68
 go_wp2
 go_ret2
 exact ⟨by first | rfl | (simp; done) | (simp [*]; done), by repeat (first | exact Drawn0.refl _ | apply Drawn0.step)⟩

/-! ### bits_Mul64: function 69 -/
def bits_Mul64.f (a0 : Int) (a1 : Int) : Option (Int × Int) := some (IntKind.u64.wrap ((IntKind.u64.wrap ((IntKind.u64.wrap ((a0 / 4294967296) * (a1 / 4294967296))) + ((IntKind.u64.wrap ((IntKind.u64.wrap ((a0 / 4294967296) * (Go.bits .and .u64 a1 4294967295))) + ((IntKind.u64.wrap ((Go.bits .and .u64 a0 4294967295) * (Go.bits .and .u64 a1 4294967295))) / 4294967296))) / 4294967296))) + ((IntKind.u64.wrap ((Go.bits .and .u64 (IntKind.u64.wrap ((IntKind.u64.wrap ((a0 / 4294967296) * (Go.bits .and .u64 a1 4294967295))) + ((IntKind.u64.wrap ((Go.bits .and .u64 a0 4294967295) * (Go.bits .and .u64 a1 4294967295))) / 4294967296))) 4294967295) + (IntKind.u64.wrap ((Go.bits .and .u64 a0 4294967295) * (a1 / 4294967296))))) / 4294967296)), IntKind.u64.wrap (a0 * a1))
set_option maxHeartbeats 8000000 in
set_option maxRecDepth 100000 in
theorem bits_Mul64.calls (a0 : Int) (a1 : Int) (r1 : Int) (r2 : Int) (w : World) (h : bits_Mul64.f a0 a1 = some (r1, r2)) :
    Calls Try.prog 69 #[.int .u64 a0, .int .u64 a1] w fun e w' => e = .returned (.tuple #[.int .u64 r1, .int .u64 r2]) ∧ Drawn0 w w' := by
 have H : (some (IntKind.u64.wrap ((IntKind.u64.wrap ((IntKind.u64.wrap ((a0 / 4294967296) * (a1 / 4294967296))) + ((IntKind.u64.wrap ((IntKind.u64.wrap ((a0 / 4294967296) * (Go.bits .and .u64 a1 4294967295))) + ((IntKind.u64.wrap ((Go.bits .and .u64 a0 4294967295) * (Go.bits .and .u64 a1 4294967295))) / 4294967296))) / 4294967296))) + ((IntKind.u64.wrap ((Go.bits .and .u64 (IntKind.u64.wrap ((IntKind.u64.wrap ((a0 / 4294967296) * (Go.bits .and .u64 a1 4294967295))) + ((IntKind.u64.wrap ((Go.bits .and .u64 a0 4294967295) * (Go.bits .and .u64 a1 4294967295))) / 4294967296))) 4294967295) + (IntKind.u64.wrap ((Go.bits .and .u64 a0 4294967295) * (a1 / 4294967296))))) / 4294967296)), IntKind.u64.wrap (a0 * a1))) = some (r1, r2) := h
 clear h
 simp only [Option.some.injEq, Prod.mk.injEq] at H
 obtain ⟨rfl, rfl⟩ := H
 go_enter Try.func69, Try.ntmps69
 go_wp2
 go_ret2
 exact ⟨by first | rfl | (simp; done) | (simp [*]; done), by repeat (first | exact Drawn0.refl _ | apply Drawn0.step)⟩

/-! ### bits_Mul: function 65 -/
def bits_Mul.f (a0 : Int) (a1 : Int) : Option (Int × Int) := (bits_Mul64.f a0 a1).bind fun bt374 => (some (bt374.1, bt374.2))
set_option maxHeartbeats 8000000 in
set_option maxRecDepth 100000 in
theorem bits_Mul.calls (a0 : Int) (a1 : Int) (r1 : Int) (r2 : Int) (w : World) (h : bits_Mul.f a0 a1 = some (r1, r2)) :
    Calls Try.prog 65 #[.int .u64 a0, .int .u64 a1] w fun e w' => e = .returned (.tuple #[.int .u64 r1, .int .u64 r2]) ∧ Drawn0 w w' := by
 have H : ((bits_Mul64.f a0 a1).bind fun bt374 => (some (bt374.1, bt374.2))) = some (r1, r2) := h
 clear h
 replace H := Option.bind_eq_some_iff.mp H
 obtain ⟨⟨t374, t375⟩, A30, H⟩ := H
 replace H : (some (t374, t375)) = some (r1, r2) := H
 have A3 := za A30; clear A30
 simp only [Option.some.injEq, Prod.mk.injEq] at H
 obtain ⟨rfl, rfl⟩ := H
 go_enter Try.func65, Try.ntmps65
 go_wp2_with (first | ((with_reducible refine gate_callee (f := 69) rfl ?_); refine zL (some 25) Try.func69 #[.int .u64 a0, .int .u64 a1] ?_; (with_reducible refine (bits_Mul64.calls a0 a1 t374 t375 _ A3.out).mono ?_); rintro e w' ⟨rfl, ⟨nd, rfl⟩⟩; refine ⟨_, rfl, ?_⟩))
 go_ret2
 exact ⟨by first | rfl | (simp; done) | (simp [*]; done), by repeat (first | exact Drawn0.refl _ | apply Drawn0.step)⟩

/-! ### slices_Repeat_int_int: function 54 (given by hand: one number, repeated) -/
def slices_Repeat_int_int.f (l0 : List Int) (a1 : Int) : Option (List Int) := if l0.length = 1 ∧ 0 ≤ a1 ∧ a1 ≤ 1000000 then some (List.replicate a1.toNat (rd l0 0)) else none
/-- The first j of n places hold v, the others nothing yet. -/
def fillN (v : Int) (j n : Nat) : List Int := List.replicate j v ++ List.replicate (n - j) 0
theorem fillN_len (v : Int) (j n : Nat) (h : j ≤ n) : (fillN v j n).length = n := by unfold fillN; simp; omega
theorem rep_wrap {x : Int} (h0 : 0 ≤ x) (h1 : x ≤ 18446744073709551615) : IntKind.u64.wrap x = x := by
  simp [IntKind.wrap, IntKind.signed, IntKind.bits]; omega
theorem rep_mask (n : Nat) (h : n ≤ 1000000) : Go.bits .and .u64 (n : Int) 4294967295 = n := by
  have e : ((BitVec.ofInt 64 (n : Int)) &&& (BitVec.ofInt 64 4294967295)).toNat = n := by
    rw [BitVec.toNat_and, show (BitVec.ofInt 64 4294967295).toNat = 2 ^ 32 - 1 from by decide, Nat.and_two_pow_sub_one_eq_mod]
    have : (BitVec.ofInt 64 (n : Int)).toNat = n := by simp; omega
    rw [this]; omega
  show IntKind.u64.wrap ((((BitVec.ofInt 64 (n : Int)) &&& (BitVec.ofInt 64 4294967295)).toNat : Nat) : Int) = n
  rw [e, rep_wrap (by omega) (by omega)]
theorem rep_mul (n : Nat) (h : n ≤ 1000000) : bits_Mul.f 1 (n : Int) = some (0, (n : Int)) := by
  have h1 : Go.bits .and .u64 1 4294967295 = 1 := by decide
  have h0 : Go.bits .and .u64 0 4294967295 = 0 := by decide
  unfold bits_Mul.f bits_Mul64.f
  rw [rep_mask n h, h1, show (n : Int) / 4294967296 = 0 by omega, show (1 : Int) / 4294967296 = 0 by decide]
  simp only [Option.bind_some, Int.zero_mul, Int.mul_zero, Int.one_mul, Int.add_zero, Int.zero_add]
  rw [rep_wrap (x := (n : Int)) (by omega) (by omega), show (n : Int) / 4294967296 = 0 by omega, rep_wrap (x := 0) (by omega) (by omega)]
  simp only [Int.add_zero]
  rw [rep_wrap (x := 0) (by omega) (by omega), h0]
  simp only [Int.add_zero, Int.zero_add]
  rw [rep_wrap (x := 0) (by omega) (by omega)]
  rfl
section
variable {P : Program}
/-- A copy of what the row begins with into what follows. -/
theorem rep_copy {W : World} (t e ty : TypeId) (ht : P.underlying t = some (.slice e)) (hinfo : (P.info? e).map (·.size) = some 1) {base : Nat} {ok : Nat → Prop} (v : Int) (n j cap g : Nat) (h0 : 0 < j) (hj : j < n)
    (HO : (Kd.int .i64).R e W base ok (.slice (some ⟨g, 0, none⟩) n cap) (fillN v j n)) :
    ∃ W1, (Builtin.copy_ #[t, t] ty #[.slice (some ⟨g, j, none⟩) (n - j) (cap - j), .slice (some ⟨g, 0, none⟩) j cap]).run P W = .ok (goInt ((min j (n - j) : Nat) : Int)) W1 ∧
      (Kd.int .i64).R e W1 base ok (.slice (some ⟨g, 0, none⟩) n cap) (fillN v (j + min j (n - j)) n) ∧ W.grownBy W1 (some g) := by
  have hm : min j (n - j) ≤ n - j := Nat.min_le_right _ _
  generalize hmm : min j (n - j) = m at hm ⊢
  have hmj : m ≤ j := by rw [← hmm]; exact Nat.min_le_left _ _
  have hown := Kd.own_of_R HO
  rw [fillN_len v j n (by omega)] at hown
  rcases hown.2 with ⟨hv, _⟩ | ⟨g', cap', cur, hv, hb, hh, hnc, hcm, hcs, htake⟩
  · cases hv
  injection hv with ha _ hc
  injection ha with ha
  injection ha with hg'
  subst hg'; subst hc
  have hcs1 : cur.size = cap := by omega
  have hcs0 : (encs (Value.int .i64) (List.replicate m v)).length = m := by rw [encs_length, List.length_replicate]
  have hcur : ∀ q, q < n → cur.toList[q]? = (encs (Value.int .i64) (fillN v j n))[q]? := by
    intro q hq
    rw [← htake, Nat.mul_one, List.getElem?_take_of_lt hq]
  have hsrc : ∀ q u, (encs (Value.int .i64) (List.replicate m v))[q]? = some u → W.cell? ((⟨g, 0, none⟩ : Addr).add q) = some u := by
    intro q u hu
    have hq : q < m := by rw [← hcs0]; exact (List.getElem?_eq_some_iff.1 hu).1
    rw [add_plain, cell_of_row W g _ cur e (0, 0) hh, ← Array.getElem?_toList, hcur q (by omega), ← hu]
    simp [encs, fillN, List.getElem?_append, hq, List.getElem?_replicate, show q < j by omega]
  have hr := run_copy_cells (P := P) W t t ty e g j (n - j) (cap - j) ⟨g, 0, none⟩ j cap (encs (Value.int .i64) (List.replicate m v)) ht hinfo (by rw [hcs0, ← hmm]) hsrc
    (fun q hq => by rw [cell_of_row W g _ cur e (0, 0) hh]; rw [hcs0] at hq; first | (simp; done) | (simp; omega)) (fun q _ => blk_frozen hh _) (by intro u hu; simp only [encs, List.mem_map] at hu; obtain ⟨q, _, rfl⟩ := hu; rfl)
  rw [hcs0] at hr
  obtain ⟨cur', h3, h4, h5⟩ := setCells_row (encs (Value.int .i64) (List.replicate m v)) j W cur hh (by rw [hcs0]; omega)
  obtain ⟨s1, s2, s3, s4⟩ := setCells_same g (encs (Value.int .i64) (List.replicate m v)) j W
  refine ⟨_, hr, Kd.R_of_own ?_ HO.1, ⟨s1, s2, s3, by rw [s4]; exact Nat.le_refl _, fun k _ hk => setCells_far _ _ k (fun he => hk (by rw [he]))⟩⟩
  rw [fillN_len v (j + m) n (by omega)]
  refine ⟨by rw [encs_length, fillN_len v (j + m) n (by omega), Nat.mul_one], .inr ⟨g, cap, cur', rfl, hb, h3, hnc, hcm, by rw [h4, hcs], ?_⟩⟩
  rw [Nat.mul_one]
  apply List.ext_getElem?
  intro q
  by_cases hq : q < n
  · rw [List.getElem?_take_of_lt hq, h5, hcs0]
    by_cases q1 : q < j
    · rw [List.append_assoc, List.getElem?_append_left (by rw [List.length_take, Array.length_toList]; omega), List.getElem?_take_of_lt q1, hcur q hq]
      simp [encs, fillN, List.getElem?_append, List.getElem?_replicate, q1, show q < j + m by omega]
    · by_cases q2 : q < j + m
      · rw [List.append_assoc, List.getElem?_append_right (by rw [List.length_take, Array.length_toList]; omega), List.getElem?_append_left (by rw [hcs0, List.length_take, Array.length_toList]; omega)]
        simp [encs, fillN, List.getElem?_append, List.getElem?_replicate, q2]
        omega
      · rw [List.getElem?_append_right (by rw [List.length_append, hcs0, List.length_take, Array.length_toList]; omega), List.getElem?_drop, List.length_append, hcs0, List.length_take, Array.length_toList, show j + m + (q - (min j cur.size + m)) = q by omega, hcur q hq]
        simp [encs, fillN, List.getElem?_append, List.getElem?_replicate, q1, q2]
        rw [if_pos (by omega), if_pos (by omega)]
  · rw [List.getElem?_eq_none (by rw [List.length_take]; omega), List.getElem?_eq_none (by rw [encs_length, fillN_len v (j + m) n (by omega)]; omega)]
/-- copy, as an event. -/
theorem copy_event {ops : Array Oper} {rest : List Oper} {o : Oper} {a : Act} {Q : Exit → Act → World → Prop} {W W1 : World} (hgd : o.guard = none) (s x : Operand) (t t' : TypeId) (ho : o.op = .call { callee := .builtin .copy, args := #[s, x], argTypes := #[t, t'] }) (v1 v2 : Value) (m : Int)
    (hs : a.eval s = v1) (hx : a.eval x = v2) (hr : (Builtin.copy_ #[t, t'] o.type #[v1, v2]).run P W = .ok (goInt m) W1) (h : wpList P ops Q rest (a.put o.dst (.int .i64 m)) W1) : wpList P ops Q (o :: rest) a W := by
  refine wpList_plain hgd fun K hK => ?_
  unfold Oper.wp execOp
  simp only [ho, resolve, invoke, builtin, Sem.run_bind, Sem.run_pure, Result.andThen_ok, List.map_toArray, List.map_cons, List.map_nil, hs, hx, hr]
  exact hK _ _ h
end
theorem rep_step (j n : Nat) (h0 : 0 < j) (h : j < n) (hn : (n : Int) ≤ 1000000) : 0 < min j (n - j) ∧ wrap64 ((j : Int) + ((min j (n - j) : Nat) : Int)) = ((j + min j (n - j) : Nat) : Int) ∧ j + min j (n - j) ≤ n ∧ n - (j + min j (n - j)) < n - j := by
  refine ⟨by omega, ?_, by omega, by omega⟩
  unfold wrap64; omega
theorem copy_exec {P : Program} {a : Act} {o : Oper} {W W1 : World} (s x : Operand) (t t' : TypeId) (ho : o.op = .call { callee := .builtin .copy, args := #[s, x], argTypes := #[t, t'] }) (v1 v2 : Value) (m : Int)
    (hs : a.eval s = v1) (hx : a.eval x = v2) (hr : (Builtin.copy_ #[t, t'] o.type #[v1, v2]).run P W = .ok (goInt m) W1) : (execOp a.eval o).run P W = .ok (.value (.int .i64 m)) W1 := by
  unfold execOp
  simp only [ho, resolve, invoke, builtin, Sem.run_bind, Sem.run_pure, Result.andThen_ok, List.map_toArray, List.map_cons, List.map_nil, hs, hx, hr]
  rfl
theorem rep_first (x : Int) (n : Nat) : [x].take (min 1 n) ++ (List.replicate n (0 : Int)).drop (min 1 n) = fillN x (min 1 n) n := by
  cases n with
  | zero => simp [fillN]
  | succ k => rw [show min 1 (k + 1) = 1 by omega]; simp [fillN]
theorem rep_block {W : World} {base n : Nat} {e : TypeId} {ok : Nat → Prop} {v : Value} {xs : List Int} {p : Nat → Prop} (h : (Kd.int .i64).R e W base ok v xs) (hl : xs.length = n) (hat : ∃ b, v.ownBlock = some b ∧ p b) : ∃ g cap, v = .slice (some ⟨g, 0, none⟩) n cap ∧ n ≤ cap := by
  obtain ⟨_, inner, ho, _⟩ := h
  rcases ho.2 with ⟨rfl, _⟩ | ⟨g, cap, cur, rfl, _, _, hc, _⟩
  · obtain ⟨b, hb, _⟩ := hat
    simp [Value.ownBlock] at hb
  · exact ⟨g, cap, by rw [hl], by omega⟩
def slices_Repeat_int_int.T9 : Bool × List (List Nat × List Nat) := (true, [([], []), ([], []), ([], []), ([1, 2], [1, 2]), ([], []), ([], []), ([4, 5], [4, 5]), ([3, 6], [3, 6]), ([0, 7], [0, 7]), ([8, 7, 0, 1, 2, 3, 4, 5, 6, 7, 8], [0, 2, 5, 8])])
def slices_Repeat_int_int.B9 : List Nat := [0, 0, 0, 6, 0, 0, 48, 126, 255, 511]
theorem slices_Repeat_int_int.tab9 : rtab .any (opsOf Try.f54 9) = slices_Repeat_int_int.T9 := by kernel_rfl
theorem slices_Repeat_int_int.bits9 : waitsOk slices_Repeat_int_int.T9.2 slices_Repeat_int_int.B9 = true := by kernel_rfl
set_option maxHeartbeats 8000000 in
set_option maxRecDepth 100000 in
theorem slices_Repeat_int_int.calls (A0 : Option Addr) (c0 : Nat) (l0 : List Int) (a1 : Int) (r : List Int) (w : World) (hr0 : Kd.C (Kd.int .i64) w A0 l0.length l0) (hc0 : l0.length ≤ c0) (h : slices_Repeat_int_int.f l0 a1 = some r) :
    Calls Try.prog 54 #[.slice A0 l0.length c0, .int .i64 a1] w fun e w' => ∃ v0_ : Value, e = .returned (v0_) ∧ Kd.R (Kd.int .i64) 3 w' w.heap.size (fun _ => True) v0_ r ∧ Below w.heap.size w w' := by
 have hif : l0.length = 1 ∧ 0 ≤ a1 ∧ a1 ≤ 1000000 := by
  by_cases hq : l0.length = 1 ∧ 0 ≤ a1 ∧ a1 ≤ 1000000
  · exact hq
  · rw [slices_Repeat_int_int.f, if_neg hq] at h; cases h
 rw [slices_Repeat_int_int.f, if_pos hif] at h
 obtain rfl := Option.some.inj h
 clear h
 obtain ⟨hl, h0, h1⟩ := hif
 obtain ⟨x, rfl⟩ := List.length_eq_one_iff.1 hl
 obtain ⟨n, rfl⟩ := Int.eq_ofNat_of_zero_le h0
 have HR0 := za hr0; clear hr0 h0
 have hmul := za (rep_mul n (by omega))
 have hw1 : IntKind.u64.wrap (1 : Int) = 1 := rep_wrap (by omega) (by omega)
 have hwn : IntKind.u64.wrap (n : Int) = n := rep_wrap (by omega) (by omega)
 have hwi : wrap64 (n : Int) = n := by unfold wrap64; omega
 have hneg : decide ((n : Int) < 0) = false := decide_eq_false (by omega)
 have hgt : decide ((n : Int) > 9223372036854775807) = false := decide_eq_false (by omega)
 have HB := za (Below.refl w.heap.size w)
 have hi3 : (Try.prog.info? 3).map (·.size) = some 1 := by kernel_rfl
 obtain ⟨i0, hi0, _, hsz, _⟩ := info_parts info3
 go_enter Try.func54, Try.ntmps54
 go_wp2_with (first | (go_at_call 65; (with_reducible refine (bits_Mul.calls 1 n 0 n _ hmul.out).mono ?_); rintro e w1 ⟨rfl, ⟨nd, rfl⟩⟩) | ((with_reducible refine gate_dst (N := 30) rfl ?_); refine Kd.R_make (Kd.int .i64) (w0 := w) w.heap.size 3 rfl rfl 28 (.tmp 29) (.tmp 29) rfl (n : Int) rfl rfl Try.underlying28 (.int .i64 0) 8 info3 rfl (by decide) (by decide) 0 (ok := fun _ => True) (okp := fun _ => True) rfl (fun _ h => h) trivial (by omega) (by simp; omega) (by repeat (first | exact HB.out | apply pw_below_drewN | apply below_drew1)) (below_size (by repeat (first | exact HB.out | apply pw_below_drewN | apply below_drew1))) ?_; intro v1 w1 hR hb hg hat; rw [Int.toNat_natCast] at hR; replace HR0 := za (Kd.C_below HR0.out hb); replace HB := za hb; have HO := za hR; clear hR hb hg) | ((with_reducible refine gate_builtin (b := .copy) (xs := #[.tmp 31, .tmp 32]) rfl ?_); refine Kd.R_copy (enc := Value.int .i64) 0 (w0 := w) w.heap.size rfl (.tmp 31) (.tmp 32) 28 28 3 rfl Try.underlying28 hi3 v1 _ [x] A0 1 c0 (fun _ => True) rfl rfl HO.out HR0.out HB.out (below_size HB.out) ?_; intro w2 hR hb hg; rw [List.length_replicate] at hR ⊢; rw [rep_first x n] at hR; obtain ⟨g, cap, rfl, hcap⟩ := rep_block hR (fillN_len x (min 1 n) n (Nat.min_le_right _ _)) hat; have hj1 : min 1 n ≤ n := Nat.min_le_right _ _; have hj2 : 0 < n → 0 < min 1 n := (fun _ => by omega); clear HO; generalize min 1 n = j at hR hj1 hj2 ⊢; replace HB := za hb; have HO := za hR; clear hR hb hg hat HR0))
 go_loopg [8] n (fun kq v8 w' => ∃ j : Nat, v8 = .int .i64 (j : Int) ∧ Aside0 (j ≤ n ∧ (0 < n → 0 < j) ∧ n - j ≤ kq) ∧ Aside0 ((Kd.int .i64).R 3 w' w.heap.size (fun _ => True) (.slice (some ⟨g, 0, none⟩) n cap) (fillN x j n)) ∧ Aside0 (Below w.heap.size w w'))
 case atStart => exact ⟨j, rfl, ⟨hj1, hj2, by omega⟩, HO, HB⟩
 case round =>
  clear HO HB hj1 hj2 hneg hgt hw1 hwn hwi
  obtain ⟨j, rfl, ⟨hj1, hj2, hk⟩, HO, HB⟩ := hrel
  cases gk with
  | zero =>
   have hjn : j = n := by omega
   subst hjn
   have hz0 : decide ((j : Int) < (j : Int)) = false := decide_eq_false (by omega)
   go_wp2
   go_ret
   exact ⟨_, rfl, by rw [Int.toNat_natCast]; simpa [fillN, rd] using HO.out, HB.out⟩
  | succ k1 =>
   by_cases c : j < n
   ·have hc0 : decide ((j : Int) < (n : Int)) = true := decide_eq_true (by omega)
    have hcutA := cut_from (P := Try.prog) 28 3 .i64 Try.underlying28 hi0 1 hsz (some ⟨g, 0, none⟩) n cap (j : Int) (by omega) (by omega)
    have hcutB := cut_to (P := Try.prog) 28 3 .i64 Try.underlying28 hi0 (some ⟨g, 0, none⟩) n cap (j : Int) (by omega) (by omega) hcap
    rw [Int.toNat_natCast, if_neg (by omega), Option.map_some, add_plain, Nat.mul_one] at hcutA
    rw [Int.toNat_natCast] at hcutB
    have hj0 : 0 < j := hj2 (Nat.lt_of_le_of_lt (Nat.zero_le j) c)
    obtain ⟨hm, hm2, hm3, hm4⟩ := rep_step j n hj0 c h1
    go_wp2
    replace HO := za (Kd.R_drew HO.out)
    replace HB := za (below_drew1 HB.out)
    refine start_ (n := 10) (S := fun w' => True) (ds := []) #[false, false, false, false, false, false, false, false, false, false] (by kernel_rfl) rfl rfl trivial (fun hHeld => ?_); refine with_tabW slices_Repeat_int_int.tab9 slices_Repeat_int_int.bits9 (fun HT_ HW_ => ?_)
    generalize wr.drew = w14 at HO HB hHeld ⊢
    refine pure_ (i := 0) (N := some 38) (v := ?_) (a' := ?_) #[true, false, false, false, false, false, false, false, false, false] rfl rfl (any_of HT_.out (by kernel_rfl)) (fun _ _ _ h => h) (Or.inl ⟨by rfl, ?_⟩) ?_ ?_
    rotate_left
    ·intro w'
     go_simp
     with_reducible rfl
    rotate_left
    ·simp only [Act.put, List.setIfInBounds_toArray, List.set_cons_zero, List.set_cons_succ, i64_w, i32_w]
     rfl
    refine pure_ (i := 1) (N := some 39) (v := ?_) (a' := ?_) #[true, true, false, false, false, false, false, false, false, false] rfl rfl (any_of HT_.out (by kernel_rfl)) (fun _ _ _ h => h) (Or.inl ⟨by rfl, ?_⟩) ?_ ?_
    rotate_left
    ·intro w'
     go_simp
     with_reducible rfl
    rotate_left
    ·simp only [Act.put, List.setIfInBounds_toArray, List.set_cons_zero, List.set_cons_succ, i64_w, i32_w]
     rfl
    refine pure_ (i := 2) (N := some 40) (v := ?_) (a' := ?_) #[true, true, true, false, false, false, false, false, false, false] rfl rfl (any_of HT_.out (by kernel_rfl)) (fun _ _ _ h => h) (Or.inl ⟨by rfl, ?_⟩) ?_ ?_
    rotate_left
    ·intro w'
     go_simp
     with_reducible rfl
    rotate_left
    ·simp only [Act.put, List.setIfInBounds_toArray, List.set_cons_zero, List.set_cons_succ, i64_w, i32_w]
     rfl
    refine pure_ (i := 3) (N := some 41) (v := ?_) (a' := ?_) #[true, true, true, true, false, false, false, false, false, false] rfl rfl (any_of HT_.out (by kernel_rfl)) (fun _ _ _ h => h) (Or.inl ⟨by rfl, ?_⟩) ?_ ?_
    rotate_left
    ·intro w'
     go_simp
     with_reducible rfl
    rotate_left
    ·simp only [Act.put, List.setIfInBounds_toArray, List.set_cons_zero, List.set_cons_succ, i64_w, i32_w]
     rfl
    refine pure_ (i := 4) (N := some 42) (v := ?_) (a' := ?_) #[true, true, true, true, true, false, false, false, false, false] rfl rfl (any_of HT_.out (by kernel_rfl)) (fun _ _ _ h => h) (Or.inl ⟨by rfl, ?_⟩) ?_ ?_
    rotate_left
    ·intro w'
     go_simp
     with_reducible rfl
    rotate_left
    ·simp only [Act.put, List.setIfInBounds_toArray, List.set_cons_zero, List.set_cons_succ, i64_w, i32_w]
     rfl
    refine pure_ (i := 5) (N := some 43) (v := ?_) (a' := ?_) #[true, true, true, true, true, true, false, false, false, false] rfl rfl (any_of HT_.out (by kernel_rfl)) (fun _ _ _ h => h) (Or.inl ⟨by rfl, ?_⟩) ?_ ?_
    rotate_left
    ·intro w'
     go_simp
     with_reducible rfl
    rotate_left
    ·simp only [Act.put, List.setIfInBounds_toArray, List.set_cons_zero, List.set_cons_succ, i64_w, i32_w]
     rfl
    refine pure_ (i := 6) (N := some 44) (v := ?_) (a' := ?_) #[true, true, true, true, true, true, true, false, false, false] rfl rfl (any_of HT_.out (by kernel_rfl)) (fun _ _ _ h => h) (Or.inl ⟨by rfl, ?_⟩) ?_ ?_
    rotate_left
    ·intro w'
     go_simp
     with_reducible rfl
    rotate_left
    ·simp only [Act.put, List.setIfInBounds_toArray, List.set_cons_zero, List.set_cons_succ, i64_w, i32_w]
     rfl
    refine one_ (i := 7) (N := some 45) #[true, true, true, true, true, true, true, true, false, false] rfl rfl (one_of HT_.out (by kernel_rfl)) (by decide) (fun K hK => ?_)
    obtain ⟨W1, hrun, hR, hg⟩ := rep_copy (P := Try.prog) 28 3 3 Try.underlying28 hi3 x n j cap g hj0 c HO.out
    refine value_ (w1 := W1) (v := .int .i64 ((min j (n - j) : Nat) : Int)) (by rfl) rfl (copy_exec (.tmp 41) (.tmp 44) 28 28 rfl _ _ _ rfl rfl hrun) ?_
    replace HB := za (HB.out.grown hg (below_size HB.out) (fun k_ hk_ => by cases hk_; exact (Kd.R_base HO.out g (by simp [Value.ownBlock]))))
    replace HO := za hR
    clear hR hg hrun
    refine hK.out _ _ trivial (fun hHeld => ?_)
    clear hK K
    refine norm_ (a' := ?_) ?_ ?_
    rotate_left
    ·show Act.put _ (some 45) _ = _
     simp only [Act.put, List.setIfInBounds_toArray, List.set_cons_zero, List.set_cons_succ, i64_w, i32_w]
     rfl
    refine pure_ (i := 8) (N := some 46) (v := ?_) (a' := ?_) #[true, true, true, true, true, true, true, true, true, false] rfl rfl (any_of HT_.out (by kernel_rfl)) (fun _ _ _ h => h) (Or.inl ⟨by rfl, ?_⟩) ?_ ?_
    rotate_left
    ·intro w'
     go_simp
     with_reducible rfl
    rotate_left
    ·simp only [Act.put, List.setIfInBounds_toArray, List.set_cons_zero, List.set_cons_succ, i64_w, i32_w]
     rfl
    refine pure_ (i := 9) (N := some 8) (v := ?_) (a' := ?_) #[true, true, true, true, true, true, true, true, true, true] rfl rfl (any_of HT_.out (by kernel_rfl)) (fun _ _ _ h => h) (Or.inl ⟨by rfl, ?_⟩) ?_ ?_
    rotate_left
    ·intro w'
     go_simp
     with_reducible rfl
    rotate_left
    ·simp only [Act.put, List.setIfInBounds_toArray, List.set_cons_zero, List.set_cons_succ, i64_w, i32_w]
     rfl
    refine done_ (done_of HT_.out (by kernel_rfl)) ?_
    try go_wp2
    go_roundg k1
    case measure => omega
    case rel => exact ⟨j + min j (n - j), (by first | rw [hm2] | rw [Int.natCast_add]), ⟨hm3, (fun _ => Nat.lt_of_lt_of_le hj0 (Nat.le_add_right _ _)), Nat.le_of_lt_succ (Nat.lt_of_lt_of_le hm4 hk)⟩, HO, HB⟩
   ·have hjn : j = n := by omega
    subst hjn
    have hz0 : decide ((j : Int) < (j : Int)) = false := decide_eq_false (by omega)
    go_wp2
    go_ret
    exact ⟨_, rfl, by rw [Int.toNat_natCast]; simpa [fillN, rd] using HO.out, HB.out⟩

end Go.Proofs.Ythbmpjglkbhhgaa.Print
