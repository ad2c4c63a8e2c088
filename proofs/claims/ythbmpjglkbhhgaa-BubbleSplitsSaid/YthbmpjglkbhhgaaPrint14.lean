-- Printed by a program of this session (wip/own_print.py) out of the translation; Lean checks it.
import Derived.Test.YthbmpjglkbhhgaaShort
import Derived.Test.YthbmpjglkbhhgaaClip
import Derived.Test.YthbmpjglkbhhgaaPrint0
import Derived.Test.YthbmpjglkbhhgaaPrint13
namespace Go.Proofs.Ythbmpjglkbhhgaa.Print
open Go.RowKit Go.Proofs.YthbmpjglkbhhgaaW.PrintWords Go.Proofs.YthbmpjglkbhhgaaW.PrintLast Go.Proofs.YthbmpjglkbhhgaaW.PrintMore
attribute [local go_sem] max2_int min2_int max_two min_two max_three min_three max_four min_four   -- for this text's walks alone
set_option linter.unusedVariables false
set_option linter.unusedSimpArgs false

/-! ### bubble_Split: function 25 -/
def bubble_Split.l0 : Nat → List (S46) → List Int → List (List Int) → Int → Int → Int → Option ((List (List Int)) × Int)
  | 0, _, _, _, _, _, _ => none
  | k + 1, x0, x6, x7, x8, x19, x20 => if x20 < x19 then (if (wrap64 (x20 + 1)) = (x0.length : Int) then (if 0 ≤ x8 then (if x8 ≤ (wrap64 (x20 + 1)) then (if (wrap64 (x20 + 1)) ≤ (x6.length : Int) then (if x7.length < 5864062014805 then (bubble_Split.l0 k x0 x6 (x7 ++ [((x6.take ((wrap64 (x20 + 1)) : Int).toNat).drop (x8 : Int).toNat)]) (wrap64 (x20 + 1)) x19 (wrap64 (x20 + 1))) else (none)) else (none)) else (none)) else (none)) else (if 0 ≤ (wrap64 (x20 + 1)) then (if (wrap64 (x20 + 1)) < (x0.length : Int) then (if 0 ≤ x20 then (if x20 < (x0.length : Int) then (if ((rd_T46 x0 (wrap64 (x20 + 1))).f0) = ((rd_T46 x0 x20).f0) then (bubble_Split.l0 k x0 x6 x7 x8 x19 (wrap64 (x20 + 1))) else (if 0 ≤ x8 then (if x8 ≤ (wrap64 (x20 + 1)) then (if (wrap64 (x20 + 1)) ≤ (x6.length : Int) then (if x7.length < 5864062014805 then (bubble_Split.l0 k x0 x6 (x7 ++ [((x6.take ((wrap64 (x20 + 1)) : Int).toNat).drop (x8 : Int).toNat)]) (wrap64 (x20 + 1)) x19 (wrap64 (x20 + 1))) else (none)) else (none)) else (none)) else (none))) else (none)) else (none)) else (none)) else (none))) else (some (x7, 0))
def bubble_Split.f (k : Nat) (l0 : List (S46)) (l1 : List Int) : Option ((List (List Int)) × Int) := if (l0.length : Int) = (l1.length : Int) then ((slices_Clone_int_int.f l1).bind fun t381 => (bubble_Split.l0 k l0 t381 ([] : List (List Int)) 0 (l0.length : Int) 0)) else (some (([] : List (List Int)), 1))
theorem bubble_Split.mono_l : ∀ k, (∀ y0 y1 y2 y3 y4 y5, LeO (bubble_Split.l0 k y0 y1 y2 y3 y4 y5) (bubble_Split.l0 (k + 1) y0 y1 y2 y3 y4 y5))
  | 0 => fun _ _ _ _ _ _ r h => by simp [bubble_Split.l0] at h
  | k + 1 => by
    have ih0 := bubble_Split.mono_l k
    · intro y0 y1 y2 y3 y4 y5
      unfold bubble_Split.l0
      repeat' first
      | (with_reducible exact ih0 _ _ _ _ _ _)
      | (with_reducible exact LeO.refl _)
      | (with_reducible exact LeO.none _)
      | (with_reducible refine LeO.ite ?_ ?_)
      | (with_reducible refine LeO.bind ?_ (fun _ => ?_))
      | exact ih0 _ _ _ _ _ _
      | exact LeO.none _
      | refine LeO.ite ?_ ?_
      | refine LeO.bind ?_ (fun _ => ?_)
theorem bubble_Split.mono : ∀ a0 a1 k, LeO (bubble_Split.f k a0 a1) (bubble_Split.f (k + 1) a0 a1) := by
  intro a0 a1 k
  have ih0 := bubble_Split.mono_l k
  unfold bubble_Split.f
  repeat' first
      | (with_reducible exact ih0 _ _ _ _ _ _)
      | (with_reducible exact LeO.refl _)
      | (with_reducible exact LeO.none _)
      | (with_reducible refine LeO.ite ?_ ?_)
      | (with_reducible refine LeO.bind ?_ (fun _ => ?_))
      | exact ih0 _ _ _ _ _ _
      | exact LeO.none _
      | refine LeO.ite ?_ ?_
      | refine LeO.bind ?_ (fun _ => ?_)
set_option maxHeartbeats 8000000 in
set_option maxRecDepth 100000 in
theorem bubble_Split.calls (k : Nat) (A0 : Option Addr) (c0 : Nat) (l0 : List (S46)) (A1 : Option Addr) (c1 : Nat) (l1 : List Int) (r1 : List (List Int)) (r2 : Int) (w : World) (hr0 : Kd.C k46 w A0 l0.length l0) (hc0 : l0.length ≤ c0) (hr1 : Kd.C (Kd.int .i64) w A1 l1.length l1) (hc1 : l1.length ≤ c1) (h : bubble_Split.f k l0 l1 = some (r1, r2)) :
    Calls Try.prog 25 #[.slice A0 l0.length c0, .slice A1 l1.length c1] w fun e w' => ∃ v0_ : Value, e = .returned (.tuple #[v0_, .int .i64 r2]) ∧ Kd.N (Kd.slice 3 (Kd.int .i64)) 28 w' w.heap.size (fun k_ => (w.heap.size ≤ k_)) v0_ r1 ∧ Below w.heap.size w w' := by
 have HR0 := za hr0
 have HC0 := za hc0
 clear hr0 hc0
 have HR1 := za hr1
 have HC1 := za hc1
 clear hr1 hc1
 have HB := za (Below.refl w.heap.size w)
 have H : (if (l0.length : Int) = (l1.length : Int) then ((slices_Clone_int_int.f l1).bind fun t381 => (bubble_Split.l0 k l0 t381 ([] : List (List Int)) 0 (l0.length : Int) 0)) else (some (([] : List (List Int)), 1))) = some (r1, r2) := h
 clear h
 by_cases c3 : (l0.length : Int) = (l1.length : Int)
 ·rw [if_pos c3] at H
  have c3b0 : ((l0.length : Int) == (l1.length : Int)) = true := beq_iff_eq.mpr c3
  have c3b1 : ((l0.length : Int) != (l1.length : Int)) = false := bne_eq_false_iff_eq.mpr c3
  have c3b2 : (l0.length == l1.length) = true := by first | simpa using c3 | (simp at c3 ⊢; omega)
  clear c3
  replace H := Option.bind_eq_some_iff.mp H
  obtain ⟨t381, A40, H⟩ := H
  replace H : (bubble_Split.l0 k l0 t381 ([] : List (List Int)) 0 (l0.length : Int) 0) = some (r1, r2) := H
  have A4 := za A40
  clear A40
  have H' := za H
  clear H
  go_enter Try.func25, Try.ntmps25
  go_wp2_with (first | (go_at_call 46; (with_reducible refine (slices_Clone_int_int.calls _ _ l1 t381 _ ?side1 ?side2 A4.out).mono ?_); (case side1 => repeat (first | exact HR1.out | (with_reducible refine Kd.C_alloc ?_ _) | (with_reducible refine Kd.C_drewN ?_ _) | (with_reducible refine Kd.C_drew ?_))); (case side2 => exact HC1.out); rintro e w5 ⟨v382, rfl, ho0, hb⟩; have HO383 := za (Kd.R_lower (Kd.R_newM (M := fun k_ => (w.heap.size ≤ k_)) ho0 (below_size (zm HB)) (fun k_ h_ => h_)) (below_size (zm HB))); replace HB := zs HB hb; (try clear hb); (try clear hb2); (try clear hk); (try clear hi); (try clear ho0)))
  repeat (go_quiet (first | (go_at_call 46; (with_reducible refine (slices_Clone_int_int.calls _ _ l1 t381 _ ?side1 ?side2 A4.out).mono ?_); (case side1 => repeat (first | exact HR1.out | (with_reducible refine Kd.C_alloc ?_ _) | (with_reducible refine Kd.C_drewN ?_ _) | (with_reducible refine Kd.C_drew ?_))); (case side2 => exact HC1.out); rintro e w5 ⟨v382, rfl, ho0, hb⟩; have HO383 := za (Kd.R_lower (Kd.R_newM (M := fun k_ => (w.heap.size ≤ k_)) ho0 (below_size (zm HB)) (fun k_ h_ => h_)) (below_size (zm HB))); replace HB := zs HB hb; (try clear hb); (try clear hb2); (try clear hk); (try clear hi); (try clear ho0))); try go_wp2_with (first | (go_at_call 46; (with_reducible refine (slices_Clone_int_int.calls _ _ l1 t381 _ ?side1 ?side2 A4.out).mono ?_); (case side1 => repeat (first | exact HR1.out | (with_reducible refine Kd.C_alloc ?_ _) | (with_reducible refine Kd.C_drewN ?_ _) | (with_reducible refine Kd.C_drew ?_))); (case side2 => exact HC1.out); rintro e w5 ⟨v382, rfl, ho0, hb⟩; have HO383 := za (Kd.R_lower (Kd.R_newM (M := fun k_ => (w.heap.size ≤ k_)) ho0 (below_size (zm HB)) (fun k_ h_ => h_)) (below_size (zm HB))); replace HB := zs HB hb; (try clear hb); (try clear hb2); (try clear hk); (try clear hi); (try clear ho0))))
  go_loopg [7, 8, 20] k (fun kq v7 v8 v20 w' => ∃ (x7_1 : List (List Int)) (x8_1 : Int) (x20_1 : Int), v8 = .int .i64 x8_1 ∧ v20 = .int .i64 x20_1 ∧ Aside0 (bubble_Split.l0 kq l0 t381 x7_1 x8_1 (l0.length : Int) x20_1 = some (r1, r2)) ∧ Aside0 (kq ≤ k) ∧ Aside0 (Kd.R (Kd.int .i64) 3 w' w.heap.size (fun k_ => (w.heap.size ≤ k_)) v382 t381) ∧ Aside0 (Kd.N (Kd.slice 3 (Kd.int .i64)) 28 w' w.heap.size (fun k_ => (w.heap.size ≤ k_)) v7 x7_1) ∧ Aside0 (Below w.heap.size w w'))
  case atStart => exact ⟨(([] : List (List Int))), (0), (0), (by first | rfl | (simp; done) | (simp [*]; done)), (by first | rfl | (simp; done) | (simp [*]; done)), H', ⟨Nat.le_refl _⟩, ⟨by (with_reducible repeat (first | apply Kd.R_alloc | apply Kd.R_drewN | apply Kd.R_drew)); exact Kd.R_mono HO383.out (fun _ hk => hk.1)⟩, ⟨by first | exact Kd.S_nil _ _ _ _ _ | exact Kd.N_nil _ _ _ _ _ | exact Kd.V_nil _ _ _ _ _ | exact Kd.Q_nil _ _ _ _ _ | exact Kd.R_nil _ _ _ _ _⟩, ⟨zm HB⟩⟩
  case round =>
   clear H'
   try clear c1
   try clear c2
   try clear p2
   try clear c3
   try clear c3b0
   try clear c3b1
   try clear c3b2
   obtain ⟨x7_1, x8_1, x20_1, rfl, rfl, HA, HK1, HO_6, HO_7, HB⟩ := hrel
   cases gk with
   | zero => exact absurd HA.out (by simp [bubble_Split.l0])
   | succ k1 =>
    have H := HA.out
    clear HA
    simp only [bubble_Split.l0] at H
    by_cases c6 : x20_1 < (l0.length : Int)
    ·rw [if_pos c6] at H
     have c6b0 : decide (x20_1 < (l0.length : Int)) = true := decide_eq_true c6
     clear c6
     by_cases c7 : (wrap64 (x20_1 + 1)) = (l0.length : Int)
     ·rw [if_pos c7] at H
      have c7b0 : ((wrap64 (x20_1 + 1)) == (l0.length : Int)) = true := beq_iff_eq.mpr c7
      have c7b1 : ((wrap64 (x20_1 + 1)) != (l0.length : Int)) = false := bne_eq_false_iff_eq.mpr c7
      clear c7
      by_cases c8 : 0 ≤ x8_1
      ·rw [if_pos c8] at H
       have c8b0 := eq_true c8
       have c8b1 : decide (0 ≤ x8_1) = true := decide_eq_true c8
       clear c8
       by_cases c9 : x8_1 ≤ (wrap64 (x20_1 + 1))
       ·rw [if_pos c9] at H
        have c9b0 := eq_true c9
        have c9b1 : decide (x8_1 ≤ (wrap64 (x20_1 + 1))) = true := decide_eq_true c9
        by_cases c10 : (wrap64 (x20_1 + 1)) ≤ (t381.length : Int)
        ·rw [if_pos c10] at H
         have c10b0 := eq_true c10
         have c10b1 : decide ((wrap64 (x20_1 + 1)) ≤ (t381.length : Int)) = true := decide_eq_true c10
         obtain ⟨y384, hy384⟩ : ∃ y_ : List Int, y_ = ((t381.take ((wrap64 (x20_1 + 1)) : Int).toNat).drop (x8_1 : Int).toNat) := ⟨_, rfl⟩
         replace H : (if x7_1.length < 5864062014805 then (bubble_Split.l0 k1 l0 t381 (x7_1 ++ [y384]) (wrap64 (x20_1 + 1)) (l0.length : Int) (wrap64 (x20_1 + 1))) else (none)) = some (r1, r2) := by first | (rw [hy384]; with_reducible exact H) | (have H2_ := (Option.bind_some _ _).symm.trans H; rw [hy384]; with_reducible exact H2_) | (have H2_ := (Option.bind_some _ _).symm.trans H; with_reducible exact H2_) | with_reducible exact H | (rw [hy384]; exact H) | exact H
         have Ny384 := za hy384
         clear hy384
         by_cases c11 : x7_1.length < 5864062014805
         ·rw [if_pos c11] at H
          have LMc11 := za c11
          clear c11
          obtain ⟨y389, hy389⟩ : ∃ y_ : List (List Int), y_ = (x7_1 ++ [y384]) := ⟨_, rfl⟩
          replace H : (bubble_Split.l0 k1 l0 t381 y389 (wrap64 (x20_1 + 1)) (l0.length : Int) (wrap64 (x20_1 + 1))) = some (r1, r2) := by first | (rw [hy389]; with_reducible exact H) | (have H2_ := (Option.bind_some _ _).symm.trans H; rw [hy389]; with_reducible exact H2_) | (have H2_ := (Option.bind_some _ _).symm.trans H; with_reducible exact H2_) | with_reducible exact H | (rw [hy389]; exact H) | exact H
          have Ny389 := za hy389
          clear hy389
          have H' := za H
          clear H
          obtain ⟨Ao13, co13, eo13⟩ := Kd.R_slice HO_6.out
          subst eo13
          have q12 : ((wrap64 (x20_1 + 1)) : Int) ≤ ((t381.length : Int) : Int) := of_decide_eq_true (by first | (with_reducible assumption) | assumption)
          obtain ⟨i012, hi012, _, hsz12, _⟩ := info_parts info3
          have hroom12 : t381.length ≤ co13 := (Kd.R_reads' HO_6.out).2.1
          have hC12 : Kd.F (Kd.int .i64) _ _ Ao13 t381.length t381 := (Kd.V_at (base := w.heap.size) (Kd.R_V (Kd.R_apart' (HO_6.out) (Kd.N_typed HO_7.out) (by decide)))).2.2
          have ql12 : (x8_1 : Int) ≤ ((wrap64 (x20_1 + 1)) : Int) := of_decide_eq_true (by first | (with_reducible assumption) | assumption)
          have q012 : (0 : Int) ≤ (x8_1 : Int) := of_decide_eq_true (by first | (with_reducible assumption) | assumption)
          have hcut12 := clip_mid (P := Try.prog) 28 3 .i64 .i64 .i64 Try.underlying28 hi012 1 hsz12 Ao13 t381.length co13 x8_1 (wrap64 (x20_1 + 1)) q012 ql12 q12 hroom12
          have hr12 := Kd.F_clip (lo := (x8_1 : Int).toNat) (hi := ((wrap64 (x20_1 + 1)) : Int).toNat) hC12 (by omega) (by omega)
          obtain ⟨A12, hA12⟩ : ∃ A1, A1 = (if ((wrap64 (x20_1 + 1)) : Int).toNat = (x8_1 : Int).toNat then Ao13 else (Ao13 : Option Addr).map (·.add ((x8_1 : Int).toNat * 1))) := ⟨_, rfl⟩
          have hy12 : y384.length = ((wrap64 (x20_1 + 1)) : Int).toNat - (x8_1 : Int).toNat := (by rw [Ny384.out, List.length_drop, List.length_take] <;> omega)
          rw [show ((t381).take ((wrap64 (x20_1 + 1)) : Int).toNat).drop (x8_1 : Int).toNat = y384 from Ny384.out.symm] at hr12
          replace hr12 : Kd.F (Kd.int .i64) _ _ A12 y384.length y384 := (by rw [hA12]; exact hr12)
          rw [← hy12, ← hA12] at hcut12
          have HO388 := za (show Kd.V (Kd.int .i64) 3 _ w.heap.size _ (.slice A12 y384.length y384.length) y384 from Kd.V_mk (Nat.le_refl _) hr12)
          have HC388 := za (Nat.le_refl y384.length)
          clear hr12 hC12 hroom12 hi012 hsz12
          have KY12 := za hy12
          have KA12 := za hA12
          clear hy12 hA12
          replace q12 := eq_true q12
          go_wp2_with (first | ((with_reducible refine gate_builtin (b := .append) (xs := #[.tmp 42, .tmp 48]) rfl ?_); at_builtin; refine Kd.N_append (Kd.slice 3 (Kd.int .i64)) (w0 := w) w.heap.size rfl (.tmp 42) (.tmp 48) 47 28 (.slice none 0 0) 24 rfl Try.underlying47 info28 rfl (by decide) (by omega) u7 x7_1 y384 [.slice A12 y384.length y384.length] (fun k_ => (w.heap.size ≤ k_)) (fun k_ => ((fun k_ => (w.heap.size ≤ k_))) k_ ∧ some k_ ≠ (u7 : Value).ownBlock) rfl rfl ?aP (fun _ hk => hk) ?aF ?aO ?aB ?aS ?aL ?_; (case aP => exact (Kd.FK_slice_mk (Kd.V_reads' (Kd.V_mono (ok' := (fun k_ => ((fun k_ => (w.heap.size ≤ k_))) k_ ∧ some k_ ≠ (u7 : Value).ownBlock)) (HO388.out) (fun k_ hk => ⟨hk.1, hk.2⟩))).2.1 (Kd.V_F (Kd.V_mono (ok' := (fun k_ => ((fun k_ => (w.heap.size ≤ k_))) k_ ∧ some k_ ≠ (u7 : Value).ownBlock)) (HO388.out) (fun k_ hk => ⟨hk.1, hk.2⟩))))); (case aB => exact (zm HB)); (case aF => exact (fun k_ hk => (Nat.le_trans (below_size (zm HB)) hk))); (case aO => exact (by (with_reducible repeat (first | apply Kd.N_alloc | apply Kd.N_drewN | apply Kd.N_drew)); exact HO_7.out)); (case aS => exact (below_size (zm HB))); (case aL => have := LMc11.out; omega); intro v390 w14 ho hb hg hat; rw [← Ny389.out] at ho; have HO391 := za (ho); replace HO_6 := za (Kd.R_over' (by (with_reducible repeat (first | apply Kd.R_alloc | apply Kd.R_drewN | apply Kd.R_drew)); exact HO_6.out) (Kd.N_typed (by (with_reducible repeat (first | apply Kd.N_alloc | apply Kd.N_drewN | apply Kd.N_drew)); exact HO_7.out)) (by decide) hg); replace HO388 := za (Kd.V_afterv (ok := (fun k_ => (w.heap.size ≤ k_))) (by (with_reducible repeat (first | apply Kd.V_alloc | apply Kd.V_drewN | apply Kd.V_drew)); exact HO388.out) hg hat); replace HB := za (hb); clear HO_7 ho hb hg hat))
          go_quiet (fail)
          go_wp2_with (first | ((with_reducible refine gate_builtin (b := .append) (xs := #[.tmp 42, .tmp 48]) rfl ?_); at_builtin; refine Kd.N_append (Kd.slice 3 (Kd.int .i64)) (w0 := w) w.heap.size rfl (.tmp 42) (.tmp 48) 47 28 (.slice none 0 0) 24 rfl Try.underlying47 info28 rfl (by decide) (by omega) u7 x7_1 y384 [.slice A12 y384.length y384.length] (fun k_ => (w.heap.size ≤ k_)) (fun k_ => ((fun k_ => (w.heap.size ≤ k_))) k_ ∧ some k_ ≠ (u7 : Value).ownBlock) rfl rfl ?aP (fun _ hk => hk) ?aF ?aO ?aB ?aS ?aL ?_; (case aP => exact (Kd.FK_slice_mk (Kd.V_reads' (Kd.V_mono (ok' := (fun k_ => ((fun k_ => (w.heap.size ≤ k_))) k_ ∧ some k_ ≠ (u7 : Value).ownBlock)) (HO388.out) (fun k_ hk => ⟨hk.1, hk.2⟩))).2.1 (Kd.V_F (Kd.V_mono (ok' := (fun k_ => ((fun k_ => (w.heap.size ≤ k_))) k_ ∧ some k_ ≠ (u7 : Value).ownBlock)) (Kd.V_drewN HO388.out _) (fun k_ hk => ⟨hk.1, hk.2⟩))))); (case aB => exact (zm HB)); (case aF => exact (fun k_ hk => (Nat.le_trans (below_size (zm HB)) hk))); (case aO => exact (by (with_reducible repeat (first | apply Kd.N_alloc | apply Kd.N_drewN | apply Kd.N_drew)); exact HO_7.out)); (case aS => exact (below_size (zm HB))); (case aL => have := LMc11.out; omega); intro v390 w14 ho hb hg hat; rw [← Ny389.out] at ho; have HO391 := za (ho); replace HO_6 := za (Kd.R_over' (by (with_reducible repeat (first | apply Kd.R_alloc | apply Kd.R_drewN | apply Kd.R_drew)); exact HO_6.out) (Kd.N_typed (by (with_reducible repeat (first | apply Kd.N_alloc | apply Kd.N_drewN | apply Kd.N_drew)); exact HO_7.out)) (by decide) hg); replace HO388 := za (Kd.V_afterv (ok := (fun k_ => (w.heap.size ≤ k_))) (by (with_reducible repeat (first | apply Kd.V_alloc | apply Kd.V_drewN | apply Kd.V_drew)); exact HO388.out) hg hat); replace HB := za (hb); clear HO_7 ho hb hg hat))
          go_roundg k1
          case measure => have := HK1.out; omega
          case rel => exact ⟨(y389), (wrap64 (x20_1 + 1)), (wrap64 (x20_1 + 1)), (by first | rfl | (simp; done) | (simp [*]; done)), (by first | rfl | (simp; done) | (simp [*]; done)), H', ⟨by have := HK1.out; omega⟩, ⟨by (with_reducible repeat (first | apply Kd.R_alloc | apply Kd.R_drewN | apply Kd.R_drew)); exact HO_6.out⟩, ⟨by (with_reducible repeat (first | apply Kd.N_alloc | apply Kd.N_drewN | apply Kd.N_drew)); exact HO391.out⟩, ⟨zm HB⟩⟩
         ·rw [if_neg c11] at H
          exact absurd H (by simp)
        ·rw [if_neg c10] at H
         exact absurd H (by simp)
       ·rw [if_neg c9] at H
        exact absurd H (by simp)
      ·rw [if_neg c8] at H
       exact absurd H (by simp)
     ·rw [if_neg c7] at H
      have c7b0 : ((wrap64 (x20_1 + 1)) == (l0.length : Int)) = false := beq_eq_false_iff_ne.mpr c7
      have c7b1 : ((wrap64 (x20_1 + 1)) != (l0.length : Int)) = true := bne_iff_ne.mpr c7
      obtain ⟨ji15, hji15⟩ : ∃ j_ : Int, (wrap64 (x20_1 + 1)) = j_ := ⟨_, rfl⟩
      replace H : (if 0 ≤ (ji15) then (if (ji15) < (l0.length : Int) then (if 0 ≤ x20_1 then (if x20_1 < (l0.length : Int) then (if ((rd_T46 l0 (ji15)).f0) = ((rd_T46 l0 x20_1).f0) then (bubble_Split.l0 k1 l0 t381 x7_1 x8_1 (l0.length : Int) ji15) else (if 0 ≤ x8_1 then (if x8_1 ≤ (ji15) then (if (ji15) ≤ (t381.length : Int) then (if x7_1.length < 5864062014805 then (bubble_Split.l0 k1 l0 t381 (x7_1 ++ [((t381.take ((ji15) : Int).toNat).drop (x8_1 : Int).toNat)]) ji15 (l0.length : Int) ji15) else (none)) else (none)) else (none)) else (none))) else (none)) else (none)) else (none)) else (none)) = some (r1, r2) := by first | (rw [hji15] at H; exact H) | (simp only [hji15] at H ⊢; exact H)
      (try rw [hji15] at c7b0)
      (try rw [hji15] at c7b1)
      have hji15w : (IntKind.i64.wrap (x20_1 + 1)) = ji15 := (i64_w _).trans hji15
      by_cases c16 : 0 ≤ (ji15)
      ·rw [if_pos c16] at H
       have c16b0 : decide (0 ≤ (ji15)) = true := decide_eq_true c16
       clear c16
       by_cases c17 : (ji15) < (l0.length : Int)
       ·rw [if_pos c17] at H
        have c17b0 : decide ((ji15) < (l0.length : Int)) = true := decide_eq_true c17
        clear c17
        by_cases c18 : 0 ≤ x20_1
        ·rw [if_pos c18] at H
         have c18b0 : decide (0 ≤ x20_1) = true := decide_eq_true c18
         clear c18
         by_cases c19 : x20_1 < (l0.length : Int)
         ·rw [if_pos c19] at H
          have c19b0 : decide (x20_1 < (l0.length : Int)) = true := decide_eq_true c19
          clear c19
          by_cases c20 : ((rd_T46 l0 (ji15)).f0) = ((rd_T46 l0 x20_1).f0)
          ·rw [if_pos c20] at H
           have c20b0 : (((rd_T46 l0 (ji15)).f0) == ((rd_T46 l0 x20_1).f0)) = true := beq_iff_eq.mpr c20
           have c20b1 : (((rd_T46 l0 (ji15)).f0) != ((rd_T46 l0 x20_1).f0)) = false := bne_eq_false_iff_eq.mpr c20
           clear c20
           have H' := za H
           clear H
           have p392 : 0 ≤ ((ji15) : Int) := of_decide_eq_true (by first | (with_reducible assumption) | assumption)
           have q392 : (ji15) < (l0.length : Int) := of_decide_eq_true (by first | (with_reducible assumption) | assumption)
           obtain ⟨ad392, e392, hx392_0, hx392_1⟩ := at_T46 HR0.out (ji15) p392 q392
           cases e392
           replace hx392_0 := zx HB hx392_0
           replace hx392_1 := zx HB hx392_1
           replace p392 := eq_true p392
           replace q392 := eq_true q392
           have p393 : 0 ≤ (x20_1 : Int) := of_decide_eq_true (by first | (with_reducible assumption) | assumption)
           have q393 : x20_1 < (l0.length : Int) := of_decide_eq_true (by first | (with_reducible assumption) | assumption)
           obtain ⟨ad393, e393, hx393_0, hx393_1⟩ := at_T46 HR0.out x20_1 p393 q393
           obtain rfl : ad392 = ad393 := (by injection e393)
           replace hx393_0 := zx HB hx393_0
           replace hx393_1 := zx HB hx393_1
           replace p393 := eq_true p393
           replace q393 := eq_true q393
           go_wp2
           repeat (go_quiet (fail); try go_wp2)
           go_roundg k1
           case measure => have := HK1.out; omega
           case rel => exact ⟨(x7_1), (x8_1), (ji15), (by first | rfl | (simp; done) | (simp [*]; done)), (by first | rfl | (simp; done) | (simp only [← hji15] <;> (first | rfl | simp)) | (simp [*]; done)), H', ⟨by have := HK1.out; omega⟩, ⟨by (with_reducible repeat (first | apply Kd.R_alloc | apply Kd.R_drewN | apply Kd.R_drew)); exact HO_6.out⟩, ⟨by (with_reducible repeat (first | apply Kd.N_alloc | apply Kd.N_drewN | apply Kd.N_drew)); exact HO_7.out⟩, ⟨zm HB⟩⟩
          ·rw [if_neg c20] at H
           have c20b0 : (((rd_T46 l0 (ji15)).f0) == ((rd_T46 l0 x20_1).f0)) = false := beq_eq_false_iff_ne.mpr c20
           have c20b1 : (((rd_T46 l0 (ji15)).f0) != ((rd_T46 l0 x20_1).f0)) = true := bne_iff_ne.mpr c20
           by_cases c21 : 0 ≤ x8_1
           ·rw [if_pos c21] at H
            have c21b0 := eq_true c21
            have c21b1 : decide (0 ≤ x8_1) = true := decide_eq_true c21
            clear c21
            by_cases c22 : x8_1 ≤ (ji15)
            ·rw [if_pos c22] at H
             have c22b0 := eq_true c22
             have c22b1 : decide (x8_1 ≤ (ji15)) = true := decide_eq_true c22
             clear c22
             by_cases c23 : (ji15) ≤ (t381.length : Int)
             ·rw [if_pos c23] at H
              have c23b0 := eq_true c23
              have c23b1 : decide ((ji15) ≤ (t381.length : Int)) = true := decide_eq_true c23
              clear c23
              obtain ⟨y394, hy394⟩ : ∃ y_ : List Int, y_ = ((t381.take ((ji15) : Int).toNat).drop (x8_1 : Int).toNat) := ⟨_, rfl⟩
              replace H : (if x7_1.length < 5864062014805 then (bubble_Split.l0 k1 l0 t381 (x7_1 ++ [y394]) ji15 (l0.length : Int) ji15) else (none)) = some (r1, r2) := by first | (rw [hy394]; with_reducible exact H) | (have H2_ := (Option.bind_some _ _).symm.trans H; rw [hy394]; with_reducible exact H2_) | (have H2_ := (Option.bind_some _ _).symm.trans H; with_reducible exact H2_) | with_reducible exact H | (rw [hy394]; exact H) | exact H
              have Ny394 := za hy394
              clear hy394
              by_cases c24 : x7_1.length < 5864062014805
              ·rw [if_pos c24] at H
               have LMc24 := za c24
               clear c24
               obtain ⟨y399, hy399⟩ : ∃ y_ : List (List Int), y_ = (x7_1 ++ [y394]) := ⟨_, rfl⟩
               replace H : (bubble_Split.l0 k1 l0 t381 y399 ji15 (l0.length : Int) ji15) = some (r1, r2) := by first | (rw [hy399]; with_reducible exact H) | (have H2_ := (Option.bind_some _ _).symm.trans H; rw [hy399]; with_reducible exact H2_) | (have H2_ := (Option.bind_some _ _).symm.trans H; with_reducible exact H2_) | with_reducible exact H | (rw [hy399]; exact H) | exact H
               have Ny399 := za hy399
               clear hy399
               have H' := za H
               clear H
               have p392 : 0 ≤ ((ji15) : Int) := of_decide_eq_true (by first | (with_reducible assumption) | assumption)
               have q392 : (ji15) < (l0.length : Int) := of_decide_eq_true (by first | (with_reducible assumption) | assumption)
               obtain ⟨ad392, e392, hx392_0, hx392_1⟩ := at_T46 HR0.out (ji15) p392 q392
               cases e392
               replace hx392_0 := zx HB hx392_0
               replace hx392_1 := zx HB hx392_1
               replace p392 := eq_true p392
               replace q392 := eq_true q392
               have p393 : 0 ≤ (x20_1 : Int) := of_decide_eq_true (by first | (with_reducible assumption) | assumption)
               have q393 : x20_1 < (l0.length : Int) := of_decide_eq_true (by first | (with_reducible assumption) | assumption)
               obtain ⟨ad393, e393, hx393_0, hx393_1⟩ := at_T46 HR0.out x20_1 p393 q393
               obtain rfl : ad392 = ad393 := (by injection e393)
               replace hx393_0 := zx HB hx393_0
               replace hx393_1 := zx HB hx393_1
               replace p393 := eq_true p393
               replace q393 := eq_true q393
               obtain ⟨Ao26, co26, eo26⟩ := Kd.R_slice HO_6.out
               subst eo26
               have q25 : ((ji15) : Int) ≤ ((t381.length : Int) : Int) := of_decide_eq_true (by first | (with_reducible assumption) | assumption)
               obtain ⟨i025, hi025, _, hsz25, _⟩ := info_parts info3
               have hroom25 : t381.length ≤ co26 := (Kd.R_reads' HO_6.out).2.1
               have hC25 : Kd.F (Kd.int .i64) _ _ Ao26 t381.length t381 := (Kd.V_at (base := w.heap.size) (Kd.R_V (Kd.R_apart' (HO_6.out) (Kd.N_typed HO_7.out) (by decide)))).2.2
               have ql25 : (x8_1 : Int) ≤ ((ji15) : Int) := of_decide_eq_true (by first | (with_reducible assumption) | assumption)
               have q025 : (0 : Int) ≤ (x8_1 : Int) := of_decide_eq_true (by first | (with_reducible assumption) | assumption)
               have hcut25 := clip_mid (P := Try.prog) 28 3 .i64 .i64 .i64 Try.underlying28 hi025 1 hsz25 Ao26 t381.length co26 x8_1 (ji15) q025 ql25 q25 hroom25
               have hr25 := Kd.F_clip (lo := (x8_1 : Int).toNat) (hi := ((ji15) : Int).toNat) hC25 (by omega) (by omega)
               obtain ⟨A25, hA25⟩ : ∃ A1, A1 = (if ((ji15) : Int).toNat = (x8_1 : Int).toNat then Ao26 else (Ao26 : Option Addr).map (·.add ((x8_1 : Int).toNat * 1))) := ⟨_, rfl⟩
               have hy25 : y394.length = ((ji15) : Int).toNat - (x8_1 : Int).toNat := (by rw [Ny394.out, List.length_drop, List.length_take] <;> omega)
               rw [show ((t381).take ((ji15) : Int).toNat).drop (x8_1 : Int).toNat = y394 from Ny394.out.symm] at hr25
               replace hr25 : Kd.F (Kd.int .i64) _ _ A25 y394.length y394 := (by rw [hA25]; exact hr25)
               rw [← hy25, ← hA25] at hcut25
               have HO398 := za (show Kd.V (Kd.int .i64) 3 _ w.heap.size _ (.slice A25 y394.length y394.length) y394 from Kd.V_mk (Nat.le_refl _) hr25)
               have HC398 := za (Nat.le_refl y394.length)
               clear hr25 hC25 hroom25 hi025 hsz25
               have KY25 := za hy25
               have KA25 := za hA25
               clear hy25 hA25
               replace q25 := eq_true q25
               go_wp2_with (first | ((with_reducible refine gate_builtin (b := .append) (xs := #[.tmp 42, .tmp 48]) rfl ?_); at_builtin; refine Kd.N_append (Kd.slice 3 (Kd.int .i64)) (w0 := w) w.heap.size rfl (.tmp 42) (.tmp 48) 47 28 (.slice none 0 0) 24 rfl Try.underlying47 info28 rfl (by decide) (by omega) u7 x7_1 y394 [.slice A25 y394.length y394.length] (fun k_ => (w.heap.size ≤ k_)) (fun k_ => ((fun k_ => (w.heap.size ≤ k_))) k_ ∧ some k_ ≠ (u7 : Value).ownBlock) rfl rfl ?aP (fun _ hk => hk) ?aF ?aO ?aB ?aS ?aL ?_; (case aP => exact (Kd.FK_slice_mk (Kd.V_reads' (Kd.V_mono (ok' := (fun k_ => ((fun k_ => (w.heap.size ≤ k_))) k_ ∧ some k_ ≠ (u7 : Value).ownBlock)) (HO398.out) (fun k_ hk => ⟨hk.1, hk.2⟩))).2.1 (Kd.V_F (Kd.V_mono (ok' := (fun k_ => ((fun k_ => (w.heap.size ≤ k_))) k_ ∧ some k_ ≠ (u7 : Value).ownBlock)) (HO398.out) (fun k_ hk => ⟨hk.1, hk.2⟩))))); (case aB => exact (zm HB)); (case aF => exact (fun k_ hk => (Nat.le_trans (below_size (zm HB)) hk))); (case aO => exact (by (with_reducible repeat (first | apply Kd.N_alloc | apply Kd.N_drewN | apply Kd.N_drew)); exact HO_7.out)); (case aS => exact (below_size (zm HB))); (case aL => have := LMc24.out; omega); intro v400 w27 ho hb hg hat; rw [← Ny399.out] at ho; have HO401 := za (ho); replace HO_6 := za (Kd.R_over' (by (with_reducible repeat (first | apply Kd.R_alloc | apply Kd.R_drewN | apply Kd.R_drew)); exact HO_6.out) (Kd.N_typed (by (with_reducible repeat (first | apply Kd.N_alloc | apply Kd.N_drewN | apply Kd.N_drew)); exact HO_7.out)) (by decide) hg); replace HO398 := za (Kd.V_afterv (ok := (fun k_ => (w.heap.size ≤ k_))) (by (with_reducible repeat (first | apply Kd.V_alloc | apply Kd.V_drewN | apply Kd.V_drew)); exact HO398.out) hg hat); replace HB := za (hb); clear HO_7 ho hb hg hat))
               go_quiet (fail)
               go_wp2_with (first | ((with_reducible refine gate_builtin (b := .append) (xs := #[.tmp 42, .tmp 48]) rfl ?_); at_builtin; refine Kd.N_append (Kd.slice 3 (Kd.int .i64)) (w0 := w) w.heap.size rfl (.tmp 42) (.tmp 48) 47 28 (.slice none 0 0) 24 rfl Try.underlying47 info28 rfl (by decide) (by omega) u7 x7_1 y394 [.slice A25 y394.length y394.length] (fun k_ => (w.heap.size ≤ k_)) (fun k_ => ((fun k_ => (w.heap.size ≤ k_))) k_ ∧ some k_ ≠ (u7 : Value).ownBlock) rfl rfl ?aP (fun _ hk => hk) ?aF ?aO ?aB ?aS ?aL ?_; (case aP => exact (Kd.FK_slice_mk (Kd.V_reads' (Kd.V_mono (ok' := (fun k_ => ((fun k_ => (w.heap.size ≤ k_))) k_ ∧ some k_ ≠ (u7 : Value).ownBlock)) (HO398.out) (fun k_ hk => ⟨hk.1, hk.2⟩))).2.1 (Kd.V_F (Kd.V_mono (ok' := (fun k_ => ((fun k_ => (w.heap.size ≤ k_))) k_ ∧ some k_ ≠ (u7 : Value).ownBlock)) (Kd.V_drewN HO398.out _) (fun k_ hk => ⟨hk.1, hk.2⟩))))); (case aB => exact (zm HB)); (case aF => exact (fun k_ hk => (Nat.le_trans (below_size (zm HB)) hk))); (case aO => exact (by (with_reducible repeat (first | apply Kd.N_alloc | apply Kd.N_drewN | apply Kd.N_drew)); exact HO_7.out)); (case aS => exact (below_size (zm HB))); (case aL => have := LMc24.out; omega); intro v400 w27 ho hb hg hat; rw [← Ny399.out] at ho; have HO401 := za (ho); replace HO_6 := za (Kd.R_over' (by (with_reducible repeat (first | apply Kd.R_alloc | apply Kd.R_drewN | apply Kd.R_drew)); exact HO_6.out) (Kd.N_typed (by (with_reducible repeat (first | apply Kd.N_alloc | apply Kd.N_drewN | apply Kd.N_drew)); exact HO_7.out)) (by decide) hg); replace HO398 := za (Kd.V_afterv (ok := (fun k_ => (w.heap.size ≤ k_))) (by (with_reducible repeat (first | apply Kd.V_alloc | apply Kd.V_drewN | apply Kd.V_drew)); exact HO398.out) hg hat); replace HB := za (hb); clear HO_7 ho hb hg hat))
               go_roundg k1
               case measure => have := HK1.out; omega
               case rel => exact ⟨(y399), (ji15), (ji15), (by first | rfl | (simp; done) | (simp only [← hji15] <;> (first | rfl | simp)) | (simp [*]; done)), (by first | rfl | (simp; done) | (simp only [← hji15] <;> (first | rfl | simp)) | (simp [*]; done)), H', ⟨by have := HK1.out; omega⟩, ⟨by (with_reducible repeat (first | apply Kd.R_alloc | apply Kd.R_drewN | apply Kd.R_drew)); exact HO_6.out⟩, ⟨by (with_reducible repeat (first | apply Kd.N_alloc | apply Kd.N_drewN | apply Kd.N_drew)); exact HO401.out⟩, ⟨zm HB⟩⟩
              ·rw [if_neg c24] at H
               exact absurd H (by simp)
             ·rw [if_neg c23] at H
              exact absurd H (by simp)
            ·rw [if_neg c22] at H
             exact absurd H (by simp)
           ·rw [if_neg c21] at H
            exact absurd H (by simp)
         ·rw [if_neg c19] at H
          exact absurd H (by simp)
        ·rw [if_neg c18] at H
         exact absurd H (by simp)
       ·rw [if_neg c17] at H
        exact absurd H (by simp)
      ·rw [if_neg c16] at H
       exact absurd H (by simp)
    ·rw [if_neg c6] at H
     have c6b0 : decide (x20_1 < (l0.length : Int)) = false := decide_eq_false c6
     clear c6
     simp only [Option.some.injEq, Prod.mk.injEq] at H
     obtain ⟨rfl, rfl⟩ := H
     go_wp2
     repeat (go_quiet (fail); try go_wp2)
     go_ret2
     exact ⟨_, zf, by (with_reducible repeat (first | apply Kd.N_alloc | apply Kd.N_drewN | apply Kd.N_drew)); exact HO_7.out, zm HB⟩
 ·rw [if_neg c3] at H
  have c3b0 : ((l0.length : Int) == (l1.length : Int)) = false := beq_eq_false_iff_ne.mpr c3
  have c3b1 : ((l0.length : Int) != (l1.length : Int)) = true := bne_iff_ne.mpr c3
  have c3b2 : (l0.length == l1.length) = false := by first | simpa using c3 | (simp at c3 ⊢; omega)
  simp only [Option.some.injEq, Prod.mk.injEq] at H
  obtain ⟨rfl, rfl⟩ := H
  go_enter Try.func25, Try.ntmps25
  go_wp2
  repeat (go_quiet (fail); try go_wp2)
  go_ret2
  exact ⟨_, zf, by first | exact Kd.S_nil _ _ _ _ _ | exact Kd.N_nil _ _ _ _ _ | exact Kd.V_nil _ _ _ _ _ | exact Kd.Q_nil _ _ _ _ _ | exact Kd.R_nil _ _ _ _ _, zm HB⟩

end Go.Proofs.Ythbmpjglkbhhgaa.Print
