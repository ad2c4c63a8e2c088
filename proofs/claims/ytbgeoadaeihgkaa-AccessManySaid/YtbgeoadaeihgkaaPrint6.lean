-- Printed by a program of this session (wip/own_print.py) out of the translation; Lean checks it.
import Derived.Test.YtbgeoadaeihgkaaPrint0
import Derived.Test.YtbgeoadaeihgkaaPrint2
import Derived.Test.YtbgeoadaeihgkaaPrint3
import Derived.Test.YtbgeoadaeihgkaaPrint5
namespace Go.Proofs.Ytbgeoadaeihgkaa.Print
open Go.RowKit Go.Proofs.YtbgeoadaeihgkaaW.PrintWords Go.Proofs.YtbgeoadaeihgkaaW.PrintLast Go.Proofs.YtbgeoadaeihgkaaW.PrintMore
attribute [local go_sem] max2_int min2_int max_two min_two max_three min_three max_four min_four   -- for this text's walks alone
set_option linter.unusedVariables false
set_option linter.unusedSimpArgs false

/-! ### awardingbodylaw14_AccessMany: function 4 -/
def awardingbodylaw14_AccessMany.l0 : Nat → List (S28) → Int → Option (Bool)
  | 0, _, _ => none
  | k + 1, x3, x4 => if x4 > 0 then (if x3.length < 4398046511104 then (awardingbodylaw14_AccessMany.l0 k (x3 ++ [(⟨1, 1, 0, 0⟩ : S28)]) (wrap64 (x4 - 1))) else (none)) else (if (x3.length : Int) > 12 then ((access_Check.f k x3).bind fun t222 => (if t222 = 3 then ((awardingbodylaw14_awake.f k).bind fun t223 => (some t223)) else (none))) else ((access_Check.f k x3).bind fun t224 => (if t224 = 0 then ((awardingbodylaw14_awake.f k).bind fun t225 => (some t225)) else (none))))
def awardingbodylaw14_AccessMany.f (k : Nat) (a0 : Int) : Option (Bool) := (awardingbodymake_Cut.f a0 5).bind fun t218 => (awardingbodylaw14_AccessMany.l0 k ([] : List (S28)) (wrap64 (10 + t218)))
theorem awardingbodylaw14_AccessMany.mono_l : ∀ k, (∀ y0 y1, LeO (awardingbodylaw14_AccessMany.l0 k y0 y1) (awardingbodylaw14_AccessMany.l0 (k + 1) y0 y1))
  | 0 => fun _ _ r h => by simp [awardingbodylaw14_AccessMany.l0] at h
  | k + 1 => by
    have ih0 := awardingbodylaw14_AccessMany.mono_l k
    · intro y0 y1
      unfold awardingbodylaw14_AccessMany.l0
      repeat' first
      | (with_reducible exact ih0 _ _)
      | (with_reducible exact access_Check.mono _ _)
      | (with_reducible exact awardingbodylaw14_awake.mono _)
      | (with_reducible exact LeO.refl _)
      | (with_reducible exact LeO.none _)
      | (with_reducible refine LeO.ite ?_ ?_)
      | (with_reducible refine LeO.bind ?_ (fun _ => ?_))
      | exact ih0 _ _
      | exact access_Check.mono _ _
      | exact awardingbodylaw14_awake.mono _
      | exact LeO.none _
      | refine LeO.ite ?_ ?_
      | refine LeO.bind ?_ (fun _ => ?_)
theorem awardingbodylaw14_AccessMany.mono : ∀ a0 k, LeO (awardingbodylaw14_AccessMany.f k a0) (awardingbodylaw14_AccessMany.f (k + 1) a0) := by
  intro a0 k
  have ih0 := awardingbodylaw14_AccessMany.mono_l k
  unfold awardingbodylaw14_AccessMany.f
  repeat' first
      | (with_reducible exact ih0 _ _)
      | (with_reducible exact access_Check.mono _ _)
      | (with_reducible exact awardingbodylaw14_awake.mono _)
      | (with_reducible exact LeO.refl _)
      | (with_reducible exact LeO.none _)
      | (with_reducible refine LeO.ite ?_ ?_)
      | (with_reducible refine LeO.bind ?_ (fun _ => ?_))
      | exact ih0 _ _
      | exact access_Check.mono _ _
      | exact awardingbodylaw14_awake.mono _
      | exact LeO.none _
      | refine LeO.ite ?_ ?_
      | refine LeO.bind ?_ (fun _ => ?_)
set_option maxHeartbeats 8000000 in
set_option maxRecDepth 100000 in
theorem awardingbodylaw14_AccessMany.calls (k : Nat) (a0 : Int) (r : Bool) (w : World) (h : awardingbodylaw14_AccessMany.f k a0 = some r) :
    Calls Try.prog 4 #[.int .i64 a0] w fun e w' => e = .returned (.bool r) ∧ Below w.heap.size w w' := by
 have hu28 := Try.underlying28
 have HB := Aside0.mk (Below.refl w.heap.size w)
 have H : ((awardingbodymake_Cut.f a0 5).bind fun t218 => (awardingbodylaw14_AccessMany.l0 k ([] : List (S28)) (wrap64 (10 + t218)))) = some r := h
 clear h
 replace H := Option.bind_eq_some_iff.mp H
 obtain ⟨t218, A20, H⟩ := H
 replace H : (awardingbodylaw14_AccessMany.l0 k ([] : List (S28)) (wrap64 (10 + t218))) = some r := H
 have A2 := Aside0.mk A20
 clear A20
 have H' := Aside0.mk H
 clear H
 go_enter Try.func4, Try.ntmps4
 go_wp2_with (first | ((with_reducible refine gate_callee (f := 17) rfl ?_); refine goesL_ (some 7) rfl rfl Try.func17 (by kernel_rfl) rfl #[.int .i64 a0, .int .i64 5] rfl (by (try simp only [List.map_toArray, List.map_cons, List.map_nil]); first | done | rfl | (simp only [List.length_drop, List.length_take]; rfl)) ?_; (with_reducible refine (awardingbodymake_Cut.calls a0 5 t218 _ A2.out).mono ?_); rintro e w' ⟨rfl, ⟨nd, rfl⟩⟩; refine ⟨_, rfl, ?_⟩))
 go_loopg [3, 4] k (fun kq v3 v4 w' => ∃ (x3_1 : List (S28)) (x4_1 : Int), v4 = .int .i64 x4_1 ∧ Aside0 (awardingbodylaw14_AccessMany.l0 kq x3_1 x4_1 = some r) ∧ Aside0 (kq ≤ k) ∧ Aside0 (Kd.R k28 28 w' w.heap.size (fun _ => True) v3 x3_1) ∧ Aside0 (Below w.heap.size w w'))
 case atStart => exact ⟨(([] : List (S28))), (wrap64 (10 + t218)), (by first | rfl | (simp; done) | (simp [*]; done)), H', ⟨Nat.le_refl _⟩, ⟨by first | exact Kd.R_nil _ _ _ _ _ | exact Kd.N_nil _ _ _ _ _ | exact Kd.V_nil _ _ _ _ _ | exact Kd.Q_nil _ _ _ _ _ | exact Kd.S_nil _ _ _ _ _⟩, ⟨by repeat (first | (with_reducible first | exact HB.out | apply below_alloc | apply pw_below_drewN | apply below_drew1) | exact HB.out)⟩⟩
 case round =>
  clear H'
  try clear c1
  try clear p2
  obtain ⟨x3_1, x4_1, rfl, HA, HK1, HO_3, HB⟩ := hrel
  cases gk with
  | zero => exact absurd HA.out (by simp [awardingbodylaw14_AccessMany.l0])
  | succ k1 =>
   have H := HA.out
   clear HA
   simp only [awardingbodylaw14_AccessMany.l0] at H
   by_cases c3 : x4_1 > 0
   ·rw [if_pos c3] at H
    have c3b0 : decide (0 < x4_1) = true := decide_eq_true c3
    clear c3
    by_cases c4 : x3_1.length < 4398046511104
    ·rw [if_pos c4] at H
     have LMc4 := Aside0.mk c4
     clear c4
     obtain ⟨y219, hy219⟩ : ∃ y_ : List (S28), y_ = (x3_1 ++ [(⟨1, 1, 0, 0⟩ : S28)]) := ⟨_, rfl⟩
     replace H : (awardingbodylaw14_AccessMany.l0 k1 y219 (wrap64 (x4_1 - 1))) = some r := by first | (rw [hy219]; with_reducible exact H) | (have H2_ := (Option.bind_some _ _).symm.trans H; rw [hy219]; with_reducible exact H2_) | (have H2_ := (Option.bind_some _ _).symm.trans H; with_reducible exact H2_) | with_reducible exact H | (rw [hy219]; exact H) | exact H
     have Ny219 := Aside0.mk hy219
     clear hy219
     have H' := Aside0.mk H
     clear H
     go_wp2_with (first | ((with_reducible refine gate_builtin (b := .append) (xs := #[.tmp 13, .tmp 15]) rfl ?_); at_builtin; refine Kd.R_append k28 (w0 := w) w.heap.size rfl (.tmp 13) (.tmp 15) 23 28 (.agg #[(.int .i64 0), (.int .i64 0), (.int .i64 0), (.int .i64 0)]) 32 rfl Try.underlying23 info28 rfl (by decide) (by omega) u3 x3_1 (⟨1, 1, 0, 0⟩ : S28) [.int .i64 1, .int .i64 1, .int .i64 0, .int .i64 0] (fun _ => True) (fun _ => False) rfl rfl ?aP (fun _ hk => hk.elim) ?aF ?aO ?aB ?aS ?aL ?_; (case aP => exact k28_mkM _ _ _ (⟨1, 1, 0, 0⟩ : S28)); (case aB => exact (by repeat (first | (with_reducible first | exact HB.out | apply below_alloc | apply pw_below_drewN | apply below_drew1) | exact HB.out))); (case aF => exact (fun _ _ => trivial)); (case aO => exact (by (with_reducible repeat (first | apply Kd.R_alloc | apply Kd.R_drewN | apply Kd.R_drew)); exact HO_3.out)); (case aS => exact (below_size (by repeat (first | (with_reducible first | exact HB.out | apply below_alloc | apply pw_below_drewN | apply below_drew1) | exact HB.out)))); (case aL => have := LMc4.out; omega); intro v220 w5 ho hb hg hat; rw [← Ny219.out] at ho; have n0_ := Aside0.mk (hb); have n1_ := Aside0.mk (ho); clear HB; clear HO_3; have HB := n0_; have HO221 := n1_; clear n0_ n1_; clear ho hb hg hat))
     go_roundg k1
     case measure => have := HK1.out; omega
     case rel => exact ⟨(y219), (wrap64 (x4_1 - 1)), (by first | rfl | (simp; done) | (simp [*]; done)), H', ⟨by have := HK1.out; omega⟩, ⟨by (with_reducible repeat (first | apply Kd.R_alloc | apply Kd.R_drewN | apply Kd.R_drew)); exact HO221.out⟩, ⟨by repeat (first | (with_reducible first | exact HB.out | apply below_alloc | apply pw_below_drewN | apply below_drew1) | exact HB.out)⟩⟩
    ·rw [if_neg c4] at H
     exact absurd H (by simp)
   ·rw [if_neg c3] at H
    have c3b0 : decide (0 < x4_1) = false := decide_eq_false c3
    clear c3
    by_cases c6 : (x3_1.length : Int) > 12
    ·rw [if_pos c6] at H
     have c6b0 : decide (12 < (x3_1.length : Int)) = true := decide_eq_true c6
     have c6b1 : decide (12 < x3_1.length) = true := decide_eq_true (by omega)
     clear c6
     replace H := Option.bind_eq_some_iff.mp H
     obtain ⟨t222, A70, H⟩ := H
     replace H : (if t222 = 3 then ((awardingbodylaw14_awake.f k1).bind fun t223 => (some t223)) else (none)) = some r := H
     have A7 := Aside0.mk A70
     clear A70
     by_cases c8 : t222 = 3
     ·rw [if_pos c8] at H
      have c8b0 : (t222 == 3) = true := beq_iff_eq.mpr c8
      have c8b1 : (t222 != 3) = false := bne_eq_false_iff_eq.mpr c8
      clear c8
      replace H := Option.bind_eq_some_iff.mp H
      obtain ⟨t223, A90, H⟩ := H
      replace H : (some t223) = some r := H
      have A9 := Aside0.mk A90
      clear A90
      obtain rfl := Option.some.inj H
      obtain ⟨Ao10, co10, eo10⟩ := Kd.R_slice HO_3.out
      subst eo10
      go_wp2_with (first | ((with_reducible refine gate_callee (f := 14) rfl ?_); refine goesL_ (some 21) rfl rfl Try.func14 (by kernel_rfl) rfl #[.slice Ao10 x3_1.length co10] rfl (by (try simp only [List.map_toArray, List.map_cons, List.map_nil]); first | done | rfl | (simp only [List.length_drop, List.length_take]; rfl)) ?_; (with_reducible refine (access_Check.calls k1 _ _ x3_1 t222 _ ?side1 ?side2 A7.out).mono ?_); (case side1 => repeat (first | exact (Kd.R_reads' HO_3.out).2.2 | (with_reducible refine Kd.C_alloc ?_ _) | (with_reducible refine Kd.C_drewN ?_ _) | (with_reducible refine Kd.C_drew ?_))); (case side2 => exact (Kd.R_reads' HO_3.out).2.1); rintro e w11 ⟨rfl, hb⟩; refine ⟨_, rfl, ?_⟩; have n0_ := Aside0.mk (Kd.R_below (by (with_reducible repeat (first | apply Kd.R_alloc | apply Kd.R_drewN | apply Kd.R_drew)); exact HO_3.out) hb); have n1_ := Aside0.mk (below_step (by repeat (first | (with_reducible first | exact HB.out | apply below_alloc | apply pw_below_drewN | apply below_drew1) | exact HB.out)) hb); clear HO_3; clear HB; have HO_3 := n0_; have HB := n1_; clear n0_ n1_; (try clear hb); (try clear hb2); (try clear hk); (try clear hi)) | (go_at_call 16; (with_reducible refine (awardingbodylaw14_awake.calls k1  t223 _ A9.out).mono ?_); rintro e w12 ⟨rfl, hb⟩; have n0_ := Aside0.mk (Kd.R_below (by (with_reducible repeat (first | apply Kd.R_alloc | apply Kd.R_drewN | apply Kd.R_drew)); exact HO_3.out) hb); have n1_ := Aside0.mk (below_step (by repeat (first | (with_reducible first | exact HB.out | apply below_alloc | apply pw_below_drewN | apply below_drew1) | exact HB.out)) hb); clear HO_3; clear HB; have HO_3 := n0_; have HB := n1_; clear n0_ n1_; (try clear hb); (try clear hb2); (try clear hk); (try clear hi)))
      go_ret
      exact ⟨by first | rfl | (simp [errW_none, errW_some] <;> rfl) | (simp [*, errW_none, errW_some] <;> rfl), by repeat (first | (with_reducible first | exact HB.out | apply below_alloc | apply pw_below_drewN | apply below_drew1) | exact HB.out)⟩
     ·rw [if_neg c8] at H
      exact absurd H (by simp)
    ·rw [if_neg c6] at H
     have c6b0 : decide (12 < (x3_1.length : Int)) = false := decide_eq_false c6
     have c6b1 : decide (12 < x3_1.length) = false := decide_eq_false (by omega)
     clear c6
     replace H := Option.bind_eq_some_iff.mp H
     obtain ⟨t224, A130, H⟩ := H
     replace H : (if t224 = 0 then ((awardingbodylaw14_awake.f k1).bind fun t225 => (some t225)) else (none)) = some r := H
     have A13 := Aside0.mk A130
     clear A130
     by_cases c14 : t224 = 0
     ·rw [if_pos c14] at H
      have c14b0 : (t224 == 0) = true := beq_iff_eq.mpr c14
      have c14b1 : (t224 != 0) = false := bne_eq_false_iff_eq.mpr c14
      clear c14
      replace H := Option.bind_eq_some_iff.mp H
      obtain ⟨t225, A150, H⟩ := H
      replace H : (some t225) = some r := H
      have A15 := Aside0.mk A150
      clear A150
      obtain rfl := Option.some.inj H
      obtain ⟨Ao16, co16, eo16⟩ := Kd.R_slice HO_3.out
      subst eo16
      go_wp2_with (first | ((with_reducible refine gate_callee (f := 14) rfl ?_); refine goesL_ (some 21) rfl rfl Try.func14 (by kernel_rfl) rfl #[.slice Ao16 x3_1.length co16] rfl (by (try simp only [List.map_toArray, List.map_cons, List.map_nil]); first | done | rfl | (simp only [List.length_drop, List.length_take]; rfl)) ?_; (with_reducible refine (access_Check.calls k1 _ _ x3_1 t224 _ ?side1 ?side2 A13.out).mono ?_); (case side1 => repeat (first | exact (Kd.R_reads' HO_3.out).2.2 | (with_reducible refine Kd.C_alloc ?_ _) | (with_reducible refine Kd.C_drewN ?_ _) | (with_reducible refine Kd.C_drew ?_))); (case side2 => exact (Kd.R_reads' HO_3.out).2.1); rintro e w17 ⟨rfl, hb⟩; refine ⟨_, rfl, ?_⟩; have n0_ := Aside0.mk (Kd.R_below (by (with_reducible repeat (first | apply Kd.R_alloc | apply Kd.R_drewN | apply Kd.R_drew)); exact HO_3.out) hb); have n1_ := Aside0.mk (below_step (by repeat (first | (with_reducible first | exact HB.out | apply below_alloc | apply pw_below_drewN | apply below_drew1) | exact HB.out)) hb); clear HO_3; clear HB; have HO_3 := n0_; have HB := n1_; clear n0_ n1_; (try clear hb); (try clear hb2); (try clear hk); (try clear hi)) | (go_at_call 16; (with_reducible refine (awardingbodylaw14_awake.calls k1  t225 _ A15.out).mono ?_); rintro e w18 ⟨rfl, hb⟩; have n0_ := Aside0.mk (Kd.R_below (by (with_reducible repeat (first | apply Kd.R_alloc | apply Kd.R_drewN | apply Kd.R_drew)); exact HO_3.out) hb); have n1_ := Aside0.mk (below_step (by repeat (first | (with_reducible first | exact HB.out | apply below_alloc | apply pw_below_drewN | apply below_drew1) | exact HB.out)) hb); clear HO_3; clear HB; have HO_3 := n0_; have HB := n1_; clear n0_ n1_; (try clear hb); (try clear hb2); (try clear hk); (try clear hi)))
      go_ret
      exact ⟨by first | rfl | (simp [errW_none, errW_some] <;> rfl) | (simp [*, errW_none, errW_some] <;> rfl), by repeat (first | (with_reducible first | exact HB.out | apply below_alloc | apply pw_below_drewN | apply below_drew1) | exact HB.out)⟩
     ·rw [if_neg c14] at H
      exact absurd H (by simp)

/-- THE ONE PURE STATEMENT of awardingbodylaw14_AccessMany: yours. -/
def awardingbodylaw14_AccessMany.Pure : Prop := ∀ (a0 : Int), (Lit.int .i64 a0).wf = true → ∃ k, awardingbodylaw14_AccessMany.f k a0 = some true
theorem awardingbodylaw14_AccessMany.walk (P : awardingbodylaw14_AccessMany.Pure) (a0 : Int) (w : World) (w0 : (Lit.int .i64 a0).wf = true) :
  Calls Try.prog 4 #[.int .i64 a0] w fun e w' => e = .returned (.bool true) ∧ Below w.heap.size w w' := by
 obtain ⟨k, h⟩ := P a0 w0
 refine (awardingbodylaw14_AccessMany.calls k a0 true w h).mono ?_
 rintro e w' ⟨rfl, hd⟩
 exact ⟨rfl, hd⟩

end Go.Proofs.Ytbgeoadaeihgkaa.Print
