-- Printed by a program of this session (wip/own_print.py) out of the translation; Lean checks it.
import Derived.Test.YtinmdoemkejanaaPrint0
import Derived.Test.YtinmdoemkejanaaPrint2
namespace Go.Proofs.Ytinmdoemkejanaa.Print
open Go.RowKit Go.Proofs.YtinmdoemkejanaaW.PrintWords Go.Proofs.YtinmdoemkejanaaW.PrintLast Go.Proofs.YtinmdoemkejanaaW.PrintMore
attribute [local go_sem] max2_int min2_int max_two min_two max_three min_three max_four min_four   -- for this text's walks alone
set_option linter.unusedVariables false
set_option linter.unusedSimpArgs false

/-! ### awardingbodyref06_Check: function 20 -/
mutual
def awardingbodyref06_Check.j0 : Nat → Bool → Int → Int → ByteArray → List (S23) → List Int → Option (Int)
  | 0, _, _, _, _, _, _ => none
  | k + 1, x23, x314000, x314001, x314002, x314003, x314004 => if x23 = true then (some 2) else (if (x314002.size : Int) > 40 then (awardingbodyref06_Check.j1 k true x314000 x314001 x314002 x314003 x314004) else (if (x314003.length : Int) > 6 then (awardingbodyref06_Check.j1 k true x314000 x314001 x314002 x314003 x314004) else (awardingbodyref06_Check.j1 k (decide ((x314004.length : Int) > 8)) x314000 x314001 x314002 x314003 x314004)))
def awardingbodyref06_Check.j1 : Nat → Bool → Int → Int → ByteArray → List (S23) → List Int → Option (Int)
  | 0, _, _, _, _, _, _ => none
  | k + 1, x39, x314000, x314001, x314002, x314003, x314004 => if x39 = true then (some 3) else (if x314002.toList = ([] : List UInt8) then (some 7) else (awardingbodyref06_Check.l0 k 0 x314000 x314001 x314002 x314003 x314004))
def awardingbodyref06_Check.l0 : Nat → Int → Int → Int → ByteArray → List (S23) → List Int → Option (Int)
  | 0, _, _, _, _, _, _ => none
  | k + 1, x3, x314000, x314001, x314002, x314003, x314004 => if x3 < (x314002.size : Int) then (if 0 ≤ x3 then (if (bt x314002 x3) < 32 then (some 7) else (if (bt x314002 x3) > 126 then (some 7) else (awardingbodyref06_Check.l0 k (wrap64 (x3 + 1)) x314000 x314001 x314002 x314003 x314004))) else (none)) else (if (x314003.length : Int) = 0 then (some 10) else (awardingbodyref06_Check.l1 k 0 x314000 x314001 x314002 x314003 x314004))
def awardingbodyref06_Check.l1 : Nat → Int → Int → Int → ByteArray → List (S23) → List Int → Option (Int)
  | 0, _, _, _, _, _, _ => none
  | k + 1, x4, x314000, x314001, x314002, x314003, x314004 => if x4 < (x314003.length : Int) then (if 0 ≤ x4 then ((awardingbodyref06_ValidPart.f k ((rd_T23 x314003 x4).f0) ((rd_T23 x314003 x4).f1) ((rd_T23 x314003 x4).f2) ((rd_T23 x314003 x4).f3) ((rd_T23 x314003 x4).f4) ((rd_T23 x314003 x4).f5)).bind fun t315 => (if t315 = true then (awardingbodyref06_Check.l1 k (wrap64 (x4 + 1)) x314000 x314001 x314002 x314003 x314004) else (some 1))) else (none)) else (awardingbodyref06_Check.l2 k 0 x314000 x314001 x314002 x314003 x314004)
def awardingbodyref06_Check.l2 : Nat → Int → Int → Int → ByteArray → List (S23) → List Int → Option (Int)
  | 0, _, _, _, _, _, _ => none
  | k + 1, x5, x314000, x314001, x314002, x314003, x314004 => if x5 < (x314004.length : Int) then (if 0 ≤ x5 then (if (rd x314004 x5) < 0 then (some 9) else (if (rd x314004 x5) > 9999 then (some 9) else (if (rd x314004 x5) = x314000 then (some 9) else (if x5 > 0 then (if 0 ≤ (wrap64 (x5 - 1)) then (if (wrap64 (x5 - 1)) < (x314004.length : Int) then (if (rd x314004 (wrap64 (x5 - 1))) ≥ (rd x314004 x5) then (some 9) else (awardingbodyref06_Check.l2 k (wrap64 (x5 + 1)) x314000 x314001 x314002 x314003 x314004)) else (none)) else (none)) else (awardingbodyref06_Check.l2 k (wrap64 (x5 + 1)) x314000 x314001 x314002 x314003 x314004))))) else (none)) else (some 0)
end
def awardingbodyref06_Check.f (k : Nat) (a0_0 : Int) (a0_1 : Int) (a0_2 : ByteArray) (l0_3 : List (S23)) (l0_4 : List Int) : Option (Int) := if a0_0 < 0 then (awardingbodyref06_Check.j0 k true a0_0 a0_1 a0_2 l0_3 l0_4) else (if a0_0 > 9999 then (awardingbodyref06_Check.j0 k true a0_0 a0_1 a0_2 l0_3 l0_4) else (if a0_1 < 1 then (awardingbodyref06_Check.j0 k true a0_0 a0_1 a0_2 l0_3 l0_4) else (awardingbodyref06_Check.j0 k (decide (a0_1 > 8)) a0_0 a0_1 a0_2 l0_3 l0_4)))
theorem awardingbodyref06_Check.mono_l : ∀ k, (∀ y0 y1 y2 y3 y4 y5, LeO (awardingbodyref06_Check.j0 k y0 y1 y2 y3 y4 y5) (awardingbodyref06_Check.j0 (k + 1) y0 y1 y2 y3 y4 y5)) ∧ (∀ y0 y1 y2 y3 y4 y5, LeO (awardingbodyref06_Check.j1 k y0 y1 y2 y3 y4 y5) (awardingbodyref06_Check.j1 (k + 1) y0 y1 y2 y3 y4 y5)) ∧ (∀ y0 y1 y2 y3 y4 y5, LeO (awardingbodyref06_Check.l0 k y0 y1 y2 y3 y4 y5) (awardingbodyref06_Check.l0 (k + 1) y0 y1 y2 y3 y4 y5)) ∧ (∀ y0 y1 y2 y3 y4 y5, LeO (awardingbodyref06_Check.l1 k y0 y1 y2 y3 y4 y5) (awardingbodyref06_Check.l1 (k + 1) y0 y1 y2 y3 y4 y5)) ∧ (∀ y0 y1 y2 y3 y4 y5, LeO (awardingbodyref06_Check.l2 k y0 y1 y2 y3 y4 y5) (awardingbodyref06_Check.l2 (k + 1) y0 y1 y2 y3 y4 y5))
  | 0 => ⟨fun _ _ _ _ _ _ r h => by simp [awardingbodyref06_Check.j0] at h, fun _ _ _ _ _ _ r h => by simp [awardingbodyref06_Check.j1] at h, fun _ _ _ _ _ _ r h => by simp [awardingbodyref06_Check.l0] at h, fun _ _ _ _ _ _ r h => by simp [awardingbodyref06_Check.l1] at h, fun _ _ _ _ _ _ r h => by simp [awardingbodyref06_Check.l2] at h⟩
  | k + 1 => by
    obtain ⟨ih0, ih1, ih2, ih3, ih4⟩ := awardingbodyref06_Check.mono_l k
    refine ⟨?_, ?_, ?_, ?_, ?_⟩
    · intro y0 y1 y2 y3 y4 y5
      unfold awardingbodyref06_Check.j0
      repeat' first
      | (with_reducible exact ih0 _ _ _ _ _ _)
      | (with_reducible exact ih1 _ _ _ _ _ _)
      | (with_reducible exact ih2 _ _ _ _ _ _)
      | (with_reducible exact ih3 _ _ _ _ _ _)
      | (with_reducible exact ih4 _ _ _ _ _ _)
      | (with_reducible exact awardingbodyref06_ValidPart.mono _ _ _ _ _ _ _)
      | (with_reducible exact LeO.refl _)
      | (with_reducible exact LeO.none _)
      | (with_reducible refine LeO.ite ?_ ?_)
      | (with_reducible refine LeO.bind ?_ (fun _ => ?_))
      | exact ih0 _ _ _ _ _ _
      | exact ih1 _ _ _ _ _ _
      | exact ih2 _ _ _ _ _ _
      | exact ih3 _ _ _ _ _ _
      | exact ih4 _ _ _ _ _ _
      | exact awardingbodyref06_ValidPart.mono _ _ _ _ _ _ _
      | exact LeO.none _
      | refine LeO.ite ?_ ?_
      | refine LeO.bind ?_ (fun _ => ?_)
    · intro y0 y1 y2 y3 y4 y5
      unfold awardingbodyref06_Check.j1
      repeat' first
      | (with_reducible exact ih0 _ _ _ _ _ _)
      | (with_reducible exact ih1 _ _ _ _ _ _)
      | (with_reducible exact ih2 _ _ _ _ _ _)
      | (with_reducible exact ih3 _ _ _ _ _ _)
      | (with_reducible exact ih4 _ _ _ _ _ _)
      | (with_reducible exact awardingbodyref06_ValidPart.mono _ _ _ _ _ _ _)
      | (with_reducible exact LeO.refl _)
      | (with_reducible exact LeO.none _)
      | (with_reducible refine LeO.ite ?_ ?_)
      | (with_reducible refine LeO.bind ?_ (fun _ => ?_))
      | exact ih0 _ _ _ _ _ _
      | exact ih1 _ _ _ _ _ _
      | exact ih2 _ _ _ _ _ _
      | exact ih3 _ _ _ _ _ _
      | exact ih4 _ _ _ _ _ _
      | exact awardingbodyref06_ValidPart.mono _ _ _ _ _ _ _
      | exact LeO.none _
      | refine LeO.ite ?_ ?_
      | refine LeO.bind ?_ (fun _ => ?_)
    · intro y0 y1 y2 y3 y4 y5
      unfold awardingbodyref06_Check.l0
      repeat' first
      | (with_reducible exact ih0 _ _ _ _ _ _)
      | (with_reducible exact ih1 _ _ _ _ _ _)
      | (with_reducible exact ih2 _ _ _ _ _ _)
      | (with_reducible exact ih3 _ _ _ _ _ _)
      | (with_reducible exact ih4 _ _ _ _ _ _)
      | (with_reducible exact awardingbodyref06_ValidPart.mono _ _ _ _ _ _ _)
      | (with_reducible exact LeO.refl _)
      | (with_reducible exact LeO.none _)
      | (with_reducible refine LeO.ite ?_ ?_)
      | (with_reducible refine LeO.bind ?_ (fun _ => ?_))
      | exact ih0 _ _ _ _ _ _
      | exact ih1 _ _ _ _ _ _
      | exact ih2 _ _ _ _ _ _
      | exact ih3 _ _ _ _ _ _
      | exact ih4 _ _ _ _ _ _
      | exact awardingbodyref06_ValidPart.mono _ _ _ _ _ _ _
      | exact LeO.none _
      | refine LeO.ite ?_ ?_
      | refine LeO.bind ?_ (fun _ => ?_)
    · intro y0 y1 y2 y3 y4 y5
      unfold awardingbodyref06_Check.l1
      repeat' first
      | (with_reducible exact ih0 _ _ _ _ _ _)
      | (with_reducible exact ih1 _ _ _ _ _ _)
      | (with_reducible exact ih2 _ _ _ _ _ _)
      | (with_reducible exact ih3 _ _ _ _ _ _)
      | (with_reducible exact ih4 _ _ _ _ _ _)
      | (with_reducible exact awardingbodyref06_ValidPart.mono _ _ _ _ _ _ _)
      | (with_reducible exact LeO.refl _)
      | (with_reducible exact LeO.none _)
      | (with_reducible refine LeO.ite ?_ ?_)
      | (with_reducible refine LeO.bind ?_ (fun _ => ?_))
      | exact ih0 _ _ _ _ _ _
      | exact ih1 _ _ _ _ _ _
      | exact ih2 _ _ _ _ _ _
      | exact ih3 _ _ _ _ _ _
      | exact ih4 _ _ _ _ _ _
      | exact awardingbodyref06_ValidPart.mono _ _ _ _ _ _ _
      | exact LeO.none _
      | refine LeO.ite ?_ ?_
      | refine LeO.bind ?_ (fun _ => ?_)
    · intro y0 y1 y2 y3 y4 y5
      unfold awardingbodyref06_Check.l2
      repeat' first
      | (with_reducible exact ih0 _ _ _ _ _ _)
      | (with_reducible exact ih1 _ _ _ _ _ _)
      | (with_reducible exact ih2 _ _ _ _ _ _)
      | (with_reducible exact ih3 _ _ _ _ _ _)
      | (with_reducible exact ih4 _ _ _ _ _ _)
      | (with_reducible exact awardingbodyref06_ValidPart.mono _ _ _ _ _ _ _)
      | (with_reducible exact LeO.refl _)
      | (with_reducible exact LeO.none _)
      | (with_reducible refine LeO.ite ?_ ?_)
      | (with_reducible refine LeO.bind ?_ (fun _ => ?_))
      | exact ih0 _ _ _ _ _ _
      | exact ih1 _ _ _ _ _ _
      | exact ih2 _ _ _ _ _ _
      | exact ih3 _ _ _ _ _ _
      | exact ih4 _ _ _ _ _ _
      | exact awardingbodyref06_ValidPart.mono _ _ _ _ _ _ _
      | exact LeO.none _
      | refine LeO.ite ?_ ?_
      | refine LeO.bind ?_ (fun _ => ?_)
theorem awardingbodyref06_Check.mono : ∀ a0 a1 a2 a3 a4 k, LeO (awardingbodyref06_Check.f k a0 a1 a2 a3 a4) (awardingbodyref06_Check.f (k + 1) a0 a1 a2 a3 a4) := by
  intro a0 a1 a2 a3 a4 k
  obtain ⟨ih0, ih1, ih2, ih3, ih4⟩ := awardingbodyref06_Check.mono_l k
  unfold awardingbodyref06_Check.f
  repeat' first
      | (with_reducible exact ih0 _ _ _ _ _ _)
      | (with_reducible exact ih1 _ _ _ _ _ _)
      | (with_reducible exact ih2 _ _ _ _ _ _)
      | (with_reducible exact ih3 _ _ _ _ _ _)
      | (with_reducible exact ih4 _ _ _ _ _ _)
      | (with_reducible exact awardingbodyref06_ValidPart.mono _ _ _ _ _ _ _)
      | (with_reducible exact LeO.refl _)
      | (with_reducible exact LeO.none _)
      | (with_reducible refine LeO.ite ?_ ?_)
      | (with_reducible refine LeO.bind ?_ (fun _ => ?_))
      | exact ih0 _ _ _ _ _ _
      | exact ih1 _ _ _ _ _ _
      | exact ih2 _ _ _ _ _ _
      | exact ih3 _ _ _ _ _ _
      | exact ih4 _ _ _ _ _ _
      | exact awardingbodyref06_ValidPart.mono _ _ _ _ _ _ _
      | exact LeO.none _
      | refine LeO.ite ?_ ?_
      | refine LeO.bind ?_ (fun _ => ?_)
set_option maxHeartbeats 8000000 in
set_option maxRecDepth 100000 in
theorem awardingbodyref06_Check.calls (k : Nat) (a0_0 : Int) (a0_1 : Int) (a0_2 : ByteArray) (A0_3 : Option Addr) (c0_3 : Nat) (l0_3 : List (S23)) (A0_4 : Option Addr) (c0_4 : Nat) (l0_4 : List Int) (r : Int) (w : World) (hr0_3 : Kd.C k23 w A0_3 l0_3.length l0_3) (hc0_3 : l0_3.length ≤ c0_3) (hr0_4 : Kd.C (Kd.int .i64) w A0_4 l0_4.length l0_4) (hc0_4 : l0_4.length ≤ c0_4) (h : awardingbodyref06_Check.f k a0_0 a0_1 a0_2 l0_3 l0_4 = some r) :
    Calls Try.prog 20 #[.agg #[.int .i64 a0_0, .int .i64 a0_1, .string a0_2, .slice A0_3 l0_3.length c0_3, .slice A0_4 l0_4.length c0_4]] w fun e w' => e = .returned (.int .i64 r) ∧ Below w.heap.size w w' := by
 have hu33 := Try.underlying33
 have hu23 := Try.underlying23
 have HR0_3 := Aside0.mk hr0_3
 have HC0_3 := Aside0.mk hc0_3
 clear hr0_3 hc0_3
 have HR0_4 := Aside0.mk hr0_4
 have HC0_4 := Aside0.mk hc0_4
 clear hr0_4 hc0_4
 have HB := Aside0.mk (Below.refl w.heap.size w)
 have H : (if a0_0 < 0 then (awardingbodyref06_Check.j0 k true a0_0 a0_1 a0_2 l0_3 l0_4) else (if a0_0 > 9999 then (awardingbodyref06_Check.j0 k true a0_0 a0_1 a0_2 l0_3 l0_4) else (if a0_1 < 1 then (awardingbodyref06_Check.j0 k true a0_0 a0_1 a0_2 l0_3 l0_4) else (awardingbodyref06_Check.j0 k (decide (a0_1 > 8)) a0_0 a0_1 a0_2 l0_3 l0_4)))) = some r := h
 clear h
 have HC2 := Aside0.mk H
 clear H
 go_enter Try.func20, Try.ntmps20
 go_upto_region 1 with (first | ((with_reducible refine gate_dst (N := 1) rfl ?_); (try (refine gate_guard (by rfl) ?_; dsimp only)); refine box_event ?hg (N := 1) ?hd (cs := #[.int .i64 a0_0, .int .i64 a0_1, .string a0_2, .slice A0_3 l0_3.length c0_3, .slice A0_4 l0_4.length c0_4]) (t := 33) ?hr ?_; (case hd => rfl); (case hg => rfl); (case hr => first | (go_simp; done) | (go_simp; rfl)); intro gb313 hg w3 hbox hb; have n0_ := Aside0.mk (below_step (by repeat (first | (with_reducible first | exact HB.out | apply below_alloc | apply pw_below_drewN | apply below_drew1) | exact HB.out)) hb); have n1_ := Aside0.mk (hbox); have n2_ := Aside0.mk ((by rw [hg]; exact (below_size (by repeat (first | (with_reducible first | exact HB.out | apply below_alloc | apply pw_below_drewN | apply below_drew1) | exact HB.out))) : w.heap.size ≤ gb313)); have n3_ := Aside0.mk ((by rw [hg]; exact (below_size (by repeat (first | (with_reducible first | exact HB.out | apply below_alloc | apply pw_below_drewN | apply below_drew1) | exact HB.out))) : w.heap.size ≤ gb313)); clear HB; have HB := n0_; have BK313 := n1_; have GW313 := n2_; have GE313 := n3_; clear n0_ n1_ n2_ n3_ hb hbox hg))
 repeat (go_quiet (first | ((with_reducible refine gate_dst (N := 1) rfl ?_); (try (refine gate_guard (by rfl) ?_; dsimp only)); refine box_event ?hg (N := 1) ?hd (cs := #[.int .i64 a0_0, .int .i64 a0_1, .string a0_2, .slice A0_3 l0_3.length c0_3, .slice A0_4 l0_4.length c0_4]) (t := 33) ?hr ?_; (case hd => rfl); (case hg => rfl); (case hr => first | (go_simp; done) | (go_simp; rfl)); intro gb313 hg w3 hbox hb; have n0_ := Aside0.mk (below_step (by repeat (first | (with_reducible first | exact HB.out | apply below_alloc | apply pw_below_drewN | apply below_drew1) | exact HB.out)) hb); have n1_ := Aside0.mk (hbox); have n2_ := Aside0.mk ((by rw [hg]; exact (below_size (by repeat (first | (with_reducible first | exact HB.out | apply below_alloc | apply pw_below_drewN | apply below_drew1) | exact HB.out))) : w.heap.size ≤ gb313)); have n3_ := Aside0.mk ((by rw [hg]; exact (below_size (by repeat (first | (with_reducible first | exact HB.out | apply below_alloc | apply pw_below_drewN | apply below_drew1) | exact HB.out))) : w.heap.size ≤ gb313)); clear HB; have HB := n0_; have BK313 := n1_; have GW313 := n2_; have GE313 := n3_; clear n0_ n1_ n2_ n3_ hb hbox hg)); go_upto_region 1 with (first | ((with_reducible refine gate_dst (N := 1) rfl ?_); (try (refine gate_guard (by rfl) ?_; dsimp only)); refine box_event ?hg (N := 1) ?hd (cs := #[.int .i64 a0_0, .int .i64 a0_1, .string a0_2, .slice A0_3 l0_3.length c0_3, .slice A0_4 l0_4.length c0_4]) (t := 33) ?hr ?_; (case hd => rfl); (case hg => rfl); (case hr => first | (go_simp; done) | (go_simp; rfl)); intro gb313 hg w3 hbox hb; have n0_ := Aside0.mk (below_step (by repeat (first | (with_reducible first | exact HB.out | apply below_alloc | apply pw_below_drewN | apply below_drew1) | exact HB.out)) hb); have n1_ := Aside0.mk (hbox); have n2_ := Aside0.mk ((by rw [hg]; exact (below_size (by repeat (first | (with_reducible first | exact HB.out | apply below_alloc | apply pw_below_drewN | apply below_drew1) | exact HB.out))) : w.heap.size ≤ gb313)); have n3_ := Aside0.mk ((by rw [hg]; exact (below_size (by repeat (first | (with_reducible first | exact HB.out | apply below_alloc | apply pw_below_drewN | apply below_drew1) | exact HB.out))) : w.heap.size ≤ gb313)); clear HB; have HB := n0_; have BK313 := n1_; have GW313 := n2_; have GE313 := n3_; clear n0_ n1_ n2_ n3_ hb hbox hg)))
 (try simp only [Act.put, List.setIfInBounds_toArray, List.set_cons_zero, List.set_cons_succ])
 go_cut [23] (fun v23 wc => ∃ (kq : Nat) (x23_1 : Bool), v23 = .bool x23_1 ∧ Aside0 (awardingbodyref06_Check.j0 kq x23_1 a0_0 a0_1 a0_2 l0_3 l0_4 = some r) ∧ Aside0 (kq ≤ k) ∧ Aside0 (wc.heap[gb313]? = some (.cells #[.int .i64 a0_0, .int .i64 a0_1, .string a0_2, (.slice A0_3 l0_3.length c0_3), (.slice A0_4 l0_4.length c0_4)] 33 (0, 0))) ∧ Aside0 (Below w.heap.size w wc))
 case first =>
  have H := HC2.out
  clear HC2
  by_cases c4 : a0_0 < 0
  ·rw [if_pos c4] at H
   have c4b0 : decide (a0_0 < 0) = true := decide_eq_true c4
   clear c4
   (first | rw [c4b0] | (simp only [i64_w, i32_w]; rw [c4b0]) | skip)
   have H' := Aside0.mk H
   clear H
   have hcz5_0 : w3.cell? ⟨gb313, 0, none⟩ = some (.int .i64 a0_0) := (blk_cell BK313.out 0).trans rfl
   have hcz5_1 : w3.cell? ⟨gb313, 1, none⟩ = some (.int .i64 a0_1) := (blk_cell BK313.out 1).trans rfl
   have hcz5_2 : w3.cell? ⟨gb313, 2, none⟩ = some (.string a0_2) := (blk_cell BK313.out 2).trans rfl
   have hcz5_3 : w3.cell? ⟨gb313, 3, none⟩ = some (.slice A0_3 l0_3.length c0_3) := (blk_cell BK313.out 3).trans rfl
   have hcz5_4 : w3.cell? ⟨gb313, 4, none⟩ = some (.slice A0_4 l0_4.length c0_4) := (blk_cell BK313.out 4).trans rfl
   have hfz5_0 := blk_frozen BK313.out 0
   have hfz5_1 := blk_frozen BK313.out 1
   have hfz5_2 := blk_frozen BK313.out 2
   have hfz5_3 := blk_frozen BK313.out 3
   have hfz5_4 := blk_frozen BK313.out 4
   go_wp2
   repeat (go_quiet (fail); try go_wp2)
   go_meet
   case rel => exact ⟨_, (true), (by first | rfl | (simp; done) | (simp [*]; done)), H', ⟨by first | omega | exact Nat.le_refl _⟩, ⟨by (with_reducible repeat (first | refine blk_drewN ?_ _ | refine blk_drew ?_ | refine blk_alloc ?_ _)); exact BK313.out⟩, ⟨by repeat (first | (with_reducible first | exact HB.out | apply below_alloc | apply pw_below_drewN | apply below_drew1 | refine below_set ?_ GE313.out) | exact HB.out)⟩⟩
  ·rw [if_neg c4] at H
   have c4b0 : decide (a0_0 < 0) = false := decide_eq_false c4
   clear c4
   (first | rw [c4b0] | (simp only [i64_w, i32_w]; rw [c4b0]) | skip)
   by_cases c6 : a0_0 > 9999
   ·rw [if_pos c6] at H
    have c6b0 : decide (9999 < a0_0) = true := decide_eq_true c6
    clear c6
    have H' := Aside0.mk H
    clear H
    have hcz7_0 : w3.cell? ⟨gb313, 0, none⟩ = some (.int .i64 a0_0) := (blk_cell BK313.out 0).trans rfl
    have hcz7_1 : w3.cell? ⟨gb313, 1, none⟩ = some (.int .i64 a0_1) := (blk_cell BK313.out 1).trans rfl
    have hcz7_2 : w3.cell? ⟨gb313, 2, none⟩ = some (.string a0_2) := (blk_cell BK313.out 2).trans rfl
    have hcz7_3 : w3.cell? ⟨gb313, 3, none⟩ = some (.slice A0_3 l0_3.length c0_3) := (blk_cell BK313.out 3).trans rfl
    have hcz7_4 : w3.cell? ⟨gb313, 4, none⟩ = some (.slice A0_4 l0_4.length c0_4) := (blk_cell BK313.out 4).trans rfl
    have hfz7_0 := blk_frozen BK313.out 0
    have hfz7_1 := blk_frozen BK313.out 1
    have hfz7_2 := blk_frozen BK313.out 2
    have hfz7_3 := blk_frozen BK313.out 3
    have hfz7_4 := blk_frozen BK313.out 4
    go_wp2
    repeat (go_quiet (fail); try go_wp2)
    go_meet
    case rel => exact ⟨_, (true), (by first | rfl | (simp; done) | (simp [*]; done)), H', ⟨by first | omega | exact Nat.le_refl _⟩, ⟨by (with_reducible repeat (first | refine blk_drewN ?_ _ | refine blk_drew ?_ | refine blk_alloc ?_ _)); exact BK313.out⟩, ⟨by repeat (first | (with_reducible first | exact HB.out | apply below_alloc | apply pw_below_drewN | apply below_drew1 | refine below_set ?_ GE313.out) | exact HB.out)⟩⟩
   ·rw [if_neg c6] at H
    have c6b0 : decide (9999 < a0_0) = false := decide_eq_false c6
    clear c6
    by_cases c8 : a0_1 < 1
    ·rw [if_pos c8] at H
     have c8b0 : decide (a0_1 < 1) = true := decide_eq_true c8
     clear c8
     have H' := Aside0.mk H
     clear H
     have hcz9_0 : w3.cell? ⟨gb313, 0, none⟩ = some (.int .i64 a0_0) := (blk_cell BK313.out 0).trans rfl
     have hcz9_1 : w3.cell? ⟨gb313, 1, none⟩ = some (.int .i64 a0_1) := (blk_cell BK313.out 1).trans rfl
     have hcz9_2 : w3.cell? ⟨gb313, 2, none⟩ = some (.string a0_2) := (blk_cell BK313.out 2).trans rfl
     have hcz9_3 : w3.cell? ⟨gb313, 3, none⟩ = some (.slice A0_3 l0_3.length c0_3) := (blk_cell BK313.out 3).trans rfl
     have hcz9_4 : w3.cell? ⟨gb313, 4, none⟩ = some (.slice A0_4 l0_4.length c0_4) := (blk_cell BK313.out 4).trans rfl
     have hfz9_0 := blk_frozen BK313.out 0
     have hfz9_1 := blk_frozen BK313.out 1
     have hfz9_2 := blk_frozen BK313.out 2
     have hfz9_3 := blk_frozen BK313.out 3
     have hfz9_4 := blk_frozen BK313.out 4
     go_wp2
     repeat (go_quiet (fail); try go_wp2)
     go_meet
     case rel => exact ⟨_, (true), (by first | rfl | (simp; done) | (simp [*]; done)), H', ⟨by first | omega | exact Nat.le_refl _⟩, ⟨by (with_reducible repeat (first | refine blk_drewN ?_ _ | refine blk_drew ?_ | refine blk_alloc ?_ _)); exact BK313.out⟩, ⟨by repeat (first | (with_reducible first | exact HB.out | apply below_alloc | apply pw_below_drewN | apply below_drew1 | refine below_set ?_ GE313.out) | exact HB.out)⟩⟩
    ·rw [if_neg c8] at H
     have c8b0 : decide (a0_1 < 1) = false := decide_eq_false c8
     clear c8
     have H' := Aside0.mk H
     clear H
     have hcz10_0 : w3.cell? ⟨gb313, 0, none⟩ = some (.int .i64 a0_0) := (blk_cell BK313.out 0).trans rfl
     have hcz10_1 : w3.cell? ⟨gb313, 1, none⟩ = some (.int .i64 a0_1) := (blk_cell BK313.out 1).trans rfl
     have hcz10_2 : w3.cell? ⟨gb313, 2, none⟩ = some (.string a0_2) := (blk_cell BK313.out 2).trans rfl
     have hcz10_3 : w3.cell? ⟨gb313, 3, none⟩ = some (.slice A0_3 l0_3.length c0_3) := (blk_cell BK313.out 3).trans rfl
     have hcz10_4 : w3.cell? ⟨gb313, 4, none⟩ = some (.slice A0_4 l0_4.length c0_4) := (blk_cell BK313.out 4).trans rfl
     have hfz10_0 := blk_frozen BK313.out 0
     have hfz10_1 := blk_frozen BK313.out 1
     have hfz10_2 := blk_frozen BK313.out 2
     have hfz10_3 := blk_frozen BK313.out 3
     have hfz10_4 := blk_frozen BK313.out 4
     go_wp2
     repeat (go_quiet (fail); try go_wp2)
     go_meet
     case rel => exact ⟨_, (decide (a0_1 > 8)), (by first | rfl | (simp; done) | (simp [*]; done)), H', ⟨by first | omega | exact Nat.le_refl _⟩, ⟨by (with_reducible repeat (first | refine blk_drewN ?_ _ | refine blk_drew ?_ | refine blk_alloc ?_ _)); exact BK313.out⟩, ⟨by repeat (first | (with_reducible first | exact HB.out | apply below_alloc | apply pw_below_drewN | apply below_drew1 | refine below_set ?_ GE313.out) | exact HB.out)⟩⟩
 case rest =>
  clear HC2
  try clear c2
  try clear p2
  try clear c4
  try clear c4b0
  try clear c6
  try clear c6b0
  try clear c8
  try clear c8b0
  try clear hcz10_0
  try clear hcz10_1
  try clear hcz10_2
  try clear hcz10_3
  try clear hcz10_4
  try clear hcz5_0
  try clear hcz5_1
  try clear hcz5_2
  try clear hcz5_3
  try clear hcz5_4
  try clear hcz7_0
  try clear hcz7_1
  try clear hcz7_2
  try clear hcz7_3
  try clear hcz7_4
  try clear hcz9_0
  try clear hcz9_1
  try clear hcz9_2
  try clear hcz9_3
  try clear hcz9_4
  try clear hfz10_0
  try clear hfz10_1
  try clear hfz10_2
  try clear hfz10_3
  try clear hfz10_4
  try clear hfz5_0
  try clear hfz5_1
  try clear hfz5_2
  try clear hfz5_3
  try clear hfz5_4
  try clear hfz7_0
  try clear hfz7_1
  try clear hfz7_2
  try clear hfz7_3
  try clear hfz7_4
  try clear hfz9_0
  try clear hfz9_1
  try clear hfz9_2
  try clear hfz9_3
  try clear hfz9_4
  obtain ⟨kq, x23_1, rfl, HA, HJ1, BK313, HB⟩ := hcut
  cases kq with
  | zero => exact absurd HA.out (by simp [awardingbodyref06_Check.j0])
  | succ kj1 =>
   have H := HA.out
   clear HA
   simp only [awardingbodyref06_Check.j0] at H
   by_cases c11 : x23_1 = true
   ·subst c11
    have H1 : (some 2) = some r := by rw [if_pos rfl] at H; exact H
    clear H
    have H := H1
    clear H1
    obtain rfl := Option.some.inj H
    go_wp2
    repeat (go_quiet (fail); try go_wp2)
    go_ret
    exact ⟨by first | rfl | (simp [errW_none, errW_some] <;> rfl) | (simp [*, errW_none, errW_some] <;> rfl), by repeat (first | (with_reducible first | exact HB.out | apply below_alloc | apply pw_below_drewN | apply below_drew1 | refine below_set ?_ GE313.out) | exact HB.out)⟩
   ·replace c11 := Bool.eq_false_iff.mpr c11
    subst c11
    have H1 : (if (a0_2.size : Int) > 40 then (awardingbodyref06_Check.j1 kj1 true a0_0 a0_1 a0_2 l0_3 l0_4) else (if (l0_3.length : Int) > 6 then (awardingbodyref06_Check.j1 kj1 true a0_0 a0_1 a0_2 l0_3 l0_4) else (awardingbodyref06_Check.j1 kj1 (decide ((l0_4.length : Int) > 8)) a0_0 a0_1 a0_2 l0_3 l0_4))) = some r := by rw [if_neg (show ¬ (false = true) by decide)] at H; exact H
    clear H
    have H := H1
    clear H1
    have HC12 := Aside0.mk H
    clear H
    go_upto_region 3 with (fail)
    repeat (go_quiet (fail); go_upto_region 3 with (fail))
    go_cut [39] (fun v39 wc => ∃ (kq : Nat) (x39_11 : Bool), v39 = .bool x39_11 ∧ Aside0 (awardingbodyref06_Check.j1 kq x39_11 a0_0 a0_1 a0_2 l0_3 l0_4 = some r) ∧ Aside0 (kq ≤ kj1) ∧ Aside0 (wc.heap[gb313]? = some (.cells #[.int .i64 a0_0, .int .i64 a0_1, .string a0_2, (.slice A0_3 l0_3.length c0_3), (.slice A0_4 l0_4.length c0_4)] 33 (0, 0))) ∧ Aside0 (Below w.heap.size w wc))
    case first =>
     have H := HC12.out
     clear HC12
     by_cases c13 : (a0_2.size : Int) > 40
     ·rw [if_pos c13] at H
      have c13b0 : decide (40 < (a0_2.size : Int)) = true := decide_eq_true c13
      have c13b1 : decide (40 < a0_2.size) = true := decide_eq_true (by omega)
      clear c13
      (first | rw [c13b0] | (simp only [i64_w, i32_w]; rw [c13b0]) | skip)
      have H' := Aside0.mk H
      clear H
      have hcz14_0 : wc.cell? ⟨gb313, 0, none⟩ = some (.int .i64 a0_0) := (blk_cell BK313.out 0).trans rfl
      have hcz14_1 : wc.cell? ⟨gb313, 1, none⟩ = some (.int .i64 a0_1) := (blk_cell BK313.out 1).trans rfl
      have hcz14_2 : wc.cell? ⟨gb313, 2, none⟩ = some (.string a0_2) := (blk_cell BK313.out 2).trans rfl
      have hcz14_3 : wc.cell? ⟨gb313, 3, none⟩ = some (.slice A0_3 l0_3.length c0_3) := (blk_cell BK313.out 3).trans rfl
      have hcz14_4 : wc.cell? ⟨gb313, 4, none⟩ = some (.slice A0_4 l0_4.length c0_4) := (blk_cell BK313.out 4).trans rfl
      have hfz14_0 := blk_frozen BK313.out 0
      have hfz14_1 := blk_frozen BK313.out 1
      have hfz14_2 := blk_frozen BK313.out 2
      have hfz14_3 := blk_frozen BK313.out 3
      have hfz14_4 := blk_frozen BK313.out 4
      go_wp2
      repeat (go_quiet (fail); try go_wp2)
      go_meet
      case rel => exact ⟨_, (true), (by first | rfl | (simp; done) | (simp [*]; done)), H', ⟨by have := HJ1.out; first | omega | exact Nat.le_refl _⟩, ⟨by (with_reducible repeat (first | refine blk_drewN ?_ _ | refine blk_drew ?_ | refine blk_alloc ?_ _)); exact BK313.out⟩, ⟨by repeat (first | (with_reducible first | exact HB.out | apply below_alloc | apply pw_below_drewN | apply below_drew1 | refine below_set ?_ GE313.out) | exact HB.out)⟩⟩
     ·rw [if_neg c13] at H
      have c13b0 : decide (40 < (a0_2.size : Int)) = false := decide_eq_false c13
      have c13b1 : decide (40 < a0_2.size) = false := decide_eq_false (by omega)
      clear c13
      (first | rw [c13b0] | (simp only [i64_w, i32_w]; rw [c13b0]) | skip)
      by_cases c15 : (l0_3.length : Int) > 6
      ·rw [if_pos c15] at H
       have c15b0 : decide (6 < (l0_3.length : Int)) = true := decide_eq_true c15
       have c15b1 : decide (6 < l0_3.length) = true := decide_eq_true (by omega)
       clear c15
       have H' := Aside0.mk H
       clear H
       have hcz16_0 : wc.cell? ⟨gb313, 0, none⟩ = some (.int .i64 a0_0) := (blk_cell BK313.out 0).trans rfl
       have hcz16_1 : wc.cell? ⟨gb313, 1, none⟩ = some (.int .i64 a0_1) := (blk_cell BK313.out 1).trans rfl
       have hcz16_2 : wc.cell? ⟨gb313, 2, none⟩ = some (.string a0_2) := (blk_cell BK313.out 2).trans rfl
       have hcz16_3 : wc.cell? ⟨gb313, 3, none⟩ = some (.slice A0_3 l0_3.length c0_3) := (blk_cell BK313.out 3).trans rfl
       have hcz16_4 : wc.cell? ⟨gb313, 4, none⟩ = some (.slice A0_4 l0_4.length c0_4) := (blk_cell BK313.out 4).trans rfl
       have hfz16_0 := blk_frozen BK313.out 0
       have hfz16_1 := blk_frozen BK313.out 1
       have hfz16_2 := blk_frozen BK313.out 2
       have hfz16_3 := blk_frozen BK313.out 3
       have hfz16_4 := blk_frozen BK313.out 4
       go_wp2
       repeat (go_quiet (fail); try go_wp2)
       go_meet
       case rel => exact ⟨_, (true), (by first | rfl | (simp; done) | (simp [*]; done)), H', ⟨by have := HJ1.out; first | omega | exact Nat.le_refl _⟩, ⟨by (with_reducible repeat (first | refine blk_drewN ?_ _ | refine blk_drew ?_ | refine blk_alloc ?_ _)); exact BK313.out⟩, ⟨by repeat (first | (with_reducible first | exact HB.out | apply below_alloc | apply pw_below_drewN | apply below_drew1 | refine below_set ?_ GE313.out) | exact HB.out)⟩⟩
      ·rw [if_neg c15] at H
       have c15b0 : decide (6 < (l0_3.length : Int)) = false := decide_eq_false c15
       have c15b1 : decide (6 < l0_3.length) = false := decide_eq_false (by omega)
       clear c15
       have H' := Aside0.mk H
       clear H
       have hcz17_0 : wc.cell? ⟨gb313, 0, none⟩ = some (.int .i64 a0_0) := (blk_cell BK313.out 0).trans rfl
       have hcz17_1 : wc.cell? ⟨gb313, 1, none⟩ = some (.int .i64 a0_1) := (blk_cell BK313.out 1).trans rfl
       have hcz17_2 : wc.cell? ⟨gb313, 2, none⟩ = some (.string a0_2) := (blk_cell BK313.out 2).trans rfl
       have hcz17_3 : wc.cell? ⟨gb313, 3, none⟩ = some (.slice A0_3 l0_3.length c0_3) := (blk_cell BK313.out 3).trans rfl
       have hcz17_4 : wc.cell? ⟨gb313, 4, none⟩ = some (.slice A0_4 l0_4.length c0_4) := (blk_cell BK313.out 4).trans rfl
       have hfz17_0 := blk_frozen BK313.out 0
       have hfz17_1 := blk_frozen BK313.out 1
       have hfz17_2 := blk_frozen BK313.out 2
       have hfz17_3 := blk_frozen BK313.out 3
       have hfz17_4 := blk_frozen BK313.out 4
       go_wp2
       repeat (go_quiet (fail); try go_wp2)
       go_meet
       case rel => exact ⟨_, (decide ((l0_4.length : Int) > 8)), (by first | rfl | (simp; done) | (simp [*]; done)), H', ⟨by have := HJ1.out; first | omega | exact Nat.le_refl _⟩, ⟨by (with_reducible repeat (first | refine blk_drewN ?_ _ | refine blk_drew ?_ | refine blk_alloc ?_ _)); exact BK313.out⟩, ⟨by repeat (first | (with_reducible first | exact HB.out | apply below_alloc | apply pw_below_drewN | apply below_drew1 | refine below_set ?_ GE313.out) | exact HB.out)⟩⟩
    case rest =>
     clear HC12
     try clear c1
     try clear c2
     try clear p2
     try clear c4
     try clear c4b0
     try clear c6
     try clear c6b0
     try clear c8
     try clear c8b0
     try clear c11
     try clear c13
     try clear c13b0
     try clear c13b1
     try clear c15
     try clear c15b0
     try clear c15b1
     try clear hcz10_0
     try clear hcz10_1
     try clear hcz10_2
     try clear hcz10_3
     try clear hcz10_4
     try clear hcz14_0
     try clear hcz14_1
     try clear hcz14_2
     try clear hcz14_3
     try clear hcz14_4
     try clear hcz16_0
     try clear hcz16_1
     try clear hcz16_2
     try clear hcz16_3
     try clear hcz16_4
     try clear hcz17_0
     try clear hcz17_1
     try clear hcz17_2
     try clear hcz17_3
     try clear hcz17_4
     try clear hcz5_0
     try clear hcz5_1
     try clear hcz5_2
     try clear hcz5_3
     try clear hcz5_4
     try clear hcz7_0
     try clear hcz7_1
     try clear hcz7_2
     try clear hcz7_3
     try clear hcz7_4
     try clear hcz9_0
     try clear hcz9_1
     try clear hcz9_2
     try clear hcz9_3
     try clear hcz9_4
     try clear hfz10_0
     try clear hfz10_1
     try clear hfz10_2
     try clear hfz10_3
     try clear hfz10_4
     try clear hfz14_0
     try clear hfz14_1
     try clear hfz14_2
     try clear hfz14_3
     try clear hfz14_4
     try clear hfz16_0
     try clear hfz16_1
     try clear hfz16_2
     try clear hfz16_3
     try clear hfz16_4
     try clear hfz17_0
     try clear hfz17_1
     try clear hfz17_2
     try clear hfz17_3
     try clear hfz17_4
     try clear hfz5_0
     try clear hfz5_1
     try clear hfz5_2
     try clear hfz5_3
     try clear hfz5_4
     try clear hfz7_0
     try clear hfz7_1
     try clear hfz7_2
     try clear hfz7_3
     try clear hfz7_4
     try clear hfz9_0
     try clear hfz9_1
     try clear hfz9_2
     try clear hfz9_3
     try clear hfz9_4
     try clear p2
     obtain ⟨kq, x39_11, rfl, HA, HJ11, BK313, HB⟩ := hcut
     cases kq with
     | zero => exact absurd HA.out (by simp [awardingbodyref06_Check.j1])
     | succ kj11 =>
      have H := HA.out
      clear HA
      simp only [awardingbodyref06_Check.j1] at H
      by_cases c18 : x39_11 = true
      ·subst c18
       have H1 : (some 3) = some r := by rw [if_pos rfl] at H; exact H
       clear H
       have H := H1
       clear H1
       obtain rfl := Option.some.inj H
       go_wp2
       repeat (go_quiet (fail); try go_wp2)
       go_ret
       exact ⟨by first | rfl | (simp [errW_none, errW_some] <;> rfl) | (simp [*, errW_none, errW_some] <;> rfl), by repeat (first | (with_reducible first | exact HB.out | apply below_alloc | apply pw_below_drewN | apply below_drew1 | refine below_set ?_ GE313.out) | exact HB.out)⟩
      ·replace c18 := Bool.eq_false_iff.mpr c18
       subst c18
       have H1 : (if a0_2.toList = ([] : List UInt8) then (some 7) else (awardingbodyref06_Check.l0 kj11 0 a0_0 a0_1 a0_2 l0_3 l0_4)) = some r := by rw [if_neg (show ¬ (false = true) by decide)] at H; exact H
       clear H
       have H := H1
       clear H1
       by_cases c19 : a0_2.toList = ([] : List UInt8)
       ·rw [if_pos c19] at H
        have c19b0 : (a0_2.toList == ([] : List UInt8)) = true := beq_iff_eq.mpr c19
        have c19b1 : (a0_2.toList != ([] : List UInt8)) = false := bne_eq_false_iff_eq.mpr c19
        clear c19
        obtain rfl := Option.some.inj H
        have hcz20_0 : wc.cell? ⟨gb313, 0, none⟩ = some (.int .i64 a0_0) := (blk_cell BK313.out 0).trans rfl
        have hcz20_1 : wc.cell? ⟨gb313, 1, none⟩ = some (.int .i64 a0_1) := (blk_cell BK313.out 1).trans rfl
        have hcz20_2 : wc.cell? ⟨gb313, 2, none⟩ = some (.string a0_2) := (blk_cell BK313.out 2).trans rfl
        have hcz20_3 : wc.cell? ⟨gb313, 3, none⟩ = some (.slice A0_3 l0_3.length c0_3) := (blk_cell BK313.out 3).trans rfl
        have hcz20_4 : wc.cell? ⟨gb313, 4, none⟩ = some (.slice A0_4 l0_4.length c0_4) := (blk_cell BK313.out 4).trans rfl
        have hfz20_0 := blk_frozen BK313.out 0
        have hfz20_1 := blk_frozen BK313.out 1
        have hfz20_2 := blk_frozen BK313.out 2
        have hfz20_3 := blk_frozen BK313.out 3
        have hfz20_4 := blk_frozen BK313.out 4
        go_wp2
        repeat (go_quiet (fail); try go_wp2)
        go_ret
        exact ⟨by first | rfl | (simp [errW_none, errW_some] <;> rfl) | (simp [*, errW_none, errW_some] <;> rfl), by repeat (first | (with_reducible first | exact HB.out | apply below_alloc | apply pw_below_drewN | apply below_drew1 | refine below_set ?_ GE313.out) | exact HB.out)⟩
       ·rw [if_neg c19] at H
        have c19b0 : (a0_2.toList == ([] : List UInt8)) = false := beq_eq_false_iff_ne.mpr c19
        have c19b1 : (a0_2.toList != ([] : List UInt8)) = true := bne_iff_ne.mpr c19
        have H' := Aside0.mk H
        clear H
        have hcz21_0 : wc.cell? ⟨gb313, 0, none⟩ = some (.int .i64 a0_0) := (blk_cell BK313.out 0).trans rfl
        have hcz21_1 : wc.cell? ⟨gb313, 1, none⟩ = some (.int .i64 a0_1) := (blk_cell BK313.out 1).trans rfl
        have hcz21_2 : wc.cell? ⟨gb313, 2, none⟩ = some (.string a0_2) := (blk_cell BK313.out 2).trans rfl
        have hcz21_3 : wc.cell? ⟨gb313, 3, none⟩ = some (.slice A0_3 l0_3.length c0_3) := (blk_cell BK313.out 3).trans rfl
        have hcz21_4 : wc.cell? ⟨gb313, 4, none⟩ = some (.slice A0_4 l0_4.length c0_4) := (blk_cell BK313.out 4).trans rfl
        have hfz21_0 := blk_frozen BK313.out 0
        have hfz21_1 := blk_frozen BK313.out 1
        have hfz21_2 := blk_frozen BK313.out 2
        have hfz21_3 := blk_frozen BK313.out 3
        have hfz21_4 := blk_frozen BK313.out 4
        go_wp2
        repeat (go_quiet (fail); try go_wp2)
        go_loopg [3] kj11 (fun kq v3 w' => ∃ (x3_3 : Int), v3 = .int .i64 x3_3 ∧ Aside0 (awardingbodyref06_Check.l0 kq x3_3 a0_0 a0_1 a0_2 l0_3 l0_4 = some r) ∧ Aside0 (kq ≤ kj11) ∧ Aside0 (w'.heap[gb313]? = some (.cells #[.int .i64 a0_0, .int .i64 a0_1, .string a0_2, (.slice A0_3 l0_3.length c0_3), (.slice A0_4 l0_4.length c0_4)] 33 (0, 0))) ∧ Aside0 (Below w.heap.size w w'))
        case atStart => exact ⟨(0), (by first | rfl | (simp; done) | (simp [*]; done)), H', ⟨Nat.le_refl _⟩, ⟨by (with_reducible repeat (first | refine blk_drewN ?_ _ | refine blk_drew ?_ | refine blk_alloc ?_ _)); exact BK313.out⟩, ⟨by repeat (first | (with_reducible first | exact HB.out | apply below_alloc | apply pw_below_drewN | apply below_drew1 | refine below_set ?_ GE313.out) | exact HB.out)⟩⟩
        case round =>
         clear H'
         try clear c1
         try clear c2
         try clear p2
         try clear c4
         try clear c4b0
         try clear c6
         try clear c6b0
         try clear c8
         try clear c8b0
         try clear c11
         try clear c13
         try clear c13b0
         try clear c13b1
         try clear c15
         try clear c15b0
         try clear c15b1
         try clear c18
         try clear c19
         try clear c19b0
         try clear c19b1
         try clear c20
         try clear hcz10_0
         try clear hcz10_1
         try clear hcz10_2
         try clear hcz10_3
         try clear hcz10_4
         try clear hcz14_0
         try clear hcz14_1
         try clear hcz14_2
         try clear hcz14_3
         try clear hcz14_4
         try clear hcz16_0
         try clear hcz16_1
         try clear hcz16_2
         try clear hcz16_3
         try clear hcz16_4
         try clear hcz17_0
         try clear hcz17_1
         try clear hcz17_2
         try clear hcz17_3
         try clear hcz17_4
         try clear hcz20_0
         try clear hcz20_1
         try clear hcz20_2
         try clear hcz20_3
         try clear hcz20_4
         try clear hcz21_0
         try clear hcz21_1
         try clear hcz21_2
         try clear hcz21_3
         try clear hcz21_4
         try clear hcz5_0
         try clear hcz5_1
         try clear hcz5_2
         try clear hcz5_3
         try clear hcz5_4
         try clear hcz7_0
         try clear hcz7_1
         try clear hcz7_2
         try clear hcz7_3
         try clear hcz7_4
         try clear hcz9_0
         try clear hcz9_1
         try clear hcz9_2
         try clear hcz9_3
         try clear hcz9_4
         try clear hfz10_0
         try clear hfz10_1
         try clear hfz10_2
         try clear hfz10_3
         try clear hfz10_4
         try clear hfz14_0
         try clear hfz14_1
         try clear hfz14_2
         try clear hfz14_3
         try clear hfz14_4
         try clear hfz16_0
         try clear hfz16_1
         try clear hfz16_2
         try clear hfz16_3
         try clear hfz16_4
         try clear hfz17_0
         try clear hfz17_1
         try clear hfz17_2
         try clear hfz17_3
         try clear hfz17_4
         try clear hfz20_0
         try clear hfz20_1
         try clear hfz20_2
         try clear hfz20_3
         try clear hfz20_4
         try clear hfz21_0
         try clear hfz21_1
         try clear hfz21_2
         try clear hfz21_3
         try clear hfz21_4
         try clear hfz5_0
         try clear hfz5_1
         try clear hfz5_2
         try clear hfz5_3
         try clear hfz5_4
         try clear hfz7_0
         try clear hfz7_1
         try clear hfz7_2
         try clear hfz7_3
         try clear hfz7_4
         try clear hfz9_0
         try clear hfz9_1
         try clear hfz9_2
         try clear hfz9_3
         try clear hfz9_4
         try clear p2
         obtain ⟨x3_3, rfl, HA, HK3, BK313, HB⟩ := hrel
         cases gk with
         | zero => exact absurd HA.out (by simp [awardingbodyref06_Check.l0])
         | succ k3 =>
          have H := HA.out
          clear HA
          simp only [awardingbodyref06_Check.l0] at H
          by_cases c22 : x3_3 < (a0_2.size : Int)
          ·rw [if_pos c22] at H
           have c22b0 : decide (x3_3 < (a0_2.size : Int)) = true := decide_eq_true c22
           clear c22
           by_cases c23 : 0 ≤ x3_3
           ·rw [if_pos c23] at H
            have c23b0 : decide (0 ≤ x3_3) = true := decide_eq_true c23
            clear c23
            by_cases c25 : (bt a0_2 x3_3) < 32
            ·rw [if_pos c25] at H
             have c25b0 : decide ((bt a0_2 x3_3) < 32) = true := decide_eq_true c25
             clear c25
             obtain rfl := Option.some.inj H
             have hcz26_0 : wr.cell? ⟨gb313, 0, none⟩ = some (.int .i64 a0_0) := (blk_cell BK313.out 0).trans rfl
             have hcz26_1 : wr.cell? ⟨gb313, 1, none⟩ = some (.int .i64 a0_1) := (blk_cell BK313.out 1).trans rfl
             have hcz26_2 : wr.cell? ⟨gb313, 2, none⟩ = some (.string a0_2) := (blk_cell BK313.out 2).trans rfl
             have hcz26_3 : wr.cell? ⟨gb313, 3, none⟩ = some (.slice A0_3 l0_3.length c0_3) := (blk_cell BK313.out 3).trans rfl
             have hcz26_4 : wr.cell? ⟨gb313, 4, none⟩ = some (.slice A0_4 l0_4.length c0_4) := (blk_cell BK313.out 4).trans rfl
             have hfz26_0 := blk_frozen BK313.out 0
             have hfz26_1 := blk_frozen BK313.out 1
             have hfz26_2 := blk_frozen BK313.out 2
             have hfz26_3 := blk_frozen BK313.out 3
             have hfz26_4 := blk_frozen BK313.out 4
             have p24 : 0 ≤ (x3_3 : Int) := of_decide_eq_true (by first | (with_reducible assumption) | assumption)
             have q24 : x3_3 < (a0_2.size : Int) := of_decide_eq_true (by first | (with_reducible assumption) | assumption)
             have hx24 := bt_at a0_2 x3_3
             replace p24 := eq_true p24
             replace q24 := eq_true q24
             go_wp2
             repeat (go_quiet (fail); try go_wp2)
             go_ret
             exact ⟨by first | rfl | (simp [errW_none, errW_some] <;> rfl) | (simp [*, errW_none, errW_some] <;> rfl), by repeat (first | (with_reducible first | exact HB.out | apply below_alloc | apply pw_below_drewN | apply below_drew1 | refine below_set ?_ GE313.out) | exact HB.out)⟩
            ·rw [if_neg c25] at H
             have c25b0 : decide ((bt a0_2 x3_3) < 32) = false := decide_eq_false c25
             clear c25
             by_cases c28 : (bt a0_2 x3_3) > 126
             ·rw [if_pos c28] at H
              have c28b0 : decide (126 < (bt a0_2 x3_3)) = true := decide_eq_true c28
              clear c28
              obtain rfl := Option.some.inj H
              have hcz29_0 : wr.cell? ⟨gb313, 0, none⟩ = some (.int .i64 a0_0) := (blk_cell BK313.out 0).trans rfl
              have hcz29_1 : wr.cell? ⟨gb313, 1, none⟩ = some (.int .i64 a0_1) := (blk_cell BK313.out 1).trans rfl
              have hcz29_2 : wr.cell? ⟨gb313, 2, none⟩ = some (.string a0_2) := (blk_cell BK313.out 2).trans rfl
              have hcz29_3 : wr.cell? ⟨gb313, 3, none⟩ = some (.slice A0_3 l0_3.length c0_3) := (blk_cell BK313.out 3).trans rfl
              have hcz29_4 : wr.cell? ⟨gb313, 4, none⟩ = some (.slice A0_4 l0_4.length c0_4) := (blk_cell BK313.out 4).trans rfl
              have hfz29_0 := blk_frozen BK313.out 0
              have hfz29_1 := blk_frozen BK313.out 1
              have hfz29_2 := blk_frozen BK313.out 2
              have hfz29_3 := blk_frozen BK313.out 3
              have hfz29_4 := blk_frozen BK313.out 4
              have p24 : 0 ≤ (x3_3 : Int) := of_decide_eq_true (by first | (with_reducible assumption) | assumption)
              have q24 : x3_3 < (a0_2.size : Int) := of_decide_eq_true (by first | (with_reducible assumption) | assumption)
              have hx24 := bt_at a0_2 x3_3
              replace p24 := eq_true p24
              replace q24 := eq_true q24
              have p27 : 0 ≤ (x3_3 : Int) := of_decide_eq_true (by first | (with_reducible assumption) | assumption)
              have q27 : x3_3 < (a0_2.size : Int) := of_decide_eq_true (by first | (with_reducible assumption) | assumption)
              have hx27 := bt_at a0_2 x3_3
              replace p27 := eq_true p27
              replace q27 := eq_true q27
              go_wp2
              repeat (go_quiet (fail); try go_wp2)
              go_ret
              exact ⟨by first | rfl | (simp [errW_none, errW_some] <;> rfl) | (simp [*, errW_none, errW_some] <;> rfl), by repeat (first | (with_reducible first | exact HB.out | apply below_alloc | apply pw_below_drewN | apply below_drew1 | refine below_set ?_ GE313.out) | exact HB.out)⟩
             ·rw [if_neg c28] at H
              have c28b0 : decide (126 < (bt a0_2 x3_3)) = false := decide_eq_false c28
              clear c28
              have H' := Aside0.mk H
              clear H
              have hcz30_0 : wr.cell? ⟨gb313, 0, none⟩ = some (.int .i64 a0_0) := (blk_cell BK313.out 0).trans rfl
              have hcz30_1 : wr.cell? ⟨gb313, 1, none⟩ = some (.int .i64 a0_1) := (blk_cell BK313.out 1).trans rfl
              have hcz30_2 : wr.cell? ⟨gb313, 2, none⟩ = some (.string a0_2) := (blk_cell BK313.out 2).trans rfl
              have hcz30_3 : wr.cell? ⟨gb313, 3, none⟩ = some (.slice A0_3 l0_3.length c0_3) := (blk_cell BK313.out 3).trans rfl
              have hcz30_4 : wr.cell? ⟨gb313, 4, none⟩ = some (.slice A0_4 l0_4.length c0_4) := (blk_cell BK313.out 4).trans rfl
              have hfz30_0 := blk_frozen BK313.out 0
              have hfz30_1 := blk_frozen BK313.out 1
              have hfz30_2 := blk_frozen BK313.out 2
              have hfz30_3 := blk_frozen BK313.out 3
              have hfz30_4 := blk_frozen BK313.out 4
              have p24 : 0 ≤ (x3_3 : Int) := of_decide_eq_true (by first | (with_reducible assumption) | assumption)
              have q24 : x3_3 < (a0_2.size : Int) := of_decide_eq_true (by first | (with_reducible assumption) | assumption)
              have hx24 := bt_at a0_2 x3_3
              replace p24 := eq_true p24
              replace q24 := eq_true q24
              have p27 : 0 ≤ (x3_3 : Int) := of_decide_eq_true (by first | (with_reducible assumption) | assumption)
              have q27 : x3_3 < (a0_2.size : Int) := of_decide_eq_true (by first | (with_reducible assumption) | assumption)
              have hx27 := bt_at a0_2 x3_3
              replace p27 := eq_true p27
              replace q27 := eq_true q27
              go_wp2
              repeat (go_quiet (fail); try go_wp2)
              go_roundg k3
              case measure => have := HJ1.out; have := HJ11.out; have := HK3.out; omega
              case rel => exact ⟨(wrap64 (x3_3 + 1)), (by first | rfl | (simp; done) | (simp [*]; done)), H', ⟨by have := HJ1.out; have := HJ11.out; have := HK3.out; omega⟩, ⟨by (with_reducible repeat (first | refine blk_drewN ?_ _ | refine blk_drew ?_ | refine blk_alloc ?_ _)); exact BK313.out⟩, ⟨by repeat (first | (with_reducible first | exact HB.out | apply below_alloc | apply pw_below_drewN | apply below_drew1 | refine below_set ?_ GE313.out) | exact HB.out)⟩⟩
           ·rw [if_neg c23] at H
            exact absurd H (by simp)
          ·rw [if_neg c22] at H
           have c22b0 : decide (x3_3 < (a0_2.size : Int)) = false := decide_eq_false c22
           clear c22
           by_cases c31 : (l0_3.length : Int) = 0
           ·rw [if_pos c31] at H
            have c31b0 : ((l0_3.length : Int) == 0) = true := beq_iff_eq.mpr c31
            have c31b1 : ((l0_3.length : Int) != 0) = false := bne_eq_false_iff_eq.mpr c31
            clear c31
            obtain rfl := Option.some.inj H
            have hcz32_0 : wr.cell? ⟨gb313, 0, none⟩ = some (.int .i64 a0_0) := (blk_cell BK313.out 0).trans rfl
            have hcz32_1 : wr.cell? ⟨gb313, 1, none⟩ = some (.int .i64 a0_1) := (blk_cell BK313.out 1).trans rfl
            have hcz32_2 : wr.cell? ⟨gb313, 2, none⟩ = some (.string a0_2) := (blk_cell BK313.out 2).trans rfl
            have hcz32_3 : wr.cell? ⟨gb313, 3, none⟩ = some (.slice A0_3 l0_3.length c0_3) := (blk_cell BK313.out 3).trans rfl
            have hcz32_4 : wr.cell? ⟨gb313, 4, none⟩ = some (.slice A0_4 l0_4.length c0_4) := (blk_cell BK313.out 4).trans rfl
            have hfz32_0 := blk_frozen BK313.out 0
            have hfz32_1 := blk_frozen BK313.out 1
            have hfz32_2 := blk_frozen BK313.out 2
            have hfz32_3 := blk_frozen BK313.out 3
            have hfz32_4 := blk_frozen BK313.out 4
            go_wp2
            repeat (go_quiet (fail); try go_wp2)
            go_ret
            exact ⟨by first | rfl | (simp [errW_none, errW_some] <;> rfl) | (simp [*, errW_none, errW_some] <;> rfl), by repeat (first | (with_reducible first | exact HB.out | apply below_alloc | apply pw_below_drewN | apply below_drew1 | refine below_set ?_ GE313.out) | exact HB.out)⟩
           ·rw [if_neg c31] at H
            have c31b0 : ((l0_3.length : Int) == 0) = false := beq_eq_false_iff_ne.mpr c31
            have c31b1 : ((l0_3.length : Int) != 0) = true := bne_iff_ne.mpr c31
            have c31b2 : ¬ (l0_3 = []) := fun h_ => c31 (by rw [h_]; rfl)
            have H' := Aside0.mk H
            clear H
            have hcz33_0 : wr.cell? ⟨gb313, 0, none⟩ = some (.int .i64 a0_0) := (blk_cell BK313.out 0).trans rfl
            have hcz33_1 : wr.cell? ⟨gb313, 1, none⟩ = some (.int .i64 a0_1) := (blk_cell BK313.out 1).trans rfl
            have hcz33_2 : wr.cell? ⟨gb313, 2, none⟩ = some (.string a0_2) := (blk_cell BK313.out 2).trans rfl
            have hcz33_3 : wr.cell? ⟨gb313, 3, none⟩ = some (.slice A0_3 l0_3.length c0_3) := (blk_cell BK313.out 3).trans rfl
            have hcz33_4 : wr.cell? ⟨gb313, 4, none⟩ = some (.slice A0_4 l0_4.length c0_4) := (blk_cell BK313.out 4).trans rfl
            have hfz33_0 := blk_frozen BK313.out 0
            have hfz33_1 := blk_frozen BK313.out 1
            have hfz33_2 := blk_frozen BK313.out 2
            have hfz33_3 := blk_frozen BK313.out 3
            have hfz33_4 := blk_frozen BK313.out 4
            go_wp2
            repeat (go_quiet (fail); try go_wp2)
            go_loopg [4] k3 (fun kq v4 w' => ∃ (x4_4 : Int), v4 = .int .i64 x4_4 ∧ Aside0 (awardingbodyref06_Check.l1 kq x4_4 a0_0 a0_1 a0_2 l0_3 l0_4 = some r) ∧ Aside0 (kq ≤ k3) ∧ Aside0 (w'.heap[gb313]? = some (.cells #[.int .i64 a0_0, .int .i64 a0_1, .string a0_2, (.slice A0_3 l0_3.length c0_3), (.slice A0_4 l0_4.length c0_4)] 33 (0, 0))) ∧ Aside0 (Below w.heap.size w w'))
            case atStart => exact ⟨(0), (by first | rfl | (simp; done) | (simp [*]; done)), H', ⟨Nat.le_refl _⟩, ⟨by (with_reducible repeat (first | refine blk_drewN ?_ _ | refine blk_drew ?_ | refine blk_alloc ?_ _)); exact BK313.out⟩, ⟨by repeat (first | (with_reducible first | exact HB.out | apply below_alloc | apply pw_below_drewN | apply below_drew1 | refine below_set ?_ GE313.out) | exact HB.out)⟩⟩
            case round =>
             clear H'
             try clear c1
             try clear c2
             try clear p2
             try clear q2
             try clear hx2
             try clear c3
             try clear c4
             try clear c4b0
             try clear c6
             try clear c6b0
             try clear p6
             try clear c8
             try clear c8b0
             try clear c11
             try clear c13
             try clear c13b0
             try clear c13b1
             try clear c15
             try clear c15b0
             try clear c15b1
             try clear c18
             try clear c19
             try clear c19b0
             try clear c19b1
             try clear c20
             try clear c22
             try clear c22b0
             try clear c23
             try clear c23b0
             try clear p24
             try clear q24
             try clear hx24
             try clear c25
             try clear c25b0
             try clear p27
             try clear q27
             try clear hx27
             try clear c28
             try clear c28b0
             try clear c31
             try clear c31b0
             try clear c31b1
             try clear c31b2
             try clear hcz10_0
             try clear hcz10_1
             try clear hcz10_2
             try clear hcz10_3
             try clear hcz10_4
             try clear hcz14_0
             try clear hcz14_1
             try clear hcz14_2
             try clear hcz14_3
             try clear hcz14_4
             try clear hcz16_0
             try clear hcz16_1
             try clear hcz16_2
             try clear hcz16_3
             try clear hcz16_4
             try clear hcz17_0
             try clear hcz17_1
             try clear hcz17_2
             try clear hcz17_3
             try clear hcz17_4
             try clear hcz20_0
             try clear hcz20_1
             try clear hcz20_2
             try clear hcz20_3
             try clear hcz20_4
             try clear hcz21_0
             try clear hcz21_1
             try clear hcz21_2
             try clear hcz21_3
             try clear hcz21_4
             try clear hcz26_0
             try clear hcz26_1
             try clear hcz26_2
             try clear hcz26_3
             try clear hcz26_4
             try clear hcz29_0
             try clear hcz29_1
             try clear hcz29_2
             try clear hcz29_3
             try clear hcz29_4
             try clear hcz30_0
             try clear hcz30_1
             try clear hcz30_2
             try clear hcz30_3
             try clear hcz30_4
             try clear hcz32_0
             try clear hcz32_1
             try clear hcz32_2
             try clear hcz32_3
             try clear hcz32_4
             try clear hcz33_0
             try clear hcz33_1
             try clear hcz33_2
             try clear hcz33_3
             try clear hcz33_4
             try clear hcz5_0
             try clear hcz5_1
             try clear hcz5_2
             try clear hcz5_3
             try clear hcz5_4
             try clear hcz7_0
             try clear hcz7_1
             try clear hcz7_2
             try clear hcz7_3
             try clear hcz7_4
             try clear hcz9_0
             try clear hcz9_1
             try clear hcz9_2
             try clear hcz9_3
             try clear hcz9_4
             try clear hfz10_0
             try clear hfz10_1
             try clear hfz10_2
             try clear hfz10_3
             try clear hfz10_4
             try clear hfz14_0
             try clear hfz14_1
             try clear hfz14_2
             try clear hfz14_3
             try clear hfz14_4
             try clear hfz16_0
             try clear hfz16_1
             try clear hfz16_2
             try clear hfz16_3
             try clear hfz16_4
             try clear hfz17_0
             try clear hfz17_1
             try clear hfz17_2
             try clear hfz17_3
             try clear hfz17_4
             try clear hfz20_0
             try clear hfz20_1
             try clear hfz20_2
             try clear hfz20_3
             try clear hfz20_4
             try clear hfz21_0
             try clear hfz21_1
             try clear hfz21_2
             try clear hfz21_3
             try clear hfz21_4
             try clear hfz26_0
             try clear hfz26_1
             try clear hfz26_2
             try clear hfz26_3
             try clear hfz26_4
             try clear hfz29_0
             try clear hfz29_1
             try clear hfz29_2
             try clear hfz29_3
             try clear hfz29_4
             try clear hfz30_0
             try clear hfz30_1
             try clear hfz30_2
             try clear hfz30_3
             try clear hfz30_4
             try clear hfz32_0
             try clear hfz32_1
             try clear hfz32_2
             try clear hfz32_3
             try clear hfz32_4
             try clear hfz33_0
             try clear hfz33_1
             try clear hfz33_2
             try clear hfz33_3
             try clear hfz33_4
             try clear hfz5_0
             try clear hfz5_1
             try clear hfz5_2
             try clear hfz5_3
             try clear hfz5_4
             try clear hfz7_0
             try clear hfz7_1
             try clear hfz7_2
             try clear hfz7_3
             try clear hfz7_4
             try clear hfz9_0
             try clear hfz9_1
             try clear hfz9_2
             try clear hfz9_3
             try clear hfz9_4
             try clear p2
             try clear p24
             try clear p27
             try clear q24
             try clear q27
             obtain ⟨x4_4, rfl, HA, HK4, BK313, HB⟩ := hrel
             cases gk with
             | zero => exact absurd HA.out (by simp [awardingbodyref06_Check.l1])
             | succ k4 =>
              have H := HA.out
              clear HA
              simp only [awardingbodyref06_Check.l1] at H
              by_cases c34 : x4_4 < (l0_3.length : Int)
              ·rw [if_pos c34] at H
               have c34b0 : decide (x4_4 < (l0_3.length : Int)) = true := decide_eq_true c34
               clear c34
               by_cases c35 : 0 ≤ x4_4
               ·rw [if_pos c35] at H
                have c35b0 : decide (0 ≤ x4_4) = true := decide_eq_true c35
                clear c35
                replace H := Option.bind_eq_some_iff.mp H
                obtain ⟨t315, A360, H⟩ := H
                replace H : (if t315 = true then (awardingbodyref06_Check.l1 k4 (wrap64 (x4_4 + 1)) a0_0 a0_1 a0_2 l0_3 l0_4) else (some 1)) = some r := H
                have A36 := Aside0.mk A360
                clear A360
                by_cases c37 : t315 = true
                ·subst c37
                 have H1 : (awardingbodyref06_Check.l1 k4 (wrap64 (x4_4 + 1)) a0_0 a0_1 a0_2 l0_3 l0_4) = some r := by rw [if_pos rfl] at H; exact H
                 clear H
                 have H := H1
                 clear H1
                 have H' := Aside0.mk H
                 clear H
                 have hcz38_0 : wr.cell? ⟨gb313, 0, none⟩ = some (.int .i64 a0_0) := (blk_cell BK313.out 0).trans rfl
                 have hcz38_1 : wr.cell? ⟨gb313, 1, none⟩ = some (.int .i64 a0_1) := (blk_cell BK313.out 1).trans rfl
                 have hcz38_2 : wr.cell? ⟨gb313, 2, none⟩ = some (.string a0_2) := (blk_cell BK313.out 2).trans rfl
                 have hcz38_3 : wr.cell? ⟨gb313, 3, none⟩ = some (.slice A0_3 l0_3.length c0_3) := (blk_cell BK313.out 3).trans rfl
                 have hcz38_4 : wr.cell? ⟨gb313, 4, none⟩ = some (.slice A0_4 l0_4.length c0_4) := (blk_cell BK313.out 4).trans rfl
                 have hfz38_0 := blk_frozen BK313.out 0
                 have hfz38_1 := blk_frozen BK313.out 1
                 have hfz38_2 := blk_frozen BK313.out 2
                 have hfz38_3 := blk_frozen BK313.out 3
                 have hfz38_4 := blk_frozen BK313.out 4
                 have p314 : 0 ≤ (x4_4 : Int) := of_decide_eq_true (by first | (with_reducible assumption) | assumption)
                 have q314 : x4_4 < (l0_3.length : Int) := of_decide_eq_true (by first | (with_reducible assumption) | assumption)
                 obtain ⟨ad314, e314, hx314_0, hx314_1, hx314_2, hx314_3, hx314_4, hx314_5⟩ := at_T23 HR0_3.out x4_4 p314 q314
                 cases e314
                 replace hx314_0 := (HB.out.cell (World.block_lt_of_cell? w _ hx314_0)).trans hx314_0
                 replace hx314_1 := (HB.out.cell (World.block_lt_of_cell? w _ hx314_1)).trans hx314_1
                 replace hx314_2 := (HB.out.cell (World.block_lt_of_cell? w _ hx314_2)).trans hx314_2
                 replace hx314_3 := (HB.out.cell (World.block_lt_of_cell? w _ hx314_3)).trans hx314_3
                 replace hx314_4 := (HB.out.cell (World.block_lt_of_cell? w _ hx314_4)).trans hx314_4
                 replace hx314_5 := (HB.out.cell (World.block_lt_of_cell? w _ hx314_5)).trans hx314_5
                 replace p314 := eq_true p314
                 replace q314 := eq_true q314
                 go_wp2_with (first | (go_at_call 13; (with_reducible refine (awardingbodyref06_ValidPart.calls k4 ((rd_T23 l0_3 x4_4).f0) ((rd_T23 l0_3 x4_4).f1) ((rd_T23 l0_3 x4_4).f2) ((rd_T23 l0_3 x4_4).f3) ((rd_T23 l0_3 x4_4).f4) ((rd_T23 l0_3 x4_4).f5) true _ A36.out).mono ?_); rintro e w39 ⟨rfl, hb⟩; have n0_ := Aside0.mk (blk_below (g := gb313) (o := .cells #[.int .i64 a0_0, .int .i64 a0_1, .string a0_2, .slice (some ad314) l0_3.length c0_3, .slice A0_4 l0_4.length c0_4] 33 (0, 0)) (by (with_reducible repeat (first | refine blk_drewN ?_ _ | refine blk_drew ?_ | refine blk_alloc ?_ _)); exact BK313.out) hb); have n1_ := Aside0.mk (below_step (by repeat (first | (with_reducible first | exact HB.out | apply below_alloc | apply pw_below_drewN | apply below_drew1 | refine below_set ?_ GE313.out) | exact HB.out)) hb); clear BK313 HB; have BK313 := n0_; have HB := n1_; clear n0_ n1_; (try clear hb); (try clear hb2); (try clear hk); (try clear hi)))
                 repeat (go_quiet (first | (go_at_call 13; (with_reducible refine (awardingbodyref06_ValidPart.calls k4 ((rd_T23 l0_3 x4_4).f0) ((rd_T23 l0_3 x4_4).f1) ((rd_T23 l0_3 x4_4).f2) ((rd_T23 l0_3 x4_4).f3) ((rd_T23 l0_3 x4_4).f4) ((rd_T23 l0_3 x4_4).f5) true _ A36.out).mono ?_); rintro e w39 ⟨rfl, hb⟩; have n0_ := Aside0.mk (blk_below (g := gb313) (o := .cells #[.int .i64 a0_0, .int .i64 a0_1, .string a0_2, .slice (some ad314) l0_3.length c0_3, .slice A0_4 l0_4.length c0_4] 33 (0, 0)) (by (with_reducible repeat (first | refine blk_drewN ?_ _ | refine blk_drew ?_ | refine blk_alloc ?_ _)); exact BK313.out) hb); have n1_ := Aside0.mk (below_step (by repeat (first | (with_reducible first | exact HB.out | apply below_alloc | apply pw_below_drewN | apply below_drew1 | refine below_set ?_ GE313.out) | exact HB.out)) hb); clear BK313 HB; have BK313 := n0_; have HB := n1_; clear n0_ n1_; (try clear hb); (try clear hb2); (try clear hk); (try clear hi))); try go_wp2_with (first | (go_at_call 13; (with_reducible refine (awardingbodyref06_ValidPart.calls k4 ((rd_T23 l0_3 x4_4).f0) ((rd_T23 l0_3 x4_4).f1) ((rd_T23 l0_3 x4_4).f2) ((rd_T23 l0_3 x4_4).f3) ((rd_T23 l0_3 x4_4).f4) ((rd_T23 l0_3 x4_4).f5) true _ A36.out).mono ?_); rintro e w39 ⟨rfl, hb⟩; have n0_ := Aside0.mk (blk_below (g := gb313) (o := .cells #[.int .i64 a0_0, .int .i64 a0_1, .string a0_2, .slice (some ad314) l0_3.length c0_3, .slice A0_4 l0_4.length c0_4] 33 (0, 0)) (by (with_reducible repeat (first | refine blk_drewN ?_ _ | refine blk_drew ?_ | refine blk_alloc ?_ _)); exact BK313.out) hb); have n1_ := Aside0.mk (below_step (by repeat (first | (with_reducible first | exact HB.out | apply below_alloc | apply pw_below_drewN | apply below_drew1 | refine below_set ?_ GE313.out) | exact HB.out)) hb); clear BK313 HB; have BK313 := n0_; have HB := n1_; clear n0_ n1_; (try clear hb); (try clear hb2); (try clear hk); (try clear hi))))
                 go_roundg k4
                 case measure => have := HJ1.out; have := HJ11.out; have := HK3.out; have := HK4.out; omega
                 case rel => exact ⟨(wrap64 (x4_4 + 1)), (by first | rfl | (simp; done) | (simp [*]; done)), H', ⟨by have := HJ1.out; have := HJ11.out; have := HK3.out; have := HK4.out; omega⟩, ⟨by (with_reducible repeat (first | refine blk_drewN ?_ _ | refine blk_drew ?_ | refine blk_alloc ?_ _)); exact BK313.out⟩, ⟨by repeat (first | (with_reducible first | exact HB.out | apply below_alloc | apply pw_below_drewN | apply below_drew1 | refine below_set ?_ GE313.out) | exact HB.out)⟩⟩
                ·replace c37 := Bool.eq_false_iff.mpr c37
                 subst c37
                 have H1 : (some 1) = some r := by rw [if_neg (show ¬ (false = true) by decide)] at H; exact H
                 clear H
                 have H := H1
                 clear H1
                 obtain rfl := Option.some.inj H
                 have hcz40_0 : wr.cell? ⟨gb313, 0, none⟩ = some (.int .i64 a0_0) := (blk_cell BK313.out 0).trans rfl
                 have hcz40_1 : wr.cell? ⟨gb313, 1, none⟩ = some (.int .i64 a0_1) := (blk_cell BK313.out 1).trans rfl
                 have hcz40_2 : wr.cell? ⟨gb313, 2, none⟩ = some (.string a0_2) := (blk_cell BK313.out 2).trans rfl
                 have hcz40_3 : wr.cell? ⟨gb313, 3, none⟩ = some (.slice A0_3 l0_3.length c0_3) := (blk_cell BK313.out 3).trans rfl
                 have hcz40_4 : wr.cell? ⟨gb313, 4, none⟩ = some (.slice A0_4 l0_4.length c0_4) := (blk_cell BK313.out 4).trans rfl
                 have hfz40_0 := blk_frozen BK313.out 0
                 have hfz40_1 := blk_frozen BK313.out 1
                 have hfz40_2 := blk_frozen BK313.out 2
                 have hfz40_3 := blk_frozen BK313.out 3
                 have hfz40_4 := blk_frozen BK313.out 4
                 have p314 : 0 ≤ (x4_4 : Int) := of_decide_eq_true (by first | (with_reducible assumption) | assumption)
                 have q314 : x4_4 < (l0_3.length : Int) := of_decide_eq_true (by first | (with_reducible assumption) | assumption)
                 obtain ⟨ad314, e314, hx314_0, hx314_1, hx314_2, hx314_3, hx314_4, hx314_5⟩ := at_T23 HR0_3.out x4_4 p314 q314
                 cases e314
                 replace hx314_0 := (HB.out.cell (World.block_lt_of_cell? w _ hx314_0)).trans hx314_0
                 replace hx314_1 := (HB.out.cell (World.block_lt_of_cell? w _ hx314_1)).trans hx314_1
                 replace hx314_2 := (HB.out.cell (World.block_lt_of_cell? w _ hx314_2)).trans hx314_2
                 replace hx314_3 := (HB.out.cell (World.block_lt_of_cell? w _ hx314_3)).trans hx314_3
                 replace hx314_4 := (HB.out.cell (World.block_lt_of_cell? w _ hx314_4)).trans hx314_4
                 replace hx314_5 := (HB.out.cell (World.block_lt_of_cell? w _ hx314_5)).trans hx314_5
                 replace p314 := eq_true p314
                 replace q314 := eq_true q314
                 go_wp2_with (first | (go_at_call 13; (with_reducible refine (awardingbodyref06_ValidPart.calls k4 ((rd_T23 l0_3 x4_4).f0) ((rd_T23 l0_3 x4_4).f1) ((rd_T23 l0_3 x4_4).f2) ((rd_T23 l0_3 x4_4).f3) ((rd_T23 l0_3 x4_4).f4) ((rd_T23 l0_3 x4_4).f5) false _ A36.out).mono ?_); rintro e w41 ⟨rfl, hb⟩; have n0_ := Aside0.mk (blk_below (g := gb313) (o := .cells #[.int .i64 a0_0, .int .i64 a0_1, .string a0_2, .slice (some ad314) l0_3.length c0_3, .slice A0_4 l0_4.length c0_4] 33 (0, 0)) (by (with_reducible repeat (first | refine blk_drewN ?_ _ | refine blk_drew ?_ | refine blk_alloc ?_ _)); exact BK313.out) hb); have n1_ := Aside0.mk (below_step (by repeat (first | (with_reducible first | exact HB.out | apply below_alloc | apply pw_below_drewN | apply below_drew1 | refine below_set ?_ GE313.out) | exact HB.out)) hb); clear BK313 HB; have BK313 := n0_; have HB := n1_; clear n0_ n1_; (try clear hb); (try clear hb2); (try clear hk); (try clear hi)))
                 repeat (go_quiet (first | (go_at_call 13; (with_reducible refine (awardingbodyref06_ValidPart.calls k4 ((rd_T23 l0_3 x4_4).f0) ((rd_T23 l0_3 x4_4).f1) ((rd_T23 l0_3 x4_4).f2) ((rd_T23 l0_3 x4_4).f3) ((rd_T23 l0_3 x4_4).f4) ((rd_T23 l0_3 x4_4).f5) false _ A36.out).mono ?_); rintro e w41 ⟨rfl, hb⟩; have n0_ := Aside0.mk (blk_below (g := gb313) (o := .cells #[.int .i64 a0_0, .int .i64 a0_1, .string a0_2, .slice (some ad314) l0_3.length c0_3, .slice A0_4 l0_4.length c0_4] 33 (0, 0)) (by (with_reducible repeat (first | refine blk_drewN ?_ _ | refine blk_drew ?_ | refine blk_alloc ?_ _)); exact BK313.out) hb); have n1_ := Aside0.mk (below_step (by repeat (first | (with_reducible first | exact HB.out | apply below_alloc | apply pw_below_drewN | apply below_drew1 | refine below_set ?_ GE313.out) | exact HB.out)) hb); clear BK313 HB; have BK313 := n0_; have HB := n1_; clear n0_ n1_; (try clear hb); (try clear hb2); (try clear hk); (try clear hi))); try go_wp2_with (first | (go_at_call 13; (with_reducible refine (awardingbodyref06_ValidPart.calls k4 ((rd_T23 l0_3 x4_4).f0) ((rd_T23 l0_3 x4_4).f1) ((rd_T23 l0_3 x4_4).f2) ((rd_T23 l0_3 x4_4).f3) ((rd_T23 l0_3 x4_4).f4) ((rd_T23 l0_3 x4_4).f5) false _ A36.out).mono ?_); rintro e w41 ⟨rfl, hb⟩; have n0_ := Aside0.mk (blk_below (g := gb313) (o := .cells #[.int .i64 a0_0, .int .i64 a0_1, .string a0_2, .slice (some ad314) l0_3.length c0_3, .slice A0_4 l0_4.length c0_4] 33 (0, 0)) (by (with_reducible repeat (first | refine blk_drewN ?_ _ | refine blk_drew ?_ | refine blk_alloc ?_ _)); exact BK313.out) hb); have n1_ := Aside0.mk (below_step (by repeat (first | (with_reducible first | exact HB.out | apply below_alloc | apply pw_below_drewN | apply below_drew1 | refine below_set ?_ GE313.out) | exact HB.out)) hb); clear BK313 HB; have BK313 := n0_; have HB := n1_; clear n0_ n1_; (try clear hb); (try clear hb2); (try clear hk); (try clear hi))))
                 go_ret
                 exact ⟨by first | rfl | (simp [errW_none, errW_some] <;> rfl) | (simp [*, errW_none, errW_some] <;> rfl), by repeat (first | (with_reducible first | exact HB.out | apply below_alloc | apply pw_below_drewN | apply below_drew1 | refine below_set ?_ GE313.out) | exact HB.out)⟩
               ·rw [if_neg c35] at H
                exact absurd H (by simp)
              ·rw [if_neg c34] at H
               have c34b0 : decide (x4_4 < (l0_3.length : Int)) = false := decide_eq_false c34
               clear c34
               have H' := Aside0.mk H
               clear H
               have hcz42_0 : wr.cell? ⟨gb313, 0, none⟩ = some (.int .i64 a0_0) := (blk_cell BK313.out 0).trans rfl
               have hcz42_1 : wr.cell? ⟨gb313, 1, none⟩ = some (.int .i64 a0_1) := (blk_cell BK313.out 1).trans rfl
               have hcz42_2 : wr.cell? ⟨gb313, 2, none⟩ = some (.string a0_2) := (blk_cell BK313.out 2).trans rfl
               have hcz42_3 : wr.cell? ⟨gb313, 3, none⟩ = some (.slice A0_3 l0_3.length c0_3) := (blk_cell BK313.out 3).trans rfl
               have hcz42_4 : wr.cell? ⟨gb313, 4, none⟩ = some (.slice A0_4 l0_4.length c0_4) := (blk_cell BK313.out 4).trans rfl
               have hfz42_0 := blk_frozen BK313.out 0
               have hfz42_1 := blk_frozen BK313.out 1
               have hfz42_2 := blk_frozen BK313.out 2
               have hfz42_3 := blk_frozen BK313.out 3
               have hfz42_4 := blk_frozen BK313.out 4
               go_wp2
               repeat (go_quiet (fail); try go_wp2)
               go_loopg [5] k4 (fun kq v5 w' => ∃ (x5_5 : Int), v5 = .int .i64 x5_5 ∧ Aside0 (awardingbodyref06_Check.l2 kq x5_5 a0_0 a0_1 a0_2 l0_3 l0_4 = some r) ∧ Aside0 (kq ≤ k4) ∧ Aside0 (w'.heap[gb313]? = some (.cells #[.int .i64 a0_0, .int .i64 a0_1, .string a0_2, (.slice A0_3 l0_3.length c0_3), (.slice A0_4 l0_4.length c0_4)] 33 (0, 0))) ∧ Aside0 (Below w.heap.size w w'))
               case atStart => exact ⟨(0), (by first | rfl | (simp; done) | (simp [*]; done)), H', ⟨Nat.le_refl _⟩, ⟨by (with_reducible repeat (first | refine blk_drewN ?_ _ | refine blk_drew ?_ | refine blk_alloc ?_ _)); exact BK313.out⟩, ⟨by repeat (first | (with_reducible first | exact HB.out | apply below_alloc | apply pw_below_drewN | apply below_drew1 | refine below_set ?_ GE313.out) | exact HB.out)⟩⟩
               case round =>
                clear H'
                try clear c1
                try clear c2
                try clear p2
                try clear q2
                try clear hx2
                try clear c3
                try clear p3
                try clear q3
                try clear hx3
                try clear c4
                try clear c4b0
                try clear c6
                try clear c6b0
                try clear p6
                try clear c8
                try clear c8b0
                try clear c11
                try clear c13
                try clear c13b0
                try clear c13b1
                try clear c15
                try clear c15b0
                try clear c15b1
                try clear c18
                try clear c19
                try clear c19b0
                try clear c19b1
                try clear c20
                try clear c22
                try clear c22b0
                try clear c23
                try clear c23b0
                try clear p24
                try clear q24
                try clear hx24
                try clear c25
                try clear c25b0
                try clear p27
                try clear q27
                try clear hx27
                try clear c28
                try clear c28b0
                try clear c31
                try clear c31b0
                try clear c31b1
                try clear c31b2
                try clear p31
                try clear q31
                try clear hx31
                try clear c34
                try clear c34b0
                try clear c35
                try clear c35b0
                try clear c37
                try clear hcz10_0
                try clear hcz10_1
                try clear hcz10_2
                try clear hcz10_3
                try clear hcz10_4
                try clear hcz14_0
                try clear hcz14_1
                try clear hcz14_2
                try clear hcz14_3
                try clear hcz14_4
                try clear hcz16_0
                try clear hcz16_1
                try clear hcz16_2
                try clear hcz16_3
                try clear hcz16_4
                try clear hcz17_0
                try clear hcz17_1
                try clear hcz17_2
                try clear hcz17_3
                try clear hcz17_4
                try clear hcz20_0
                try clear hcz20_1
                try clear hcz20_2
                try clear hcz20_3
                try clear hcz20_4
                try clear hcz21_0
                try clear hcz21_1
                try clear hcz21_2
                try clear hcz21_3
                try clear hcz21_4
                try clear hcz26_0
                try clear hcz26_1
                try clear hcz26_2
                try clear hcz26_3
                try clear hcz26_4
                try clear hcz29_0
                try clear hcz29_1
                try clear hcz29_2
                try clear hcz29_3
                try clear hcz29_4
                try clear hcz30_0
                try clear hcz30_1
                try clear hcz30_2
                try clear hcz30_3
                try clear hcz30_4
                try clear hcz32_0
                try clear hcz32_1
                try clear hcz32_2
                try clear hcz32_3
                try clear hcz32_4
                try clear hcz33_0
                try clear hcz33_1
                try clear hcz33_2
                try clear hcz33_3
                try clear hcz33_4
                try clear hcz38_0
                try clear hcz38_1
                try clear hcz38_2
                try clear hcz38_3
                try clear hcz38_4
                try clear hcz40_0
                try clear hcz40_1
                try clear hcz40_2
                try clear hcz40_3
                try clear hcz40_4
                try clear hcz42_0
                try clear hcz42_1
                try clear hcz42_2
                try clear hcz42_3
                try clear hcz42_4
                try clear hcz5_0
                try clear hcz5_1
                try clear hcz5_2
                try clear hcz5_3
                try clear hcz5_4
                try clear hcz7_0
                try clear hcz7_1
                try clear hcz7_2
                try clear hcz7_3
                try clear hcz7_4
                try clear hcz9_0
                try clear hcz9_1
                try clear hcz9_2
                try clear hcz9_3
                try clear hcz9_4
                try clear hfz10_0
                try clear hfz10_1
                try clear hfz10_2
                try clear hfz10_3
                try clear hfz10_4
                try clear hfz14_0
                try clear hfz14_1
                try clear hfz14_2
                try clear hfz14_3
                try clear hfz14_4
                try clear hfz16_0
                try clear hfz16_1
                try clear hfz16_2
                try clear hfz16_3
                try clear hfz16_4
                try clear hfz17_0
                try clear hfz17_1
                try clear hfz17_2
                try clear hfz17_3
                try clear hfz17_4
                try clear hfz20_0
                try clear hfz20_1
                try clear hfz20_2
                try clear hfz20_3
                try clear hfz20_4
                try clear hfz21_0
                try clear hfz21_1
                try clear hfz21_2
                try clear hfz21_3
                try clear hfz21_4
                try clear hfz26_0
                try clear hfz26_1
                try clear hfz26_2
                try clear hfz26_3
                try clear hfz26_4
                try clear hfz29_0
                try clear hfz29_1
                try clear hfz29_2
                try clear hfz29_3
                try clear hfz29_4
                try clear hfz30_0
                try clear hfz30_1
                try clear hfz30_2
                try clear hfz30_3
                try clear hfz30_4
                try clear hfz32_0
                try clear hfz32_1
                try clear hfz32_2
                try clear hfz32_3
                try clear hfz32_4
                try clear hfz33_0
                try clear hfz33_1
                try clear hfz33_2
                try clear hfz33_3
                try clear hfz33_4
                try clear hfz38_0
                try clear hfz38_1
                try clear hfz38_2
                try clear hfz38_3
                try clear hfz38_4
                try clear hfz40_0
                try clear hfz40_1
                try clear hfz40_2
                try clear hfz40_3
                try clear hfz40_4
                try clear hfz42_0
                try clear hfz42_1
                try clear hfz42_2
                try clear hfz42_3
                try clear hfz42_4
                try clear hfz5_0
                try clear hfz5_1
                try clear hfz5_2
                try clear hfz5_3
                try clear hfz5_4
                try clear hfz7_0
                try clear hfz7_1
                try clear hfz7_2
                try clear hfz7_3
                try clear hfz7_4
                try clear hfz9_0
                try clear hfz9_1
                try clear hfz9_2
                try clear hfz9_3
                try clear hfz9_4
                try clear hx314_0
                try clear hx314_1
                try clear hx314_2
                try clear hx314_3
                try clear hx314_4
                try clear hx314_5
                try clear p2
                try clear p24
                try clear p27
                try clear p314
                try clear p6
                try clear q2
                try clear q24
                try clear q27
                try clear q314
                obtain ⟨x5_5, rfl, HA, HK5, BK313, HB⟩ := hrel
                cases gk with
                | zero => exact absurd HA.out (by simp [awardingbodyref06_Check.l2])
                | succ k5 =>
                 have H := HA.out
                 clear HA
                 simp only [awardingbodyref06_Check.l2] at H
                 by_cases c43 : x5_5 < (l0_4.length : Int)
                 ·rw [if_pos c43] at H
                  have c43b0 : decide (x5_5 < (l0_4.length : Int)) = true := decide_eq_true c43
                  clear c43
                  by_cases c44 : 0 ≤ x5_5
                  ·rw [if_pos c44] at H
                   have c44b0 : decide (0 ≤ x5_5) = true := decide_eq_true c44
                   clear c44
                   by_cases c45 : (rd l0_4 x5_5) < 0
                   ·rw [if_pos c45] at H
                    have c45b0 : decide ((rd l0_4 x5_5) < 0) = true := decide_eq_true c45
                    clear c45
                    obtain rfl := Option.some.inj H
                    have hcz46_0 : wr.cell? ⟨gb313, 0, none⟩ = some (.int .i64 a0_0) := (blk_cell BK313.out 0).trans rfl
                    have hcz46_1 : wr.cell? ⟨gb313, 1, none⟩ = some (.int .i64 a0_1) := (blk_cell BK313.out 1).trans rfl
                    have hcz46_2 : wr.cell? ⟨gb313, 2, none⟩ = some (.string a0_2) := (blk_cell BK313.out 2).trans rfl
                    have hcz46_3 : wr.cell? ⟨gb313, 3, none⟩ = some (.slice A0_3 l0_3.length c0_3) := (blk_cell BK313.out 3).trans rfl
                    have hcz46_4 : wr.cell? ⟨gb313, 4, none⟩ = some (.slice A0_4 l0_4.length c0_4) := (blk_cell BK313.out 4).trans rfl
                    have hfz46_0 := blk_frozen BK313.out 0
                    have hfz46_1 := blk_frozen BK313.out 1
                    have hfz46_2 := blk_frozen BK313.out 2
                    have hfz46_3 := blk_frozen BK313.out 3
                    have hfz46_4 := blk_frozen BK313.out 4
                    have p316 : 0 ≤ (x5_5 : Int) := of_decide_eq_true (by first | (with_reducible assumption) | assumption)
                    have q316 : x5_5 < (l0_4.length : Int) := of_decide_eq_true (by first | (with_reducible assumption) | assumption)
                    obtain ⟨ad316, e316, hx316_0⟩ := Kd.at_int HR0_4.out x5_5 p316 q316
                    cases e316
                    replace hx316_0 := (HB.out.cell (World.block_lt_of_cell? w _ hx316_0)).trans hx316_0
                    replace p316 := eq_true p316
                    replace q316 := eq_true q316
                    go_wp2
                    repeat (go_quiet (fail); try go_wp2)
                    go_ret
                    exact ⟨by first | rfl | (simp [errW_none, errW_some] <;> rfl) | (simp [*, errW_none, errW_some] <;> rfl), by repeat (first | (with_reducible first | exact HB.out | apply below_alloc | apply pw_below_drewN | apply below_drew1 | refine below_set ?_ GE313.out) | exact HB.out)⟩
                   ·rw [if_neg c45] at H
                    have c45b0 : decide ((rd l0_4 x5_5) < 0) = false := decide_eq_false c45
                    clear c45
                    by_cases c47 : (rd l0_4 x5_5) > 9999
                    ·rw [if_pos c47] at H
                     have c47b0 : decide (9999 < (rd l0_4 x5_5)) = true := decide_eq_true c47
                     clear c47
                     obtain rfl := Option.some.inj H
                     have hcz48_0 : wr.cell? ⟨gb313, 0, none⟩ = some (.int .i64 a0_0) := (blk_cell BK313.out 0).trans rfl
                     have hcz48_1 : wr.cell? ⟨gb313, 1, none⟩ = some (.int .i64 a0_1) := (blk_cell BK313.out 1).trans rfl
                     have hcz48_2 : wr.cell? ⟨gb313, 2, none⟩ = some (.string a0_2) := (blk_cell BK313.out 2).trans rfl
                     have hcz48_3 : wr.cell? ⟨gb313, 3, none⟩ = some (.slice A0_3 l0_3.length c0_3) := (blk_cell BK313.out 3).trans rfl
                     have hcz48_4 : wr.cell? ⟨gb313, 4, none⟩ = some (.slice A0_4 l0_4.length c0_4) := (blk_cell BK313.out 4).trans rfl
                     have hfz48_0 := blk_frozen BK313.out 0
                     have hfz48_1 := blk_frozen BK313.out 1
                     have hfz48_2 := blk_frozen BK313.out 2
                     have hfz48_3 := blk_frozen BK313.out 3
                     have hfz48_4 := blk_frozen BK313.out 4
                     have p316 : 0 ≤ (x5_5 : Int) := of_decide_eq_true (by first | (with_reducible assumption) | assumption)
                     have q316 : x5_5 < (l0_4.length : Int) := of_decide_eq_true (by first | (with_reducible assumption) | assumption)
                     obtain ⟨ad316, e316, hx316_0⟩ := Kd.at_int HR0_4.out x5_5 p316 q316
                     cases e316
                     replace hx316_0 := (HB.out.cell (World.block_lt_of_cell? w _ hx316_0)).trans hx316_0
                     replace p316 := eq_true p316
                     replace q316 := eq_true q316
                     have p317 : 0 ≤ (x5_5 : Int) := of_decide_eq_true (by first | (with_reducible assumption) | assumption)
                     have q317 : x5_5 < (l0_4.length : Int) := of_decide_eq_true (by first | (with_reducible assumption) | assumption)
                     obtain ⟨ad317, e317, hx317_0⟩ := Kd.at_int HR0_4.out x5_5 p317 q317
                     obtain rfl : ad316 = ad317 := (by injection e317)
                     replace hx317_0 := (HB.out.cell (World.block_lt_of_cell? w _ hx317_0)).trans hx317_0
                     replace p317 := eq_true p317
                     replace q317 := eq_true q317
                     go_wp2
                     repeat (go_quiet (fail); try go_wp2)
                     go_ret
                     exact ⟨by first | rfl | (simp [errW_none, errW_some] <;> rfl) | (simp [*, errW_none, errW_some] <;> rfl), by repeat (first | (with_reducible first | exact HB.out | apply below_alloc | apply pw_below_drewN | apply below_drew1 | refine below_set ?_ GE313.out) | exact HB.out)⟩
                    ·rw [if_neg c47] at H
                     have c47b0 : decide (9999 < (rd l0_4 x5_5)) = false := decide_eq_false c47
                     clear c47
                     by_cases c49 : (rd l0_4 x5_5) = a0_0
                     ·rw [if_pos c49] at H
                      have c49b0 : ((rd l0_4 x5_5) == a0_0) = true := beq_iff_eq.mpr c49
                      have c49b1 : ((rd l0_4 x5_5) != a0_0) = false := bne_eq_false_iff_eq.mpr c49
                      clear c49
                      obtain rfl := Option.some.inj H
                      have hcz50_0 : wr.cell? ⟨gb313, 0, none⟩ = some (.int .i64 a0_0) := (blk_cell BK313.out 0).trans rfl
                      have hcz50_1 : wr.cell? ⟨gb313, 1, none⟩ = some (.int .i64 a0_1) := (blk_cell BK313.out 1).trans rfl
                      have hcz50_2 : wr.cell? ⟨gb313, 2, none⟩ = some (.string a0_2) := (blk_cell BK313.out 2).trans rfl
                      have hcz50_3 : wr.cell? ⟨gb313, 3, none⟩ = some (.slice A0_3 l0_3.length c0_3) := (blk_cell BK313.out 3).trans rfl
                      have hcz50_4 : wr.cell? ⟨gb313, 4, none⟩ = some (.slice A0_4 l0_4.length c0_4) := (blk_cell BK313.out 4).trans rfl
                      have hfz50_0 := blk_frozen BK313.out 0
                      have hfz50_1 := blk_frozen BK313.out 1
                      have hfz50_2 := blk_frozen BK313.out 2
                      have hfz50_3 := blk_frozen BK313.out 3
                      have hfz50_4 := blk_frozen BK313.out 4
                      have p316 : 0 ≤ (x5_5 : Int) := of_decide_eq_true (by first | (with_reducible assumption) | assumption)
                      have q316 : x5_5 < (l0_4.length : Int) := of_decide_eq_true (by first | (with_reducible assumption) | assumption)
                      obtain ⟨ad316, e316, hx316_0⟩ := Kd.at_int HR0_4.out x5_5 p316 q316
                      cases e316
                      replace hx316_0 := (HB.out.cell (World.block_lt_of_cell? w _ hx316_0)).trans hx316_0
                      replace p316 := eq_true p316
                      replace q316 := eq_true q316
                      have p317 : 0 ≤ (x5_5 : Int) := of_decide_eq_true (by first | (with_reducible assumption) | assumption)
                      have q317 : x5_5 < (l0_4.length : Int) := of_decide_eq_true (by first | (with_reducible assumption) | assumption)
                      obtain ⟨ad317, e317, hx317_0⟩ := Kd.at_int HR0_4.out x5_5 p317 q317
                      obtain rfl : ad316 = ad317 := (by injection e317)
                      replace hx317_0 := (HB.out.cell (World.block_lt_of_cell? w _ hx317_0)).trans hx317_0
                      replace p317 := eq_true p317
                      replace q317 := eq_true q317
                      have p318 : 0 ≤ (x5_5 : Int) := of_decide_eq_true (by first | (with_reducible assumption) | assumption)
                      have q318 : x5_5 < (l0_4.length : Int) := of_decide_eq_true (by first | (with_reducible assumption) | assumption)
                      obtain ⟨ad318, e318, hx318_0⟩ := Kd.at_int HR0_4.out x5_5 p318 q318
                      obtain rfl : ad316 = ad318 := (by injection e318)
                      replace hx318_0 := (HB.out.cell (World.block_lt_of_cell? w _ hx318_0)).trans hx318_0
                      replace p318 := eq_true p318
                      replace q318 := eq_true q318
                      go_wp2
                      repeat (go_quiet (fail); try go_wp2)
                      go_ret
                      exact ⟨by first | rfl | (simp [errW_none, errW_some] <;> rfl) | (simp [*, errW_none, errW_some] <;> rfl), by repeat (first | (with_reducible first | exact HB.out | apply below_alloc | apply pw_below_drewN | apply below_drew1 | refine below_set ?_ GE313.out) | exact HB.out)⟩
                     ·rw [if_neg c49] at H
                      have c49b0 : ((rd l0_4 x5_5) == a0_0) = false := beq_eq_false_iff_ne.mpr c49
                      have c49b1 : ((rd l0_4 x5_5) != a0_0) = true := bne_iff_ne.mpr c49
                      by_cases c51 : x5_5 > 0
                      ·rw [if_pos c51] at H
                       have c51b0 : decide (0 < x5_5) = true := decide_eq_true c51
                       clear c51
                       obtain ⟨ji52, hji52⟩ : ∃ j_ : Int, (wrap64 (x5_5 - 1)) = j_ := ⟨_, rfl⟩
                       replace H : (if 0 ≤ (ji52) then (if (ji52) < (l0_4.length : Int) then (if (rd l0_4 (ji52)) ≥ (rd l0_4 x5_5) then (some 9) else (awardingbodyref06_Check.l2 k5 (wrap64 (x5_5 + 1)) a0_0 a0_1 a0_2 l0_3 l0_4)) else (none)) else (none)) = some r := by first | (rw [hji52] at H; exact H) | (simp only [hji52] at H ⊢; exact H)
                       have hji52w : (IntKind.i64.wrap (x5_5 - 1)) = ji52 := (i64_w _).trans hji52
                       by_cases c53 : 0 ≤ (ji52)
                       ·rw [if_pos c53] at H
                        have c53b0 : decide (0 ≤ (ji52)) = true := decide_eq_true c53
                        clear c53
                        by_cases c54 : (ji52) < (l0_4.length : Int)
                        ·rw [if_pos c54] at H
                         have c54b0 : decide ((ji52) < (l0_4.length : Int)) = true := decide_eq_true c54
                         clear c54
                         by_cases c55 : (rd l0_4 (ji52)) ≥ (rd l0_4 x5_5)
                         ·rw [if_pos c55] at H
                          have c55b0 : decide ((rd l0_4 x5_5) ≤ (rd l0_4 (ji52))) = true := decide_eq_true c55
                          clear c55
                          obtain rfl := Option.some.inj H
                          have hcz56_0 : wr.cell? ⟨gb313, 0, none⟩ = some (.int .i64 a0_0) := (blk_cell BK313.out 0).trans rfl
                          have hcz56_1 : wr.cell? ⟨gb313, 1, none⟩ = some (.int .i64 a0_1) := (blk_cell BK313.out 1).trans rfl
                          have hcz56_2 : wr.cell? ⟨gb313, 2, none⟩ = some (.string a0_2) := (blk_cell BK313.out 2).trans rfl
                          have hcz56_3 : wr.cell? ⟨gb313, 3, none⟩ = some (.slice A0_3 l0_3.length c0_3) := (blk_cell BK313.out 3).trans rfl
                          have hcz56_4 : wr.cell? ⟨gb313, 4, none⟩ = some (.slice A0_4 l0_4.length c0_4) := (blk_cell BK313.out 4).trans rfl
                          have hfz56_0 := blk_frozen BK313.out 0
                          have hfz56_1 := blk_frozen BK313.out 1
                          have hfz56_2 := blk_frozen BK313.out 2
                          have hfz56_3 := blk_frozen BK313.out 3
                          have hfz56_4 := blk_frozen BK313.out 4
                          have p316 : 0 ≤ (x5_5 : Int) := of_decide_eq_true (by first | (with_reducible assumption) | assumption)
                          have q316 : x5_5 < (l0_4.length : Int) := of_decide_eq_true (by first | (with_reducible assumption) | assumption)
                          obtain ⟨ad316, e316, hx316_0⟩ := Kd.at_int HR0_4.out x5_5 p316 q316
                          cases e316
                          replace hx316_0 := (HB.out.cell (World.block_lt_of_cell? w _ hx316_0)).trans hx316_0
                          replace p316 := eq_true p316
                          replace q316 := eq_true q316
                          have p317 : 0 ≤ (x5_5 : Int) := of_decide_eq_true (by first | (with_reducible assumption) | assumption)
                          have q317 : x5_5 < (l0_4.length : Int) := of_decide_eq_true (by first | (with_reducible assumption) | assumption)
                          obtain ⟨ad317, e317, hx317_0⟩ := Kd.at_int HR0_4.out x5_5 p317 q317
                          obtain rfl : ad316 = ad317 := (by injection e317)
                          replace hx317_0 := (HB.out.cell (World.block_lt_of_cell? w _ hx317_0)).trans hx317_0
                          replace p317 := eq_true p317
                          replace q317 := eq_true q317
                          have p318 : 0 ≤ (x5_5 : Int) := of_decide_eq_true (by first | (with_reducible assumption) | assumption)
                          have q318 : x5_5 < (l0_4.length : Int) := of_decide_eq_true (by first | (with_reducible assumption) | assumption)
                          obtain ⟨ad318, e318, hx318_0⟩ := Kd.at_int HR0_4.out x5_5 p318 q318
                          obtain rfl : ad316 = ad318 := (by injection e318)
                          replace hx318_0 := (HB.out.cell (World.block_lt_of_cell? w _ hx318_0)).trans hx318_0
                          replace p318 := eq_true p318
                          replace q318 := eq_true q318
                          have p319 : 0 ≤ ((ji52) : Int) := of_decide_eq_true (by first | (with_reducible assumption) | assumption)
                          have q319 : (ji52) < (l0_4.length : Int) := of_decide_eq_true (by first | (with_reducible assumption) | assumption)
                          obtain ⟨ad319, e319, hx319_0⟩ := Kd.at_int HR0_4.out (ji52) p319 q319
                          obtain rfl : ad316 = ad319 := (by injection e319)
                          replace hx319_0 := (HB.out.cell (World.block_lt_of_cell? w _ hx319_0)).trans hx319_0
                          replace p319 := eq_true p319
                          replace q319 := eq_true q319
                          have p320 : 0 ≤ (x5_5 : Int) := of_decide_eq_true (by first | (with_reducible assumption) | assumption)
                          have q320 : x5_5 < (l0_4.length : Int) := of_decide_eq_true (by first | (with_reducible assumption) | assumption)
                          obtain ⟨ad320, e320, hx320_0⟩ := Kd.at_int HR0_4.out x5_5 p320 q320
                          obtain rfl : ad316 = ad320 := (by injection e320)
                          replace hx320_0 := (HB.out.cell (World.block_lt_of_cell? w _ hx320_0)).trans hx320_0
                          replace p320 := eq_true p320
                          replace q320 := eq_true q320
                          go_wp2
                          repeat (go_quiet (fail); try go_wp2)
                          go_ret
                          exact ⟨by first | rfl | (simp [errW_none, errW_some] <;> rfl) | (simp only [← hji52]; first | rfl | (simp [errW_none, errW_some] <;> rfl)) | (simp [*, errW_none, errW_some] <;> rfl), by repeat (first | (with_reducible first | exact HB.out | apply below_alloc | apply pw_below_drewN | apply below_drew1 | refine below_set ?_ GE313.out) | exact HB.out)⟩
                         ·rw [if_neg c55] at H
                          have c55b0 : decide ((rd l0_4 x5_5) ≤ (rd l0_4 (ji52))) = false := decide_eq_false c55
                          clear c55
                          have H' := Aside0.mk H
                          clear H
                          have hcz57_0 : wr.cell? ⟨gb313, 0, none⟩ = some (.int .i64 a0_0) := (blk_cell BK313.out 0).trans rfl
                          have hcz57_1 : wr.cell? ⟨gb313, 1, none⟩ = some (.int .i64 a0_1) := (blk_cell BK313.out 1).trans rfl
                          have hcz57_2 : wr.cell? ⟨gb313, 2, none⟩ = some (.string a0_2) := (blk_cell BK313.out 2).trans rfl
                          have hcz57_3 : wr.cell? ⟨gb313, 3, none⟩ = some (.slice A0_3 l0_3.length c0_3) := (blk_cell BK313.out 3).trans rfl
                          have hcz57_4 : wr.cell? ⟨gb313, 4, none⟩ = some (.slice A0_4 l0_4.length c0_4) := (blk_cell BK313.out 4).trans rfl
                          have hfz57_0 := blk_frozen BK313.out 0
                          have hfz57_1 := blk_frozen BK313.out 1
                          have hfz57_2 := blk_frozen BK313.out 2
                          have hfz57_3 := blk_frozen BK313.out 3
                          have hfz57_4 := blk_frozen BK313.out 4
                          have p316 : 0 ≤ (x5_5 : Int) := of_decide_eq_true (by first | (with_reducible assumption) | assumption)
                          have q316 : x5_5 < (l0_4.length : Int) := of_decide_eq_true (by first | (with_reducible assumption) | assumption)
                          obtain ⟨ad316, e316, hx316_0⟩ := Kd.at_int HR0_4.out x5_5 p316 q316
                          cases e316
                          replace hx316_0 := (HB.out.cell (World.block_lt_of_cell? w _ hx316_0)).trans hx316_0
                          replace p316 := eq_true p316
                          replace q316 := eq_true q316
                          have p317 : 0 ≤ (x5_5 : Int) := of_decide_eq_true (by first | (with_reducible assumption) | assumption)
                          have q317 : x5_5 < (l0_4.length : Int) := of_decide_eq_true (by first | (with_reducible assumption) | assumption)
                          obtain ⟨ad317, e317, hx317_0⟩ := Kd.at_int HR0_4.out x5_5 p317 q317
                          obtain rfl : ad316 = ad317 := (by injection e317)
                          replace hx317_0 := (HB.out.cell (World.block_lt_of_cell? w _ hx317_0)).trans hx317_0
                          replace p317 := eq_true p317
                          replace q317 := eq_true q317
                          have p318 : 0 ≤ (x5_5 : Int) := of_decide_eq_true (by first | (with_reducible assumption) | assumption)
                          have q318 : x5_5 < (l0_4.length : Int) := of_decide_eq_true (by first | (with_reducible assumption) | assumption)
                          obtain ⟨ad318, e318, hx318_0⟩ := Kd.at_int HR0_4.out x5_5 p318 q318
                          obtain rfl : ad316 = ad318 := (by injection e318)
                          replace hx318_0 := (HB.out.cell (World.block_lt_of_cell? w _ hx318_0)).trans hx318_0
                          replace p318 := eq_true p318
                          replace q318 := eq_true q318
                          have p319 : 0 ≤ ((ji52) : Int) := of_decide_eq_true (by first | (with_reducible assumption) | assumption)
                          have q319 : (ji52) < (l0_4.length : Int) := of_decide_eq_true (by first | (with_reducible assumption) | assumption)
                          obtain ⟨ad319, e319, hx319_0⟩ := Kd.at_int HR0_4.out (ji52) p319 q319
                          obtain rfl : ad316 = ad319 := (by injection e319)
                          replace hx319_0 := (HB.out.cell (World.block_lt_of_cell? w _ hx319_0)).trans hx319_0
                          replace p319 := eq_true p319
                          replace q319 := eq_true q319
                          have p320 : 0 ≤ (x5_5 : Int) := of_decide_eq_true (by first | (with_reducible assumption) | assumption)
                          have q320 : x5_5 < (l0_4.length : Int) := of_decide_eq_true (by first | (with_reducible assumption) | assumption)
                          obtain ⟨ad320, e320, hx320_0⟩ := Kd.at_int HR0_4.out x5_5 p320 q320
                          obtain rfl : ad316 = ad320 := (by injection e320)
                          replace hx320_0 := (HB.out.cell (World.block_lt_of_cell? w _ hx320_0)).trans hx320_0
                          replace p320 := eq_true p320
                          replace q320 := eq_true q320
                          go_wp2
                          repeat (go_quiet (fail); try go_wp2)
                          go_roundg k5
                          case measure => have := HJ1.out; have := HJ11.out; have := HK3.out; have := HK4.out; have := HK5.out; omega
                          case rel => exact ⟨(wrap64 (x5_5 + 1)), (by first | rfl | (simp; done) | (simp [*]; done)), H', ⟨by have := HJ1.out; have := HJ11.out; have := HK3.out; have := HK4.out; have := HK5.out; omega⟩, ⟨by (with_reducible repeat (first | refine blk_drewN ?_ _ | refine blk_drew ?_ | refine blk_alloc ?_ _)); exact BK313.out⟩, ⟨by repeat (first | (with_reducible first | exact HB.out | apply below_alloc | apply pw_below_drewN | apply below_drew1 | refine below_set ?_ GE313.out) | exact HB.out)⟩⟩
                        ·rw [if_neg c54] at H
                         exact absurd H (by simp)
                       ·rw [if_neg c53] at H
                        exact absurd H (by simp)
                      ·rw [if_neg c51] at H
                       have c51b0 : decide (0 < x5_5) = false := decide_eq_false c51
                       clear c51
                       have H' := Aside0.mk H
                       clear H
                       have hcz58_0 : wr.cell? ⟨gb313, 0, none⟩ = some (.int .i64 a0_0) := (blk_cell BK313.out 0).trans rfl
                       have hcz58_1 : wr.cell? ⟨gb313, 1, none⟩ = some (.int .i64 a0_1) := (blk_cell BK313.out 1).trans rfl
                       have hcz58_2 : wr.cell? ⟨gb313, 2, none⟩ = some (.string a0_2) := (blk_cell BK313.out 2).trans rfl
                       have hcz58_3 : wr.cell? ⟨gb313, 3, none⟩ = some (.slice A0_3 l0_3.length c0_3) := (blk_cell BK313.out 3).trans rfl
                       have hcz58_4 : wr.cell? ⟨gb313, 4, none⟩ = some (.slice A0_4 l0_4.length c0_4) := (blk_cell BK313.out 4).trans rfl
                       have hfz58_0 := blk_frozen BK313.out 0
                       have hfz58_1 := blk_frozen BK313.out 1
                       have hfz58_2 := blk_frozen BK313.out 2
                       have hfz58_3 := blk_frozen BK313.out 3
                       have hfz58_4 := blk_frozen BK313.out 4
                       have p316 : 0 ≤ (x5_5 : Int) := of_decide_eq_true (by first | (with_reducible assumption) | assumption)
                       have q316 : x5_5 < (l0_4.length : Int) := of_decide_eq_true (by first | (with_reducible assumption) | assumption)
                       obtain ⟨ad316, e316, hx316_0⟩ := Kd.at_int HR0_4.out x5_5 p316 q316
                       cases e316
                       replace hx316_0 := (HB.out.cell (World.block_lt_of_cell? w _ hx316_0)).trans hx316_0
                       replace p316 := eq_true p316
                       replace q316 := eq_true q316
                       have p317 : 0 ≤ (x5_5 : Int) := of_decide_eq_true (by first | (with_reducible assumption) | assumption)
                       have q317 : x5_5 < (l0_4.length : Int) := of_decide_eq_true (by first | (with_reducible assumption) | assumption)
                       obtain ⟨ad317, e317, hx317_0⟩ := Kd.at_int HR0_4.out x5_5 p317 q317
                       obtain rfl : ad316 = ad317 := (by injection e317)
                       replace hx317_0 := (HB.out.cell (World.block_lt_of_cell? w _ hx317_0)).trans hx317_0
                       replace p317 := eq_true p317
                       replace q317 := eq_true q317
                       have p318 : 0 ≤ (x5_5 : Int) := of_decide_eq_true (by first | (with_reducible assumption) | assumption)
                       have q318 : x5_5 < (l0_4.length : Int) := of_decide_eq_true (by first | (with_reducible assumption) | assumption)
                       obtain ⟨ad318, e318, hx318_0⟩ := Kd.at_int HR0_4.out x5_5 p318 q318
                       obtain rfl : ad316 = ad318 := (by injection e318)
                       replace hx318_0 := (HB.out.cell (World.block_lt_of_cell? w _ hx318_0)).trans hx318_0
                       replace p318 := eq_true p318
                       replace q318 := eq_true q318
                       go_wp2
                       repeat (go_quiet (fail); try go_wp2)
                       go_roundg k5
                       case measure => have := HJ1.out; have := HJ11.out; have := HK3.out; have := HK4.out; have := HK5.out; omega
                       case rel => exact ⟨(wrap64 (x5_5 + 1)), (by first | rfl | (simp; done) | (simp [*]; done)), H', ⟨by have := HJ1.out; have := HJ11.out; have := HK3.out; have := HK4.out; have := HK5.out; omega⟩, ⟨by (with_reducible repeat (first | refine blk_drewN ?_ _ | refine blk_drew ?_ | refine blk_alloc ?_ _)); exact BK313.out⟩, ⟨by repeat (first | (with_reducible first | exact HB.out | apply below_alloc | apply pw_below_drewN | apply below_drew1 | refine below_set ?_ GE313.out) | exact HB.out)⟩⟩
                  ·rw [if_neg c44] at H
                   exact absurd H (by simp)
                 ·rw [if_neg c43] at H
                  have c43b0 : decide (x5_5 < (l0_4.length : Int)) = false := decide_eq_false c43
                  clear c43
                  obtain rfl := Option.some.inj H
                  have hcz59_0 : wr.cell? ⟨gb313, 0, none⟩ = some (.int .i64 a0_0) := (blk_cell BK313.out 0).trans rfl
                  have hcz59_1 : wr.cell? ⟨gb313, 1, none⟩ = some (.int .i64 a0_1) := (blk_cell BK313.out 1).trans rfl
                  have hcz59_2 : wr.cell? ⟨gb313, 2, none⟩ = some (.string a0_2) := (blk_cell BK313.out 2).trans rfl
                  have hcz59_3 : wr.cell? ⟨gb313, 3, none⟩ = some (.slice A0_3 l0_3.length c0_3) := (blk_cell BK313.out 3).trans rfl
                  have hcz59_4 : wr.cell? ⟨gb313, 4, none⟩ = some (.slice A0_4 l0_4.length c0_4) := (blk_cell BK313.out 4).trans rfl
                  have hfz59_0 := blk_frozen BK313.out 0
                  have hfz59_1 := blk_frozen BK313.out 1
                  have hfz59_2 := blk_frozen BK313.out 2
                  have hfz59_3 := blk_frozen BK313.out 3
                  have hfz59_4 := blk_frozen BK313.out 4
                  go_wp2
                  repeat (go_quiet (fail); try go_wp2)
                  go_ret
                  exact ⟨by first | rfl | (simp [errW_none, errW_some] <;> rfl) | (simp [*, errW_none, errW_some] <;> rfl), by repeat (first | (with_reducible first | exact HB.out | apply below_alloc | apply pw_below_drewN | apply below_drew1 | refine below_set ?_ GE313.out) | exact HB.out)⟩

end Go.Proofs.Ytinmdoemkejanaa.Print
