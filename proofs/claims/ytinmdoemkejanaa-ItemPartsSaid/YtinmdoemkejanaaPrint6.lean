-- Printed by a program of this session (wip/own_print.py) out of the translation; Lean checks it.
import Derived.Test.YtinmdoemkejanaaPrint0
import Derived.Test.YtinmdoemkejanaaPrint1
namespace Go.Proofs.Ytinmdoemkejanaa.Print
open Go.RowKit Go.Proofs.YtinmdoemkejanaaW.PrintWords Go.Proofs.YtinmdoemkejanaaW.PrintLast Go.Proofs.YtinmdoemkejanaaW.PrintMore
attribute [local go_sem] max2_int min2_int max_two min_two max_three min_three max_four min_four   -- for this text's walks alone
set_option linter.unusedVariables false
set_option linter.unusedSimpArgs false

attribute [local go_sem high] eqA23
/-! ### item_Material: function 25 -/
def item_Material.l0 : Nat → List Int → Int → Int → Int → Int → ByteArray → List (S23) → List Int → Int → Int → ByteArray → List (S23) → List Int → Option (List Int)
  | 0, _, _, _, _, _, _, _, _, _, _, _, _, _ => none
  | k + 1, x5, x13, x14, x136000, x136001, x136002, x136003, x136004, x137000, x137001, x137002, x137003, x137004 => if x14 < x13 then (if x14 ≥ (x136003.length : Int) then (if x5.length < 17592186044416 then (item_Material.l0 k (x5 ++ [x14]) x13 (wrap64 (x14 + 1)) x136000 x136001 x136002 x136003 x136004 x137000 x137001 x137002 x137003 x137004) else (none)) else (if x14 ≥ (x137003.length : Int) then (if x5.length < 17592186044416 then (item_Material.l0 k (x5 ++ [x14]) x13 (wrap64 (x14 + 1)) x136000 x136001 x136002 x136003 x136004 x137000 x137001 x137002 x137003 x137004) else (none)) else (if 0 ≤ x14 then (if x14 < (x136003.length : Int) then (if x14 < (x137003.length : Int) then (if (!(((rd_T23 x136003 x14).f0) == ((rd_T23 x137003 x14).f0)) || (!(((rd_T23 x136003 x14).f1) == ((rd_T23 x137003 x14).f1)) || (!(((rd_T23 x136003 x14).f2) == ((rd_T23 x137003 x14).f2)) || (!(((rd_T23 x136003 x14).f3) == ((rd_T23 x137003 x14).f3)) || (!(((rd_T23 x136003 x14).f4) == ((rd_T23 x137003 x14).f4)) || (!(((rd_T23 x136003 x14).f5) == ((rd_T23 x137003 x14).f5)))))))) = true then (if x5.length < 17592186044416 then (item_Material.l0 k (x5 ++ [x14]) x13 (wrap64 (x14 + 1)) x136000 x136001 x136002 x136003 x136004 x137000 x137001 x137002 x137003 x137004) else (none)) else (item_Material.l0 k x5 x13 (wrap64 (x14 + 1)) x136000 x136001 x136002 x136003 x136004 x137000 x137001 x137002 x137003 x137004)) else (none)) else (none)) else (none)))) else (some x5)
def item_Material.f (k : Nat) (a0_0 : Int) (a0_1 : Int) (a0_2 : ByteArray) (l0_3 : List (S23)) (l0_4 : List Int) (a1_0 : Int) (a1_1 : Int) (a1_2 : ByteArray) (l1_3 : List (S23)) (l1_4 : List Int) : Option (List Int) := item_Material.l0 k ([] : List Int) (mx (l0_3.length : Int) (l1_3.length : Int)) 0 a0_0 a0_1 a0_2 l0_3 l0_4 a1_0 a1_1 a1_2 l1_3 l1_4
theorem item_Material.mono_l : ∀ k, (∀ y0 y1 y2 y3 y4 y5 y6 y7 y8 y9 y10 y11 y12, LeO (item_Material.l0 k y0 y1 y2 y3 y4 y5 y6 y7 y8 y9 y10 y11 y12) (item_Material.l0 (k + 1) y0 y1 y2 y3 y4 y5 y6 y7 y8 y9 y10 y11 y12))
  | 0 => fun _ _ _ _ _ _ _ _ _ _ _ _ _ r h => by simp [item_Material.l0] at h
  | k + 1 => by
    have ih0 := item_Material.mono_l k
    · intro y0 y1 y2 y3 y4 y5 y6 y7 y8 y9 y10 y11 y12
      unfold item_Material.l0
      repeat' first
      | (with_reducible exact ih0 _ _ _ _ _ _ _ _ _ _ _ _ _)
      | (with_reducible exact LeO.refl _)
      | (with_reducible exact LeO.none _)
      | (with_reducible refine LeO.ite ?_ ?_)
      | (with_reducible refine LeO.bind ?_ (fun _ => ?_))
      | exact ih0 _ _ _ _ _ _ _ _ _ _ _ _ _
      | exact LeO.none _
      | refine LeO.ite ?_ ?_
      | refine LeO.bind ?_ (fun _ => ?_)
theorem item_Material.mono : ∀ a0 a1 a2 a3 a4 a5 a6 a7 a8 a9 k, LeO (item_Material.f k a0 a1 a2 a3 a4 a5 a6 a7 a8 a9) (item_Material.f (k + 1) a0 a1 a2 a3 a4 a5 a6 a7 a8 a9) := by
  intro a0 a1 a2 a3 a4 a5 a6 a7 a8 a9 k
  have ih0 := item_Material.mono_l k
  unfold item_Material.f
  repeat' first
      | (with_reducible exact ih0 _ _ _ _ _ _ _ _ _ _ _ _ _)
      | (with_reducible exact LeO.refl _)
      | (with_reducible exact LeO.none _)
      | (with_reducible refine LeO.ite ?_ ?_)
      | (with_reducible refine LeO.bind ?_ (fun _ => ?_))
      | exact ih0 _ _ _ _ _ _ _ _ _ _ _ _ _
      | exact LeO.none _
      | refine LeO.ite ?_ ?_
      | refine LeO.bind ?_ (fun _ => ?_)
set_option maxHeartbeats 8000000 in
set_option maxRecDepth 100000 in
theorem item_Material.calls (k : Nat) (a0_0 : Int) (a0_1 : Int) (a0_2 : ByteArray) (A0_3 : Option Addr) (c0_3 : Nat) (l0_3 : List (S23)) (A0_4 : Option Addr) (c0_4 : Nat) (l0_4 : List Int) (a1_0 : Int) (a1_1 : Int) (a1_2 : ByteArray) (A1_3 : Option Addr) (c1_3 : Nat) (l1_3 : List (S23)) (A1_4 : Option Addr) (c1_4 : Nat) (l1_4 : List Int) (r : List Int) (w : World) (hr0_3 : Kd.C k23 w A0_3 l0_3.length l0_3) (hc0_3 : l0_3.length ≤ c0_3) (hr0_4 : Kd.C (Kd.int .i64) w A0_4 l0_4.length l0_4) (hc0_4 : l0_4.length ≤ c0_4) (hr1_3 : Kd.C k23 w A1_3 l1_3.length l1_3) (hc1_3 : l1_3.length ≤ c1_3) (hr1_4 : Kd.C (Kd.int .i64) w A1_4 l1_4.length l1_4) (hc1_4 : l1_4.length ≤ c1_4) (h : item_Material.f k a0_0 a0_1 a0_2 l0_3 l0_4 a1_0 a1_1 a1_2 l1_3 l1_4 = some r) :
    Calls Try.prog 25 #[.agg #[.int .i64 a0_0, .int .i64 a0_1, .string a0_2, .slice A0_3 l0_3.length c0_3, .slice A0_4 l0_4.length c0_4], .agg #[.int .i64 a1_0, .int .i64 a1_1, .string a1_2, .slice A1_3 l1_3.length c1_3, .slice A1_4 l1_4.length c1_4]] w fun e w' => ∃ v0_ : Value, e = .returned (v0_) ∧ Kd.R (Kd.int .i64) 3 w' w.heap.size (fun _ => True) v0_ r ∧ Below w.heap.size w w' := by
 have hu33 := Try.underlying33
 have hu23 := Try.underlying23
 have HR0_3 := Aside0.mk hr0_3
 have HC0_3 := Aside0.mk hc0_3
 clear hr0_3 hc0_3
 have HR0_4 := Aside0.mk hr0_4
 have HC0_4 := Aside0.mk hc0_4
 clear hr0_4 hc0_4
 have HR1_3 := Aside0.mk hr1_3
 have HC1_3 := Aside0.mk hc1_3
 clear hr1_3 hc1_3
 have HR1_4 := Aside0.mk hr1_4
 have HC1_4 := Aside0.mk hc1_4
 clear hr1_4 hc1_4
 have HB := Aside0.mk (Below.refl w.heap.size w)
 have H : (item_Material.l0 k ([] : List Int) (mx (l0_3.length : Int) (l1_3.length : Int)) 0 a0_0 a0_1 a0_2 l0_3 l0_4 a1_0 a1_1 a1_2 l1_3 l1_4) = some r := h
 clear h
 obtain ⟨ji3, hji3⟩ : ∃ j_ : Int, (mx (l0_3.length : Int) (l1_3.length : Int)) = j_ := ⟨_, rfl⟩
 replace H : (item_Material.l0 k ([] : List Int) ji3 0 a0_0 a0_1 a0_2 l0_3 l0_4 a1_0 a1_1 a1_2 l1_3 l1_4) = some r := by first | (rw [hji3] at H; exact H) | (simp only [hji3] at H ⊢; exact H)
 (try (have hji3l : 0 ≤ ji3 := by (rw [← hji3]; unfold mx; (repeat' split) <;> omega)))
 (try (have hji3m : 0 ≤ ji3 := by omega))
 have hji3_ : (if (l0_3.length : Int) < (l1_3.length : Int) then (l1_3.length : Int) else (l0_3.length : Int)) = ji3 := hji3
 have hji3n : (if l0_3.length < l1_3.length then (l1_3.length : Int) else (l0_3.length : Int)) = ji3 := by rw [← hji3_]; simp only [Int.ofNat_lt]
 have H' := Aside0.mk H
 clear H
 go_enter Try.func25, Try.ntmps25
 go_wp2_with (first | ((with_reducible refine gate_dst (N := 2) rfl ?_); (try (refine gate_guard (by rfl) ?_; dsimp only)); refine box_event ?hg (N := 2) ?hd (cs := #[.int .i64 a0_0, .int .i64 a0_1, .string a0_2, .slice A0_3 l0_3.length c0_3, .slice A0_4 l0_4.length c0_4]) (t := 33) ?hr ?_; (case hd => rfl); (case hg => rfl); (case hr => first | (go_simp; done) | (go_simp; rfl)); intro gb135 hg w4 hbox hb; have n0_ := Aside0.mk (below_step (by repeat (first | (with_reducible first | exact HB.out | apply below_alloc | apply pw_below_drewN | apply below_drew1) | exact HB.out)) hb); have n1_ := Aside0.mk (hbox); have n2_ := Aside0.mk ((by rw [hg]; exact (below_size (by repeat (first | (with_reducible first | exact HB.out | apply below_alloc | apply pw_below_drewN | apply below_drew1) | exact HB.out))) : w.heap.size ≤ gb135)); have n3_ := Aside0.mk ((by rw [hg]; exact (below_size (by repeat (first | (with_reducible first | exact HB.out | apply below_alloc | apply pw_below_drewN | apply below_drew1) | exact HB.out))) : w.heap.size ≤ gb135)); clear HB; have HB := n0_; have BK135 := n1_; have GW135 := n2_; have GE135 := n3_; clear n0_ n1_ n2_ n3_ hb hbox hg) | ((with_reducible refine gate_dst (N := 3) rfl ?_); (try (refine gate_guard (by rfl) ?_; dsimp only)); refine box_event ?hg (N := 3) ?hd (cs := #[.int .i64 a1_0, .int .i64 a1_1, .string a1_2, .slice A1_3 l1_3.length c1_3, .slice A1_4 l1_4.length c1_4]) (t := 33) ?hr ?_; (case hd => rfl); (case hg => rfl); (case hr => first | (go_simp; done) | (go_simp; rfl)); intro gb136 hg w5 hbox hb; have n0_ := Aside0.mk (blk_below (g := gb135) (o := .cells #[.int .i64 a0_0, .int .i64 a0_1, .string a0_2, .slice A0_3 l0_3.length c0_3, .slice A0_4 l0_4.length c0_4] 33 (0, 0)) (by (with_reducible repeat (first | refine blk_drewN ?_ _ | refine blk_drew ?_ | refine blk_alloc ?_ _)); exact BK135.out) hb); have n1_ := Aside0.mk (below_step (by repeat (first | (with_reducible first | exact HB.out | apply below_alloc | apply pw_below_drewN | apply below_drew1 | refine below_set ?_ GE135.out) | exact HB.out)) hb); have n2_ := Aside0.mk (hbox); have n3_ := Aside0.mk ((by rw [hg]; exact (below_size (by repeat (first | (with_reducible first | exact HB.out | apply below_alloc | apply pw_below_drewN | apply below_drew1 | refine below_set ?_ GE135.out) | exact HB.out))) : w.heap.size ≤ gb136)); have n4_ := Aside0.mk ((by rw [hg]; exact (below_size (by repeat (first | (with_reducible first | exact HB.out | apply below_alloc | apply pw_below_drewN | apply below_drew1 | refine below_set ?_ GE135.out) | exact HB.out))) : w.heap.size ≤ gb136)); have n5_ := Aside0.mk ((by rw [hg]; exact Nat.ne_of_lt (blk_lt (g := gb135) (o := .cells #[.int .i64 a0_0, .int .i64 a0_1, .string a0_2, .slice A0_3 l0_3.length c0_3, .slice A0_4 l0_4.length c0_4] 33 (0, 0)) (by (with_reducible repeat (first | refine blk_drewN ?_ _ | refine blk_drew ?_ | refine blk_alloc ?_ _)); exact BK135.out)) : gb135 ≠ gb136)); have n6_ := Aside0.mk ((by rw [hg]; exact Nat.ne_of_gt (blk_lt (g := gb135) (o := .cells #[.int .i64 a0_0, .int .i64 a0_1, .string a0_2, .slice A0_3 l0_3.length c0_3, .slice A0_4 l0_4.length c0_4] 33 (0, 0)) (by (with_reducible repeat (first | refine blk_drewN ?_ _ | refine blk_drew ?_ | refine blk_alloc ?_ _)); exact BK135.out)) : gb136 ≠ gb135)); clear BK135 HB; have BK135 := n0_; have HB := n1_; have BK136 := n2_; have GW136 := n3_; have GE136 := n4_; have NB135_136 := n5_; have NB136_135 := n6_; clear n0_ n1_ n2_ n3_ n4_ n5_ n6_ hb hbox hg; have hnb6 := NB135_136.out; have hnc6 := NB136_135.out; have hcz7_0 : w5.cell? ⟨gb135, 0, none⟩ = some (.int .i64 a0_0) := (blk_cell BK135.out 0).trans rfl; have hcz7_1 : w5.cell? ⟨gb135, 1, none⟩ = some (.int .i64 a0_1) := (blk_cell BK135.out 1).trans rfl; have hcz7_2 : w5.cell? ⟨gb135, 2, none⟩ = some (.string a0_2) := (blk_cell BK135.out 2).trans rfl; have hcz7_3 : w5.cell? ⟨gb135, 3, none⟩ = some (.slice A0_3 l0_3.length c0_3) := (blk_cell BK135.out 3).trans rfl; have hcz7_4 : w5.cell? ⟨gb135, 4, none⟩ = some (.slice A0_4 l0_4.length c0_4) := (blk_cell BK135.out 4).trans rfl; have hfz7_0 := blk_frozen BK135.out 0; have hfz7_1 := blk_frozen BK135.out 1; have hfz7_2 := blk_frozen BK135.out 2; have hfz7_3 := blk_frozen BK135.out 3; have hfz7_4 := blk_frozen BK135.out 4; have hcz8_0 : w5.cell? ⟨gb136, 0, none⟩ = some (.int .i64 a1_0) := (blk_cell BK136.out 0).trans rfl; have hcz8_1 : w5.cell? ⟨gb136, 1, none⟩ = some (.int .i64 a1_1) := (blk_cell BK136.out 1).trans rfl; have hcz8_2 : w5.cell? ⟨gb136, 2, none⟩ = some (.string a1_2) := (blk_cell BK136.out 2).trans rfl; have hcz8_3 : w5.cell? ⟨gb136, 3, none⟩ = some (.slice A1_3 l1_3.length c1_3) := (blk_cell BK136.out 3).trans rfl; have hcz8_4 : w5.cell? ⟨gb136, 4, none⟩ = some (.slice A1_4 l1_4.length c1_4) := (blk_cell BK136.out 4).trans rfl; have hfz8_0 := blk_frozen BK136.out 0; have hfz8_1 := blk_frozen BK136.out 1; have hfz8_2 := blk_frozen BK136.out 2; have hfz8_3 := blk_frozen BK136.out 3; have hfz8_4 := blk_frozen BK136.out 4))
 repeat (go_quiet (first | ((with_reducible refine gate_dst (N := 2) rfl ?_); (try (refine gate_guard (by rfl) ?_; dsimp only)); refine box_event ?hg (N := 2) ?hd (cs := #[.int .i64 a0_0, .int .i64 a0_1, .string a0_2, .slice A0_3 l0_3.length c0_3, .slice A0_4 l0_4.length c0_4]) (t := 33) ?hr ?_; (case hd => rfl); (case hg => rfl); (case hr => first | (go_simp; done) | (go_simp; rfl)); intro gb135 hg w4 hbox hb; have n0_ := Aside0.mk (below_step (by repeat (first | (with_reducible first | exact HB.out | apply below_alloc | apply pw_below_drewN | apply below_drew1) | exact HB.out)) hb); have n1_ := Aside0.mk (hbox); have n2_ := Aside0.mk ((by rw [hg]; exact (below_size (by repeat (first | (with_reducible first | exact HB.out | apply below_alloc | apply pw_below_drewN | apply below_drew1) | exact HB.out))) : w.heap.size ≤ gb135)); have n3_ := Aside0.mk ((by rw [hg]; exact (below_size (by repeat (first | (with_reducible first | exact HB.out | apply below_alloc | apply pw_below_drewN | apply below_drew1) | exact HB.out))) : w.heap.size ≤ gb135)); clear HB; have HB := n0_; have BK135 := n1_; have GW135 := n2_; have GE135 := n3_; clear n0_ n1_ n2_ n3_ hb hbox hg) | ((with_reducible refine gate_dst (N := 3) rfl ?_); (try (refine gate_guard (by rfl) ?_; dsimp only)); refine box_event ?hg (N := 3) ?hd (cs := #[.int .i64 a1_0, .int .i64 a1_1, .string a1_2, .slice A1_3 l1_3.length c1_3, .slice A1_4 l1_4.length c1_4]) (t := 33) ?hr ?_; (case hd => rfl); (case hg => rfl); (case hr => first | (go_simp; done) | (go_simp; rfl)); intro gb136 hg w5 hbox hb; have n0_ := Aside0.mk (blk_below (g := gb135) (o := .cells #[.int .i64 a0_0, .int .i64 a0_1, .string a0_2, .slice A0_3 l0_3.length c0_3, .slice A0_4 l0_4.length c0_4] 33 (0, 0)) (by (with_reducible repeat (first | refine blk_drewN ?_ _ | refine blk_drew ?_ | refine blk_alloc ?_ _)); exact BK135.out) hb); have n1_ := Aside0.mk (below_step (by repeat (first | (with_reducible first | exact HB.out | apply below_alloc | apply pw_below_drewN | apply below_drew1 | refine below_set ?_ GE135.out) | exact HB.out)) hb); have n2_ := Aside0.mk (hbox); have n3_ := Aside0.mk ((by rw [hg]; exact (below_size (by repeat (first | (with_reducible first | exact HB.out | apply below_alloc | apply pw_below_drewN | apply below_drew1 | refine below_set ?_ GE135.out) | exact HB.out))) : w.heap.size ≤ gb136)); have n4_ := Aside0.mk ((by rw [hg]; exact (below_size (by repeat (first | (with_reducible first | exact HB.out | apply below_alloc | apply pw_below_drewN | apply below_drew1 | refine below_set ?_ GE135.out) | exact HB.out))) : w.heap.size ≤ gb136)); have n5_ := Aside0.mk ((by rw [hg]; exact Nat.ne_of_lt (blk_lt (g := gb135) (o := .cells #[.int .i64 a0_0, .int .i64 a0_1, .string a0_2, .slice A0_3 l0_3.length c0_3, .slice A0_4 l0_4.length c0_4] 33 (0, 0)) (by (with_reducible repeat (first | refine blk_drewN ?_ _ | refine blk_drew ?_ | refine blk_alloc ?_ _)); exact BK135.out)) : gb135 ≠ gb136)); have n6_ := Aside0.mk ((by rw [hg]; exact Nat.ne_of_gt (blk_lt (g := gb135) (o := .cells #[.int .i64 a0_0, .int .i64 a0_1, .string a0_2, .slice A0_3 l0_3.length c0_3, .slice A0_4 l0_4.length c0_4] 33 (0, 0)) (by (with_reducible repeat (first | refine blk_drewN ?_ _ | refine blk_drew ?_ | refine blk_alloc ?_ _)); exact BK135.out)) : gb136 ≠ gb135)); clear BK135 HB; have BK135 := n0_; have HB := n1_; have BK136 := n2_; have GW136 := n3_; have GE136 := n4_; have NB135_136 := n5_; have NB136_135 := n6_; clear n0_ n1_ n2_ n3_ n4_ n5_ n6_ hb hbox hg; have hnb6 := NB135_136.out; have hnc6 := NB136_135.out; have hcz7_0 : w5.cell? ⟨gb135, 0, none⟩ = some (.int .i64 a0_0) := (blk_cell BK135.out 0).trans rfl; have hcz7_1 : w5.cell? ⟨gb135, 1, none⟩ = some (.int .i64 a0_1) := (blk_cell BK135.out 1).trans rfl; have hcz7_2 : w5.cell? ⟨gb135, 2, none⟩ = some (.string a0_2) := (blk_cell BK135.out 2).trans rfl; have hcz7_3 : w5.cell? ⟨gb135, 3, none⟩ = some (.slice A0_3 l0_3.length c0_3) := (blk_cell BK135.out 3).trans rfl; have hcz7_4 : w5.cell? ⟨gb135, 4, none⟩ = some (.slice A0_4 l0_4.length c0_4) := (blk_cell BK135.out 4).trans rfl; have hfz7_0 := blk_frozen BK135.out 0; have hfz7_1 := blk_frozen BK135.out 1; have hfz7_2 := blk_frozen BK135.out 2; have hfz7_3 := blk_frozen BK135.out 3; have hfz7_4 := blk_frozen BK135.out 4; have hcz8_0 : w5.cell? ⟨gb136, 0, none⟩ = some (.int .i64 a1_0) := (blk_cell BK136.out 0).trans rfl; have hcz8_1 : w5.cell? ⟨gb136, 1, none⟩ = some (.int .i64 a1_1) := (blk_cell BK136.out 1).trans rfl; have hcz8_2 : w5.cell? ⟨gb136, 2, none⟩ = some (.string a1_2) := (blk_cell BK136.out 2).trans rfl; have hcz8_3 : w5.cell? ⟨gb136, 3, none⟩ = some (.slice A1_3 l1_3.length c1_3) := (blk_cell BK136.out 3).trans rfl; have hcz8_4 : w5.cell? ⟨gb136, 4, none⟩ = some (.slice A1_4 l1_4.length c1_4) := (blk_cell BK136.out 4).trans rfl; have hfz8_0 := blk_frozen BK136.out 0; have hfz8_1 := blk_frozen BK136.out 1; have hfz8_2 := blk_frozen BK136.out 2; have hfz8_3 := blk_frozen BK136.out 3; have hfz8_4 := blk_frozen BK136.out 4)); try go_wp2_with (first | ((with_reducible refine gate_dst (N := 2) rfl ?_); (try (refine gate_guard (by rfl) ?_; dsimp only)); refine box_event ?hg (N := 2) ?hd (cs := #[.int .i64 a0_0, .int .i64 a0_1, .string a0_2, .slice A0_3 l0_3.length c0_3, .slice A0_4 l0_4.length c0_4]) (t := 33) ?hr ?_; (case hd => rfl); (case hg => rfl); (case hr => first | (go_simp; done) | (go_simp; rfl)); intro gb135 hg w4 hbox hb; have n0_ := Aside0.mk (below_step (by repeat (first | (with_reducible first | exact HB.out | apply below_alloc | apply pw_below_drewN | apply below_drew1) | exact HB.out)) hb); have n1_ := Aside0.mk (hbox); have n2_ := Aside0.mk ((by rw [hg]; exact (below_size (by repeat (first | (with_reducible first | exact HB.out | apply below_alloc | apply pw_below_drewN | apply below_drew1) | exact HB.out))) : w.heap.size ≤ gb135)); have n3_ := Aside0.mk ((by rw [hg]; exact (below_size (by repeat (first | (with_reducible first | exact HB.out | apply below_alloc | apply pw_below_drewN | apply below_drew1) | exact HB.out))) : w.heap.size ≤ gb135)); clear HB; have HB := n0_; have BK135 := n1_; have GW135 := n2_; have GE135 := n3_; clear n0_ n1_ n2_ n3_ hb hbox hg) | ((with_reducible refine gate_dst (N := 3) rfl ?_); (try (refine gate_guard (by rfl) ?_; dsimp only)); refine box_event ?hg (N := 3) ?hd (cs := #[.int .i64 a1_0, .int .i64 a1_1, .string a1_2, .slice A1_3 l1_3.length c1_3, .slice A1_4 l1_4.length c1_4]) (t := 33) ?hr ?_; (case hd => rfl); (case hg => rfl); (case hr => first | (go_simp; done) | (go_simp; rfl)); intro gb136 hg w5 hbox hb; have n0_ := Aside0.mk (blk_below (g := gb135) (o := .cells #[.int .i64 a0_0, .int .i64 a0_1, .string a0_2, .slice A0_3 l0_3.length c0_3, .slice A0_4 l0_4.length c0_4] 33 (0, 0)) (by (with_reducible repeat (first | refine blk_drewN ?_ _ | refine blk_drew ?_ | refine blk_alloc ?_ _)); exact BK135.out) hb); have n1_ := Aside0.mk (below_step (by repeat (first | (with_reducible first | exact HB.out | apply below_alloc | apply pw_below_drewN | apply below_drew1 | refine below_set ?_ GE135.out) | exact HB.out)) hb); have n2_ := Aside0.mk (hbox); have n3_ := Aside0.mk ((by rw [hg]; exact (below_size (by repeat (first | (with_reducible first | exact HB.out | apply below_alloc | apply pw_below_drewN | apply below_drew1 | refine below_set ?_ GE135.out) | exact HB.out))) : w.heap.size ≤ gb136)); have n4_ := Aside0.mk ((by rw [hg]; exact (below_size (by repeat (first | (with_reducible first | exact HB.out | apply below_alloc | apply pw_below_drewN | apply below_drew1 | refine below_set ?_ GE135.out) | exact HB.out))) : w.heap.size ≤ gb136)); have n5_ := Aside0.mk ((by rw [hg]; exact Nat.ne_of_lt (blk_lt (g := gb135) (o := .cells #[.int .i64 a0_0, .int .i64 a0_1, .string a0_2, .slice A0_3 l0_3.length c0_3, .slice A0_4 l0_4.length c0_4] 33 (0, 0)) (by (with_reducible repeat (first | refine blk_drewN ?_ _ | refine blk_drew ?_ | refine blk_alloc ?_ _)); exact BK135.out)) : gb135 ≠ gb136)); have n6_ := Aside0.mk ((by rw [hg]; exact Nat.ne_of_gt (blk_lt (g := gb135) (o := .cells #[.int .i64 a0_0, .int .i64 a0_1, .string a0_2, .slice A0_3 l0_3.length c0_3, .slice A0_4 l0_4.length c0_4] 33 (0, 0)) (by (with_reducible repeat (first | refine blk_drewN ?_ _ | refine blk_drew ?_ | refine blk_alloc ?_ _)); exact BK135.out)) : gb136 ≠ gb135)); clear BK135 HB; have BK135 := n0_; have HB := n1_; have BK136 := n2_; have GW136 := n3_; have GE136 := n4_; have NB135_136 := n5_; have NB136_135 := n6_; clear n0_ n1_ n2_ n3_ n4_ n5_ n6_ hb hbox hg; have hnb6 := NB135_136.out; have hnc6 := NB136_135.out; have hcz7_0 : w5.cell? ⟨gb135, 0, none⟩ = some (.int .i64 a0_0) := (blk_cell BK135.out 0).trans rfl; have hcz7_1 : w5.cell? ⟨gb135, 1, none⟩ = some (.int .i64 a0_1) := (blk_cell BK135.out 1).trans rfl; have hcz7_2 : w5.cell? ⟨gb135, 2, none⟩ = some (.string a0_2) := (blk_cell BK135.out 2).trans rfl; have hcz7_3 : w5.cell? ⟨gb135, 3, none⟩ = some (.slice A0_3 l0_3.length c0_3) := (blk_cell BK135.out 3).trans rfl; have hcz7_4 : w5.cell? ⟨gb135, 4, none⟩ = some (.slice A0_4 l0_4.length c0_4) := (blk_cell BK135.out 4).trans rfl; have hfz7_0 := blk_frozen BK135.out 0; have hfz7_1 := blk_frozen BK135.out 1; have hfz7_2 := blk_frozen BK135.out 2; have hfz7_3 := blk_frozen BK135.out 3; have hfz7_4 := blk_frozen BK135.out 4; have hcz8_0 : w5.cell? ⟨gb136, 0, none⟩ = some (.int .i64 a1_0) := (blk_cell BK136.out 0).trans rfl; have hcz8_1 : w5.cell? ⟨gb136, 1, none⟩ = some (.int .i64 a1_1) := (blk_cell BK136.out 1).trans rfl; have hcz8_2 : w5.cell? ⟨gb136, 2, none⟩ = some (.string a1_2) := (blk_cell BK136.out 2).trans rfl; have hcz8_3 : w5.cell? ⟨gb136, 3, none⟩ = some (.slice A1_3 l1_3.length c1_3) := (blk_cell BK136.out 3).trans rfl; have hcz8_4 : w5.cell? ⟨gb136, 4, none⟩ = some (.slice A1_4 l1_4.length c1_4) := (blk_cell BK136.out 4).trans rfl; have hfz8_0 := blk_frozen BK136.out 0; have hfz8_1 := blk_frozen BK136.out 1; have hfz8_2 := blk_frozen BK136.out 2; have hfz8_3 := blk_frozen BK136.out 3; have hfz8_4 := blk_frozen BK136.out 4)))
 go_loopg [5, 14] k (fun kq v5 v14 w' => ∃ (x5_1 : List Int) (x14_1 : Int), v14 = .int .i64 x14_1 ∧ Aside0 (item_Material.l0 kq x5_1 ji3 x14_1 a0_0 a0_1 a0_2 l0_3 l0_4 a1_0 a1_1 a1_2 l1_3 l1_4 = some r) ∧ Aside0 (kq ≤ k) ∧ Aside0 (Kd.R (Kd.int .i64) 3 w' w.heap.size (fun _ => True) v5 x5_1) ∧ Aside0 (w'.heap[gb135]? = some (.cells #[.int .i64 a0_0, .int .i64 a0_1, .string a0_2, (.slice A0_3 l0_3.length c0_3), (.slice A0_4 l0_4.length c0_4)] 33 (0, 0))) ∧ Aside0 (w'.heap[gb136]? = some (.cells #[.int .i64 a1_0, .int .i64 a1_1, .string a1_2, (.slice A1_3 l1_3.length c1_3), (.slice A1_4 l1_4.length c1_4)] 33 (0, 0))) ∧ Aside0 (Below w.heap.size w w'))
 case atStart => exact ⟨(([] : List Int)), (0), (by first | rfl | (simp; done) | (simp [*]; done)), H', ⟨Nat.le_refl _⟩, ⟨by first | exact Kd.R_nil _ _ _ _ _ | exact Kd.N_nil _ _ _ _ _ | exact Kd.V_nil _ _ _ _ _ | exact Kd.Q_nil _ _ _ _ _ | exact Kd.S_nil _ _ _ _ _⟩, ⟨by (with_reducible repeat (first | refine blk_drewN ?_ _ | refine blk_drew ?_ | refine blk_alloc ?_ _)); exact BK135.out⟩, ⟨by (with_reducible repeat (first | refine blk_drewN ?_ _ | refine blk_drew ?_ | refine blk_alloc ?_ _)); exact BK136.out⟩, ⟨by repeat (first | (with_reducible first | exact HB.out | apply below_alloc | apply pw_below_drewN | apply below_drew1 | refine below_set ?_ GE135.out | refine below_set ?_ GE136.out) | exact HB.out)⟩⟩
 case round =>
  clear H'
  try clear c1
  try clear c2
  try clear p2
  try clear c6
  try clear hcz7_0
  try clear hcz7_1
  try clear hcz7_2
  try clear hcz7_3
  try clear hcz7_4
  try clear hcz8_0
  try clear hcz8_1
  try clear hcz8_2
  try clear hcz8_3
  try clear hcz8_4
  try clear hfz7_0
  try clear hfz7_1
  try clear hfz7_2
  try clear hfz7_3
  try clear hfz7_4
  try clear hfz8_0
  try clear hfz8_1
  try clear hfz8_2
  try clear hfz8_3
  try clear hfz8_4
  obtain ⟨x5_1, x14_1, rfl, HA, HK1, HO_5, BK135, BK136, HB⟩ := hrel
  cases gk with
  | zero => exact absurd HA.out (by simp [item_Material.l0])
  | succ k1 =>
   have H := HA.out
   clear HA
   simp only [item_Material.l0] at H
   by_cases c9 : x14_1 < ji3
   ·rw [if_pos c9] at H
    have c9b0 : decide (x14_1 < ji3) = true := decide_eq_true c9
    clear c9
    by_cases c10 : x14_1 ≥ (l0_3.length : Int)
    ·rw [if_pos c10] at H
     have c10b0 : decide ((l0_3.length : Int) ≤ x14_1) = true := decide_eq_true c10
     clear c10
     by_cases c11 : x5_1.length < 17592186044416
     ·rw [if_pos c11] at H
      have LMc11 := Aside0.mk c11
      clear c11
      obtain ⟨y137, hy137⟩ : ∃ y_ : List Int, y_ = (x5_1 ++ [x14_1]) := ⟨_, rfl⟩
      replace H : (item_Material.l0 k1 y137 ji3 (wrap64 (x14_1 + 1)) a0_0 a0_1 a0_2 l0_3 l0_4 a1_0 a1_1 a1_2 l1_3 l1_4) = some r := by first | (rw [hy137]; with_reducible exact H) | (have H2_ := (Option.bind_some _ _).symm.trans H; rw [hy137]; with_reducible exact H2_) | (have H2_ := (Option.bind_some _ _).symm.trans H; with_reducible exact H2_) | with_reducible exact H | (rw [hy137]; exact H) | exact H
      have Ny137 := Aside0.mk hy137
      clear hy137
      have H' := Aside0.mk H
      clear H
      have hnb12 := NB135_136.out
      have hnc12 := NB136_135.out
      have hcz13_0 : wr.cell? ⟨gb135, 0, none⟩ = some (.int .i64 a0_0) := (blk_cell BK135.out 0).trans rfl
      have hcz13_1 : wr.cell? ⟨gb135, 1, none⟩ = some (.int .i64 a0_1) := (blk_cell BK135.out 1).trans rfl
      have hcz13_2 : wr.cell? ⟨gb135, 2, none⟩ = some (.string a0_2) := (blk_cell BK135.out 2).trans rfl
      have hcz13_3 : wr.cell? ⟨gb135, 3, none⟩ = some (.slice A0_3 l0_3.length c0_3) := (blk_cell BK135.out 3).trans rfl
      have hcz13_4 : wr.cell? ⟨gb135, 4, none⟩ = some (.slice A0_4 l0_4.length c0_4) := (blk_cell BK135.out 4).trans rfl
      have hfz13_0 := blk_frozen BK135.out 0
      have hfz13_1 := blk_frozen BK135.out 1
      have hfz13_2 := blk_frozen BK135.out 2
      have hfz13_3 := blk_frozen BK135.out 3
      have hfz13_4 := blk_frozen BK135.out 4
      go_wp2_with (first | ((with_reducible refine gate_builtin (b := .append) (xs := #[.tmp 42, .tmp 44]) rfl ?_); (try (refine gate_guard (by rfl) ?_; dsimp only)); at_builtin; refine Kd.R_append (Kd.int .i64) (w0 := w) w.heap.size rfl (.tmp 42) (.tmp 44) 28 3 (.int .i64 0) 8 rfl Try.underlying28 info3 rfl (by decide) (by omega) u5 x5_1 x14_1 [.int .i64 x14_1] (fun _ => True) (fun _ => False) rfl rfl ?aP (fun _ hk => hk.elim) ?aF ?aO ?aB ?aS ?aL ?_; (case aP => exact rfl); (case aB => exact (by repeat (first | (with_reducible first | exact HB.out | apply below_alloc | apply pw_below_drewN | apply below_drew1 | refine below_set ?_ GE135.out | refine below_set ?_ GE136.out) | exact HB.out))); (case aF => exact (fun _ _ => trivial)); (case aO => exact (by (with_reducible repeat (first | apply Kd.R_alloc | apply Kd.R_drewN | apply Kd.R_drew)); exact HO_5.out)); (case aS => exact (below_size (by repeat (first | (with_reducible first | exact HB.out | apply below_alloc | apply pw_below_drewN | apply below_drew1 | refine below_set ?_ GE135.out | refine below_set ?_ GE136.out) | exact HB.out)))); (case aL => have := LMc11.out; omega); intro v138 w14 ho hb hg hat; rw [← Ny137.out] at ho; have n0_ := Aside0.mk (blk_grown (g := gb135) (o := .cells #[.int .i64 a0_0, .int .i64 a0_1, .string a0_2, .slice A0_3 l0_3.length c0_3, .slice A0_4 l0_4.length c0_4] 33 (0, 0)) (by (with_reducible repeat (first | refine blk_drewN ?_ _ | refine blk_drew ?_ | refine blk_alloc ?_ _)); exact BK135.out) hg (Kd.R_ne HO_5.out BK135.out (by decide))); have n1_ := Aside0.mk (blk_grown (g := gb136) (o := .cells #[.int .i64 a1_0, .int .i64 a1_1, .string a1_2, .slice A1_3 l1_3.length c1_3, .slice A1_4 l1_4.length c1_4] 33 (0, 0)) (by (with_reducible repeat (first | refine blk_drewN ?_ _ | refine blk_drew ?_ | refine blk_alloc ?_ _)); exact BK136.out) hg (Kd.R_ne HO_5.out BK136.out (by decide))); have n2_ := Aside0.mk (hb); have n3_ := Aside0.mk (ho); clear BK135 BK136 HB HO_5; have BK135 := n0_; have BK136 := n1_; have HB := n2_; have HO139 := n3_; clear n0_ n1_ n2_ n3_ ho hb hg hat))
      repeat (go_quiet (first | ((with_reducible refine gate_builtin (b := .append) (xs := #[.tmp 42, .tmp 44]) rfl ?_); (try (refine gate_guard (by rfl) ?_; dsimp only)); at_builtin; refine Kd.R_append (Kd.int .i64) (w0 := w) w.heap.size rfl (.tmp 42) (.tmp 44) 28 3 (.int .i64 0) 8 rfl Try.underlying28 info3 rfl (by decide) (by omega) u5 x5_1 x14_1 [.int .i64 x14_1] (fun _ => True) (fun _ => False) rfl rfl ?aP (fun _ hk => hk.elim) ?aF ?aO ?aB ?aS ?aL ?_; (case aP => exact rfl); (case aB => exact (by repeat (first | (with_reducible first | exact HB.out | apply below_alloc | apply pw_below_drewN | apply below_drew1 | refine below_set ?_ GE135.out | refine below_set ?_ GE136.out) | exact HB.out))); (case aF => exact (fun _ _ => trivial)); (case aO => exact (by (with_reducible repeat (first | apply Kd.R_alloc | apply Kd.R_drewN | apply Kd.R_drew)); exact HO_5.out)); (case aS => exact (below_size (by repeat (first | (with_reducible first | exact HB.out | apply below_alloc | apply pw_below_drewN | apply below_drew1 | refine below_set ?_ GE135.out | refine below_set ?_ GE136.out) | exact HB.out)))); (case aL => have := LMc11.out; omega); intro v138 w14 ho hb hg hat; rw [← Ny137.out] at ho; have n0_ := Aside0.mk (blk_grown (g := gb135) (o := .cells #[.int .i64 a0_0, .int .i64 a0_1, .string a0_2, .slice A0_3 l0_3.length c0_3, .slice A0_4 l0_4.length c0_4] 33 (0, 0)) (by (with_reducible repeat (first | refine blk_drewN ?_ _ | refine blk_drew ?_ | refine blk_alloc ?_ _)); exact BK135.out) hg (Kd.R_ne HO_5.out BK135.out (by decide))); have n1_ := Aside0.mk (blk_grown (g := gb136) (o := .cells #[.int .i64 a1_0, .int .i64 a1_1, .string a1_2, .slice A1_3 l1_3.length c1_3, .slice A1_4 l1_4.length c1_4] 33 (0, 0)) (by (with_reducible repeat (first | refine blk_drewN ?_ _ | refine blk_drew ?_ | refine blk_alloc ?_ _)); exact BK136.out) hg (Kd.R_ne HO_5.out BK136.out (by decide))); have n2_ := Aside0.mk (hb); have n3_ := Aside0.mk (ho); clear BK135 BK136 HB HO_5; have BK135 := n0_; have BK136 := n1_; have HB := n2_; have HO139 := n3_; clear n0_ n1_ n2_ n3_ ho hb hg hat)); try go_wp2_with (first | ((with_reducible refine gate_builtin (b := .append) (xs := #[.tmp 42, .tmp 44]) rfl ?_); (try (refine gate_guard (by rfl) ?_; dsimp only)); at_builtin; refine Kd.R_append (Kd.int .i64) (w0 := w) w.heap.size rfl (.tmp 42) (.tmp 44) 28 3 (.int .i64 0) 8 rfl Try.underlying28 info3 rfl (by decide) (by omega) u5 x5_1 x14_1 [.int .i64 x14_1] (fun _ => True) (fun _ => False) rfl rfl ?aP (fun _ hk => hk.elim) ?aF ?aO ?aB ?aS ?aL ?_; (case aP => exact rfl); (case aB => exact (by repeat (first | (with_reducible first | exact HB.out | apply below_alloc | apply pw_below_drewN | apply below_drew1 | refine below_set ?_ GE135.out | refine below_set ?_ GE136.out) | exact HB.out))); (case aF => exact (fun _ _ => trivial)); (case aO => exact (by (with_reducible repeat (first | apply Kd.R_alloc | apply Kd.R_drewN | apply Kd.R_drew)); exact HO_5.out)); (case aS => exact (below_size (by repeat (first | (with_reducible first | exact HB.out | apply below_alloc | apply pw_below_drewN | apply below_drew1 | refine below_set ?_ GE135.out | refine below_set ?_ GE136.out) | exact HB.out)))); (case aL => have := LMc11.out; omega); intro v138 w14 ho hb hg hat; rw [← Ny137.out] at ho; have n0_ := Aside0.mk (blk_grown (g := gb135) (o := .cells #[.int .i64 a0_0, .int .i64 a0_1, .string a0_2, .slice A0_3 l0_3.length c0_3, .slice A0_4 l0_4.length c0_4] 33 (0, 0)) (by (with_reducible repeat (first | refine blk_drewN ?_ _ | refine blk_drew ?_ | refine blk_alloc ?_ _)); exact BK135.out) hg (Kd.R_ne HO_5.out BK135.out (by decide))); have n1_ := Aside0.mk (blk_grown (g := gb136) (o := .cells #[.int .i64 a1_0, .int .i64 a1_1, .string a1_2, .slice A1_3 l1_3.length c1_3, .slice A1_4 l1_4.length c1_4] 33 (0, 0)) (by (with_reducible repeat (first | refine blk_drewN ?_ _ | refine blk_drew ?_ | refine blk_alloc ?_ _)); exact BK136.out) hg (Kd.R_ne HO_5.out BK136.out (by decide))); have n2_ := Aside0.mk (hb); have n3_ := Aside0.mk (ho); clear BK135 BK136 HB HO_5; have BK135 := n0_; have BK136 := n1_; have HB := n2_; have HO139 := n3_; clear n0_ n1_ n2_ n3_ ho hb hg hat)))
      go_roundg k1
      case measure => have := HK1.out; omega
      case rel => exact ⟨(y137), (wrap64 (x14_1 + 1)), (by first | rfl | (simp; done) | (simp [*]; done)), H', ⟨by have := HK1.out; omega⟩, ⟨by (with_reducible repeat (first | apply Kd.R_alloc | apply Kd.R_drewN | apply Kd.R_drew)); exact HO139.out⟩, ⟨by (with_reducible repeat (first | refine blk_drewN ?_ _ | refine blk_drew ?_ | refine blk_alloc ?_ _)); exact BK135.out⟩, ⟨by (with_reducible repeat (first | refine blk_drewN ?_ _ | refine blk_drew ?_ | refine blk_alloc ?_ _)); exact BK136.out⟩, ⟨by repeat (first | (with_reducible first | exact HB.out | apply below_alloc | apply pw_below_drewN | apply below_drew1 | refine below_set ?_ GE135.out | refine below_set ?_ GE136.out) | exact HB.out)⟩⟩
     ·rw [if_neg c11] at H
      exact absurd H (by simp)
    ·rw [if_neg c10] at H
     have c10b0 : decide ((l0_3.length : Int) ≤ x14_1) = false := decide_eq_false c10
     clear c10
     by_cases c15 : x14_1 ≥ (l1_3.length : Int)
     ·rw [if_pos c15] at H
      have c15b0 : decide ((l1_3.length : Int) ≤ x14_1) = true := decide_eq_true c15
      clear c15
      by_cases c16 : x5_1.length < 17592186044416
      ·rw [if_pos c16] at H
       have LMc16 := Aside0.mk c16
       clear c16
       obtain ⟨y140, hy140⟩ : ∃ y_ : List Int, y_ = (x5_1 ++ [x14_1]) := ⟨_, rfl⟩
       replace H : (item_Material.l0 k1 y140 ji3 (wrap64 (x14_1 + 1)) a0_0 a0_1 a0_2 l0_3 l0_4 a1_0 a1_1 a1_2 l1_3 l1_4) = some r := by first | (rw [hy140]; with_reducible exact H) | (have H2_ := (Option.bind_some _ _).symm.trans H; rw [hy140]; with_reducible exact H2_) | (have H2_ := (Option.bind_some _ _).symm.trans H; with_reducible exact H2_) | with_reducible exact H | (rw [hy140]; exact H) | exact H
       have Ny140 := Aside0.mk hy140
       clear hy140
       have H' := Aside0.mk H
       clear H
       have hnb17 := NB135_136.out
       have hnc17 := NB136_135.out
       have hcz18_0 : wr.cell? ⟨gb135, 0, none⟩ = some (.int .i64 a0_0) := (blk_cell BK135.out 0).trans rfl
       have hcz18_1 : wr.cell? ⟨gb135, 1, none⟩ = some (.int .i64 a0_1) := (blk_cell BK135.out 1).trans rfl
       have hcz18_2 : wr.cell? ⟨gb135, 2, none⟩ = some (.string a0_2) := (blk_cell BK135.out 2).trans rfl
       have hcz18_3 : wr.cell? ⟨gb135, 3, none⟩ = some (.slice A0_3 l0_3.length c0_3) := (blk_cell BK135.out 3).trans rfl
       have hcz18_4 : wr.cell? ⟨gb135, 4, none⟩ = some (.slice A0_4 l0_4.length c0_4) := (blk_cell BK135.out 4).trans rfl
       have hfz18_0 := blk_frozen BK135.out 0
       have hfz18_1 := blk_frozen BK135.out 1
       have hfz18_2 := blk_frozen BK135.out 2
       have hfz18_3 := blk_frozen BK135.out 3
       have hfz18_4 := blk_frozen BK135.out 4
       have hcz19_0 : wr.cell? ⟨gb136, 0, none⟩ = some (.int .i64 a1_0) := (blk_cell BK136.out 0).trans rfl
       have hcz19_1 : wr.cell? ⟨gb136, 1, none⟩ = some (.int .i64 a1_1) := (blk_cell BK136.out 1).trans rfl
       have hcz19_2 : wr.cell? ⟨gb136, 2, none⟩ = some (.string a1_2) := (blk_cell BK136.out 2).trans rfl
       have hcz19_3 : wr.cell? ⟨gb136, 3, none⟩ = some (.slice A1_3 l1_3.length c1_3) := (blk_cell BK136.out 3).trans rfl
       have hcz19_4 : wr.cell? ⟨gb136, 4, none⟩ = some (.slice A1_4 l1_4.length c1_4) := (blk_cell BK136.out 4).trans rfl
       have hfz19_0 := blk_frozen BK136.out 0
       have hfz19_1 := blk_frozen BK136.out 1
       have hfz19_2 := blk_frozen BK136.out 2
       have hfz19_3 := blk_frozen BK136.out 3
       have hfz19_4 := blk_frozen BK136.out 4
       go_wp2_with (first | ((with_reducible refine gate_builtin (b := .append) (xs := #[.tmp 42, .tmp 44]) rfl ?_); (try (refine gate_guard (by rfl) ?_; dsimp only)); at_builtin; refine Kd.R_append (Kd.int .i64) (w0 := w) w.heap.size rfl (.tmp 42) (.tmp 44) 28 3 (.int .i64 0) 8 rfl Try.underlying28 info3 rfl (by decide) (by omega) u5 x5_1 x14_1 [.int .i64 x14_1] (fun _ => True) (fun _ => False) rfl rfl ?aP (fun _ hk => hk.elim) ?aF ?aO ?aB ?aS ?aL ?_; (case aP => exact rfl); (case aB => exact (by repeat (first | (with_reducible first | exact HB.out | apply below_alloc | apply pw_below_drewN | apply below_drew1 | refine below_set ?_ GE135.out | refine below_set ?_ GE136.out) | exact HB.out))); (case aF => exact (fun _ _ => trivial)); (case aO => exact (by (with_reducible repeat (first | apply Kd.R_alloc | apply Kd.R_drewN | apply Kd.R_drew)); exact HO_5.out)); (case aS => exact (below_size (by repeat (first | (with_reducible first | exact HB.out | apply below_alloc | apply pw_below_drewN | apply below_drew1 | refine below_set ?_ GE135.out | refine below_set ?_ GE136.out) | exact HB.out)))); (case aL => have := LMc16.out; omega); intro v141 w20 ho hb hg hat; rw [← Ny140.out] at ho; have n0_ := Aside0.mk (blk_grown (g := gb135) (o := .cells #[.int .i64 a0_0, .int .i64 a0_1, .string a0_2, .slice A0_3 l0_3.length c0_3, .slice A0_4 l0_4.length c0_4] 33 (0, 0)) (by (with_reducible repeat (first | refine blk_drewN ?_ _ | refine blk_drew ?_ | refine blk_alloc ?_ _)); exact BK135.out) hg (Kd.R_ne HO_5.out BK135.out (by decide))); have n1_ := Aside0.mk (blk_grown (g := gb136) (o := .cells #[.int .i64 a1_0, .int .i64 a1_1, .string a1_2, .slice A1_3 l1_3.length c1_3, .slice A1_4 l1_4.length c1_4] 33 (0, 0)) (by (with_reducible repeat (first | refine blk_drewN ?_ _ | refine blk_drew ?_ | refine blk_alloc ?_ _)); exact BK136.out) hg (Kd.R_ne HO_5.out BK136.out (by decide))); have n2_ := Aside0.mk (hb); have n3_ := Aside0.mk (ho); clear BK135 BK136 HB HO_5; have BK135 := n0_; have BK136 := n1_; have HB := n2_; have HO142 := n3_; clear n0_ n1_ n2_ n3_ ho hb hg hat))
       repeat (go_quiet (first | ((with_reducible refine gate_builtin (b := .append) (xs := #[.tmp 42, .tmp 44]) rfl ?_); (try (refine gate_guard (by rfl) ?_; dsimp only)); at_builtin; refine Kd.R_append (Kd.int .i64) (w0 := w) w.heap.size rfl (.tmp 42) (.tmp 44) 28 3 (.int .i64 0) 8 rfl Try.underlying28 info3 rfl (by decide) (by omega) u5 x5_1 x14_1 [.int .i64 x14_1] (fun _ => True) (fun _ => False) rfl rfl ?aP (fun _ hk => hk.elim) ?aF ?aO ?aB ?aS ?aL ?_; (case aP => exact rfl); (case aB => exact (by repeat (first | (with_reducible first | exact HB.out | apply below_alloc | apply pw_below_drewN | apply below_drew1 | refine below_set ?_ GE135.out | refine below_set ?_ GE136.out) | exact HB.out))); (case aF => exact (fun _ _ => trivial)); (case aO => exact (by (with_reducible repeat (first | apply Kd.R_alloc | apply Kd.R_drewN | apply Kd.R_drew)); exact HO_5.out)); (case aS => exact (below_size (by repeat (first | (with_reducible first | exact HB.out | apply below_alloc | apply pw_below_drewN | apply below_drew1 | refine below_set ?_ GE135.out | refine below_set ?_ GE136.out) | exact HB.out)))); (case aL => have := LMc16.out; omega); intro v141 w20 ho hb hg hat; rw [← Ny140.out] at ho; have n0_ := Aside0.mk (blk_grown (g := gb135) (o := .cells #[.int .i64 a0_0, .int .i64 a0_1, .string a0_2, .slice A0_3 l0_3.length c0_3, .slice A0_4 l0_4.length c0_4] 33 (0, 0)) (by (with_reducible repeat (first | refine blk_drewN ?_ _ | refine blk_drew ?_ | refine blk_alloc ?_ _)); exact BK135.out) hg (Kd.R_ne HO_5.out BK135.out (by decide))); have n1_ := Aside0.mk (blk_grown (g := gb136) (o := .cells #[.int .i64 a1_0, .int .i64 a1_1, .string a1_2, .slice A1_3 l1_3.length c1_3, .slice A1_4 l1_4.length c1_4] 33 (0, 0)) (by (with_reducible repeat (first | refine blk_drewN ?_ _ | refine blk_drew ?_ | refine blk_alloc ?_ _)); exact BK136.out) hg (Kd.R_ne HO_5.out BK136.out (by decide))); have n2_ := Aside0.mk (hb); have n3_ := Aside0.mk (ho); clear BK135 BK136 HB HO_5; have BK135 := n0_; have BK136 := n1_; have HB := n2_; have HO142 := n3_; clear n0_ n1_ n2_ n3_ ho hb hg hat)); try go_wp2_with (first | ((with_reducible refine gate_builtin (b := .append) (xs := #[.tmp 42, .tmp 44]) rfl ?_); (try (refine gate_guard (by rfl) ?_; dsimp only)); at_builtin; refine Kd.R_append (Kd.int .i64) (w0 := w) w.heap.size rfl (.tmp 42) (.tmp 44) 28 3 (.int .i64 0) 8 rfl Try.underlying28 info3 rfl (by decide) (by omega) u5 x5_1 x14_1 [.int .i64 x14_1] (fun _ => True) (fun _ => False) rfl rfl ?aP (fun _ hk => hk.elim) ?aF ?aO ?aB ?aS ?aL ?_; (case aP => exact rfl); (case aB => exact (by repeat (first | (with_reducible first | exact HB.out | apply below_alloc | apply pw_below_drewN | apply below_drew1 | refine below_set ?_ GE135.out | refine below_set ?_ GE136.out) | exact HB.out))); (case aF => exact (fun _ _ => trivial)); (case aO => exact (by (with_reducible repeat (first | apply Kd.R_alloc | apply Kd.R_drewN | apply Kd.R_drew)); exact HO_5.out)); (case aS => exact (below_size (by repeat (first | (with_reducible first | exact HB.out | apply below_alloc | apply pw_below_drewN | apply below_drew1 | refine below_set ?_ GE135.out | refine below_set ?_ GE136.out) | exact HB.out)))); (case aL => have := LMc16.out; omega); intro v141 w20 ho hb hg hat; rw [← Ny140.out] at ho; have n0_ := Aside0.mk (blk_grown (g := gb135) (o := .cells #[.int .i64 a0_0, .int .i64 a0_1, .string a0_2, .slice A0_3 l0_3.length c0_3, .slice A0_4 l0_4.length c0_4] 33 (0, 0)) (by (with_reducible repeat (first | refine blk_drewN ?_ _ | refine blk_drew ?_ | refine blk_alloc ?_ _)); exact BK135.out) hg (Kd.R_ne HO_5.out BK135.out (by decide))); have n1_ := Aside0.mk (blk_grown (g := gb136) (o := .cells #[.int .i64 a1_0, .int .i64 a1_1, .string a1_2, .slice A1_3 l1_3.length c1_3, .slice A1_4 l1_4.length c1_4] 33 (0, 0)) (by (with_reducible repeat (first | refine blk_drewN ?_ _ | refine blk_drew ?_ | refine blk_alloc ?_ _)); exact BK136.out) hg (Kd.R_ne HO_5.out BK136.out (by decide))); have n2_ := Aside0.mk (hb); have n3_ := Aside0.mk (ho); clear BK135 BK136 HB HO_5; have BK135 := n0_; have BK136 := n1_; have HB := n2_; have HO142 := n3_; clear n0_ n1_ n2_ n3_ ho hb hg hat)))
       go_roundg k1
       case measure => have := HK1.out; omega
       case rel => exact ⟨(y140), (wrap64 (x14_1 + 1)), (by first | rfl | (simp; done) | (simp [*]; done)), H', ⟨by have := HK1.out; omega⟩, ⟨by (with_reducible repeat (first | apply Kd.R_alloc | apply Kd.R_drewN | apply Kd.R_drew)); exact HO142.out⟩, ⟨by (with_reducible repeat (first | refine blk_drewN ?_ _ | refine blk_drew ?_ | refine blk_alloc ?_ _)); exact BK135.out⟩, ⟨by (with_reducible repeat (first | refine blk_drewN ?_ _ | refine blk_drew ?_ | refine blk_alloc ?_ _)); exact BK136.out⟩, ⟨by repeat (first | (with_reducible first | exact HB.out | apply below_alloc | apply pw_below_drewN | apply below_drew1 | refine below_set ?_ GE135.out | refine below_set ?_ GE136.out) | exact HB.out)⟩⟩
      ·rw [if_neg c16] at H
       exact absurd H (by simp)
     ·rw [if_neg c15] at H
      have c15b0 : decide ((l1_3.length : Int) ≤ x14_1) = false := decide_eq_false c15
      clear c15
      by_cases c21 : 0 ≤ x14_1
      ·rw [if_pos c21] at H
       have c21b0 : decide (0 ≤ x14_1) = true := decide_eq_true c21
       clear c21
       by_cases c22 : x14_1 < (l0_3.length : Int)
       ·rw [if_pos c22] at H
        have c22b0 : decide (x14_1 < (l0_3.length : Int)) = true := decide_eq_true c22
        clear c22
        by_cases c23 : x14_1 < (l1_3.length : Int)
        ·rw [if_pos c23] at H
         have c23b0 : decide (x14_1 < (l1_3.length : Int)) = true := decide_eq_true c23
         clear c23
         by_cases c24 : (!(((rd_T23 l0_3 x14_1).f0) == ((rd_T23 l1_3 x14_1).f0)) || (!(((rd_T23 l0_3 x14_1).f1) == ((rd_T23 l1_3 x14_1).f1)) || (!(((rd_T23 l0_3 x14_1).f2) == ((rd_T23 l1_3 x14_1).f2)) || (!(((rd_T23 l0_3 x14_1).f3) == ((rd_T23 l1_3 x14_1).f3)) || (!(((rd_T23 l0_3 x14_1).f4) == ((rd_T23 l1_3 x14_1).f4)) || (!(((rd_T23 l0_3 x14_1).f5) == ((rd_T23 l1_3 x14_1).f5)))))))) = true
         ·rw [if_pos c24] at H
          have c24b0 : (!(((rd_T23 l0_3 x14_1).f0) == ((rd_T23 l1_3 x14_1).f0)) || (!(((rd_T23 l0_3 x14_1).f1) == ((rd_T23 l1_3 x14_1).f1)) || (!(((rd_T23 l0_3 x14_1).f2) == ((rd_T23 l1_3 x14_1).f2)) || (!(((rd_T23 l0_3 x14_1).f3) == ((rd_T23 l1_3 x14_1).f3)) || (!(((rd_T23 l0_3 x14_1).f4) == ((rd_T23 l1_3 x14_1).f4)) || (!(((rd_T23 l0_3 x14_1).f5) == ((rd_T23 l1_3 x14_1).f5)))))))) = true := c24
          clear c24
          by_cases c25 : x5_1.length < 17592186044416
          ·rw [if_pos c25] at H
           have LMc25 := Aside0.mk c25
           clear c25
           obtain ⟨y145, hy145⟩ : ∃ y_ : List Int, y_ = (x5_1 ++ [x14_1]) := ⟨_, rfl⟩
           replace H : (item_Material.l0 k1 y145 ji3 (wrap64 (x14_1 + 1)) a0_0 a0_1 a0_2 l0_3 l0_4 a1_0 a1_1 a1_2 l1_3 l1_4) = some r := by first | (rw [hy145]; with_reducible exact H) | (have H2_ := (Option.bind_some _ _).symm.trans H; rw [hy145]; with_reducible exact H2_) | (have H2_ := (Option.bind_some _ _).symm.trans H; with_reducible exact H2_) | with_reducible exact H | (rw [hy145]; exact H) | exact H
           have Ny145 := Aside0.mk hy145
           clear hy145
           have H' := Aside0.mk H
           clear H
           have hnb26 := NB135_136.out
           have hnc26 := NB136_135.out
           have hcz27_0 : wr.cell? ⟨gb135, 0, none⟩ = some (.int .i64 a0_0) := (blk_cell BK135.out 0).trans rfl
           have hcz27_1 : wr.cell? ⟨gb135, 1, none⟩ = some (.int .i64 a0_1) := (blk_cell BK135.out 1).trans rfl
           have hcz27_2 : wr.cell? ⟨gb135, 2, none⟩ = some (.string a0_2) := (blk_cell BK135.out 2).trans rfl
           have hcz27_3 : wr.cell? ⟨gb135, 3, none⟩ = some (.slice A0_3 l0_3.length c0_3) := (blk_cell BK135.out 3).trans rfl
           have hcz27_4 : wr.cell? ⟨gb135, 4, none⟩ = some (.slice A0_4 l0_4.length c0_4) := (blk_cell BK135.out 4).trans rfl
           have hfz27_0 := blk_frozen BK135.out 0
           have hfz27_1 := blk_frozen BK135.out 1
           have hfz27_2 := blk_frozen BK135.out 2
           have hfz27_3 := blk_frozen BK135.out 3
           have hfz27_4 := blk_frozen BK135.out 4
           have hcz28_0 : wr.cell? ⟨gb136, 0, none⟩ = some (.int .i64 a1_0) := (blk_cell BK136.out 0).trans rfl
           have hcz28_1 : wr.cell? ⟨gb136, 1, none⟩ = some (.int .i64 a1_1) := (blk_cell BK136.out 1).trans rfl
           have hcz28_2 : wr.cell? ⟨gb136, 2, none⟩ = some (.string a1_2) := (blk_cell BK136.out 2).trans rfl
           have hcz28_3 : wr.cell? ⟨gb136, 3, none⟩ = some (.slice A1_3 l1_3.length c1_3) := (blk_cell BK136.out 3).trans rfl
           have hcz28_4 : wr.cell? ⟨gb136, 4, none⟩ = some (.slice A1_4 l1_4.length c1_4) := (blk_cell BK136.out 4).trans rfl
           have hfz28_0 := blk_frozen BK136.out 0
           have hfz28_1 := blk_frozen BK136.out 1
           have hfz28_2 := blk_frozen BK136.out 2
           have hfz28_3 := blk_frozen BK136.out 3
           have hfz28_4 := blk_frozen BK136.out 4
           have p143 : 0 ≤ (x14_1 : Int) := of_decide_eq_true (by first | (with_reducible assumption) | assumption)
           have q143 : x14_1 < (l0_3.length : Int) := of_decide_eq_true (by first | (with_reducible assumption) | assumption)
           obtain ⟨ad143, e143, hx143_0, hx143_1, hx143_2, hx143_3, hx143_4, hx143_5⟩ := at_T23 HR0_3.out x14_1 p143 q143
           cases e143
           replace hx143_0 := (HB.out.cell (World.block_lt_of_cell? w _ hx143_0)).trans hx143_0
           replace hx143_1 := (HB.out.cell (World.block_lt_of_cell? w _ hx143_1)).trans hx143_1
           replace hx143_2 := (HB.out.cell (World.block_lt_of_cell? w _ hx143_2)).trans hx143_2
           replace hx143_3 := (HB.out.cell (World.block_lt_of_cell? w _ hx143_3)).trans hx143_3
           replace hx143_4 := (HB.out.cell (World.block_lt_of_cell? w _ hx143_4)).trans hx143_4
           replace hx143_5 := (HB.out.cell (World.block_lt_of_cell? w _ hx143_5)).trans hx143_5
           replace p143 := eq_true p143
           replace q143 := eq_true q143
           have p144 : 0 ≤ (x14_1 : Int) := of_decide_eq_true (by first | (with_reducible assumption) | assumption)
           have q144 : x14_1 < (l1_3.length : Int) := of_decide_eq_true (by first | (with_reducible assumption) | assumption)
           obtain ⟨ad144, e144, hx144_0, hx144_1, hx144_2, hx144_3, hx144_4, hx144_5⟩ := at_T23 HR1_3.out x14_1 p144 q144
           cases e144
           replace hx144_0 := (HB.out.cell (World.block_lt_of_cell? w _ hx144_0)).trans hx144_0
           replace hx144_1 := (HB.out.cell (World.block_lt_of_cell? w _ hx144_1)).trans hx144_1
           replace hx144_2 := (HB.out.cell (World.block_lt_of_cell? w _ hx144_2)).trans hx144_2
           replace hx144_3 := (HB.out.cell (World.block_lt_of_cell? w _ hx144_3)).trans hx144_3
           replace hx144_4 := (HB.out.cell (World.block_lt_of_cell? w _ hx144_4)).trans hx144_4
           replace hx144_5 := (HB.out.cell (World.block_lt_of_cell? w _ hx144_5)).trans hx144_5
           replace p144 := eq_true p144
           replace q144 := eq_true q144
           go_wp2_with (first | ((with_reducible refine gate_builtin (b := .append) (xs := #[.tmp 42, .tmp 44]) rfl ?_); (try (refine gate_guard (by rfl) ?_; dsimp only)); at_builtin; refine Kd.R_append (Kd.int .i64) (w0 := w) w.heap.size rfl (.tmp 42) (.tmp 44) 28 3 (.int .i64 0) 8 rfl Try.underlying28 info3 rfl (by decide) (by omega) u5 x5_1 x14_1 [.int .i64 x14_1] (fun _ => True) (fun _ => False) rfl rfl ?aP (fun _ hk => hk.elim) ?aF ?aO ?aB ?aS ?aL ?_; (case aP => exact rfl); (case aB => exact (by repeat (first | (with_reducible first | exact HB.out | apply below_alloc | apply pw_below_drewN | apply below_drew1 | refine below_set ?_ GE135.out | refine below_set ?_ GE136.out) | exact HB.out))); (case aF => exact (fun _ _ => trivial)); (case aO => exact (by (with_reducible repeat (first | apply Kd.R_alloc | apply Kd.R_drewN | apply Kd.R_drew)); exact HO_5.out)); (case aS => exact (below_size (by repeat (first | (with_reducible first | exact HB.out | apply below_alloc | apply pw_below_drewN | apply below_drew1 | refine below_set ?_ GE135.out | refine below_set ?_ GE136.out) | exact HB.out)))); (case aL => have := LMc25.out; omega); intro v146 w29 ho hb hg hat; rw [← Ny145.out] at ho; have n0_ := Aside0.mk (blk_grown (g := gb135) (o := .cells #[.int .i64 a0_0, .int .i64 a0_1, .string a0_2, .slice (some ad143) l0_3.length c0_3, .slice A0_4 l0_4.length c0_4] 33 (0, 0)) (by (with_reducible repeat (first | refine blk_drewN ?_ _ | refine blk_drew ?_ | refine blk_alloc ?_ _)); exact BK135.out) hg (Kd.R_ne HO_5.out BK135.out (by decide))); have n1_ := Aside0.mk (blk_grown (g := gb136) (o := .cells #[.int .i64 a1_0, .int .i64 a1_1, .string a1_2, .slice (some ad144) l1_3.length c1_3, .slice A1_4 l1_4.length c1_4] 33 (0, 0)) (by (with_reducible repeat (first | refine blk_drewN ?_ _ | refine blk_drew ?_ | refine blk_alloc ?_ _)); exact BK136.out) hg (Kd.R_ne HO_5.out BK136.out (by decide))); have n2_ := Aside0.mk (hb); have n3_ := Aside0.mk (ho); clear BK135 BK136 HB HO_5; have BK135 := n0_; have BK136 := n1_; have HB := n2_; have HO147 := n3_; clear n0_ n1_ n2_ n3_ ho hb hg hat))
           repeat (go_quiet (first | ((with_reducible refine gate_builtin (b := .append) (xs := #[.tmp 42, .tmp 44]) rfl ?_); (try (refine gate_guard (by rfl) ?_; dsimp only)); at_builtin; refine Kd.R_append (Kd.int .i64) (w0 := w) w.heap.size rfl (.tmp 42) (.tmp 44) 28 3 (.int .i64 0) 8 rfl Try.underlying28 info3 rfl (by decide) (by omega) u5 x5_1 x14_1 [.int .i64 x14_1] (fun _ => True) (fun _ => False) rfl rfl ?aP (fun _ hk => hk.elim) ?aF ?aO ?aB ?aS ?aL ?_; (case aP => exact rfl); (case aB => exact (by repeat (first | (with_reducible first | exact HB.out | apply below_alloc | apply pw_below_drewN | apply below_drew1 | refine below_set ?_ GE135.out | refine below_set ?_ GE136.out) | exact HB.out))); (case aF => exact (fun _ _ => trivial)); (case aO => exact (by (with_reducible repeat (first | apply Kd.R_alloc | apply Kd.R_drewN | apply Kd.R_drew)); exact HO_5.out)); (case aS => exact (below_size (by repeat (first | (with_reducible first | exact HB.out | apply below_alloc | apply pw_below_drewN | apply below_drew1 | refine below_set ?_ GE135.out | refine below_set ?_ GE136.out) | exact HB.out)))); (case aL => have := LMc25.out; omega); intro v146 w29 ho hb hg hat; rw [← Ny145.out] at ho; have n0_ := Aside0.mk (blk_grown (g := gb135) (o := .cells #[.int .i64 a0_0, .int .i64 a0_1, .string a0_2, .slice (some ad143) l0_3.length c0_3, .slice A0_4 l0_4.length c0_4] 33 (0, 0)) (by (with_reducible repeat (first | refine blk_drewN ?_ _ | refine blk_drew ?_ | refine blk_alloc ?_ _)); exact BK135.out) hg (Kd.R_ne HO_5.out BK135.out (by decide))); have n1_ := Aside0.mk (blk_grown (g := gb136) (o := .cells #[.int .i64 a1_0, .int .i64 a1_1, .string a1_2, .slice (some ad144) l1_3.length c1_3, .slice A1_4 l1_4.length c1_4] 33 (0, 0)) (by (with_reducible repeat (first | refine blk_drewN ?_ _ | refine blk_drew ?_ | refine blk_alloc ?_ _)); exact BK136.out) hg (Kd.R_ne HO_5.out BK136.out (by decide))); have n2_ := Aside0.mk (hb); have n3_ := Aside0.mk (ho); clear BK135 BK136 HB HO_5; have BK135 := n0_; have BK136 := n1_; have HB := n2_; have HO147 := n3_; clear n0_ n1_ n2_ n3_ ho hb hg hat)); try go_wp2_with (first | ((with_reducible refine gate_builtin (b := .append) (xs := #[.tmp 42, .tmp 44]) rfl ?_); (try (refine gate_guard (by rfl) ?_; dsimp only)); at_builtin; refine Kd.R_append (Kd.int .i64) (w0 := w) w.heap.size rfl (.tmp 42) (.tmp 44) 28 3 (.int .i64 0) 8 rfl Try.underlying28 info3 rfl (by decide) (by omega) u5 x5_1 x14_1 [.int .i64 x14_1] (fun _ => True) (fun _ => False) rfl rfl ?aP (fun _ hk => hk.elim) ?aF ?aO ?aB ?aS ?aL ?_; (case aP => exact rfl); (case aB => exact (by repeat (first | (with_reducible first | exact HB.out | apply below_alloc | apply pw_below_drewN | apply below_drew1 | refine below_set ?_ GE135.out | refine below_set ?_ GE136.out) | exact HB.out))); (case aF => exact (fun _ _ => trivial)); (case aO => exact (by (with_reducible repeat (first | apply Kd.R_alloc | apply Kd.R_drewN | apply Kd.R_drew)); exact HO_5.out)); (case aS => exact (below_size (by repeat (first | (with_reducible first | exact HB.out | apply below_alloc | apply pw_below_drewN | apply below_drew1 | refine below_set ?_ GE135.out | refine below_set ?_ GE136.out) | exact HB.out)))); (case aL => have := LMc25.out; omega); intro v146 w29 ho hb hg hat; rw [← Ny145.out] at ho; have n0_ := Aside0.mk (blk_grown (g := gb135) (o := .cells #[.int .i64 a0_0, .int .i64 a0_1, .string a0_2, .slice (some ad143) l0_3.length c0_3, .slice A0_4 l0_4.length c0_4] 33 (0, 0)) (by (with_reducible repeat (first | refine blk_drewN ?_ _ | refine blk_drew ?_ | refine blk_alloc ?_ _)); exact BK135.out) hg (Kd.R_ne HO_5.out BK135.out (by decide))); have n1_ := Aside0.mk (blk_grown (g := gb136) (o := .cells #[.int .i64 a1_0, .int .i64 a1_1, .string a1_2, .slice (some ad144) l1_3.length c1_3, .slice A1_4 l1_4.length c1_4] 33 (0, 0)) (by (with_reducible repeat (first | refine blk_drewN ?_ _ | refine blk_drew ?_ | refine blk_alloc ?_ _)); exact BK136.out) hg (Kd.R_ne HO_5.out BK136.out (by decide))); have n2_ := Aside0.mk (hb); have n3_ := Aside0.mk (ho); clear BK135 BK136 HB HO_5; have BK135 := n0_; have BK136 := n1_; have HB := n2_; have HO147 := n3_; clear n0_ n1_ n2_ n3_ ho hb hg hat)))
           go_roundg k1
           case measure => have := HK1.out; omega
           case rel => exact ⟨(y145), (wrap64 (x14_1 + 1)), (by first | rfl | (simp; done) | (simp [*]; done)), H', ⟨by have := HK1.out; omega⟩, ⟨by (with_reducible repeat (first | apply Kd.R_alloc | apply Kd.R_drewN | apply Kd.R_drew)); exact HO147.out⟩, ⟨by (with_reducible repeat (first | refine blk_drewN ?_ _ | refine blk_drew ?_ | refine blk_alloc ?_ _)); exact BK135.out⟩, ⟨by (with_reducible repeat (first | refine blk_drewN ?_ _ | refine blk_drew ?_ | refine blk_alloc ?_ _)); exact BK136.out⟩, ⟨by repeat (first | (with_reducible first | exact HB.out | apply below_alloc | apply pw_below_drewN | apply below_drew1 | refine below_set ?_ GE135.out | refine below_set ?_ GE136.out) | exact HB.out)⟩⟩
          ·rw [if_neg c25] at H
           exact absurd H (by simp)
         ·rw [if_neg c24] at H
          have c24b0 : (!(((rd_T23 l0_3 x14_1).f0) == ((rd_T23 l1_3 x14_1).f0)) || (!(((rd_T23 l0_3 x14_1).f1) == ((rd_T23 l1_3 x14_1).f1)) || (!(((rd_T23 l0_3 x14_1).f2) == ((rd_T23 l1_3 x14_1).f2)) || (!(((rd_T23 l0_3 x14_1).f3) == ((rd_T23 l1_3 x14_1).f3)) || (!(((rd_T23 l0_3 x14_1).f4) == ((rd_T23 l1_3 x14_1).f4)) || (!(((rd_T23 l0_3 x14_1).f5) == ((rd_T23 l1_3 x14_1).f5)))))))) = false := by simpa using c24
          clear c24
          have H' := Aside0.mk H
          clear H
          have hnb30 := NB135_136.out
          have hnc30 := NB136_135.out
          have hcz31_0 : wr.cell? ⟨gb135, 0, none⟩ = some (.int .i64 a0_0) := (blk_cell BK135.out 0).trans rfl
          have hcz31_1 : wr.cell? ⟨gb135, 1, none⟩ = some (.int .i64 a0_1) := (blk_cell BK135.out 1).trans rfl
          have hcz31_2 : wr.cell? ⟨gb135, 2, none⟩ = some (.string a0_2) := (blk_cell BK135.out 2).trans rfl
          have hcz31_3 : wr.cell? ⟨gb135, 3, none⟩ = some (.slice A0_3 l0_3.length c0_3) := (blk_cell BK135.out 3).trans rfl
          have hcz31_4 : wr.cell? ⟨gb135, 4, none⟩ = some (.slice A0_4 l0_4.length c0_4) := (blk_cell BK135.out 4).trans rfl
          have hfz31_0 := blk_frozen BK135.out 0
          have hfz31_1 := blk_frozen BK135.out 1
          have hfz31_2 := blk_frozen BK135.out 2
          have hfz31_3 := blk_frozen BK135.out 3
          have hfz31_4 := blk_frozen BK135.out 4
          have hcz32_0 : wr.cell? ⟨gb136, 0, none⟩ = some (.int .i64 a1_0) := (blk_cell BK136.out 0).trans rfl
          have hcz32_1 : wr.cell? ⟨gb136, 1, none⟩ = some (.int .i64 a1_1) := (blk_cell BK136.out 1).trans rfl
          have hcz32_2 : wr.cell? ⟨gb136, 2, none⟩ = some (.string a1_2) := (blk_cell BK136.out 2).trans rfl
          have hcz32_3 : wr.cell? ⟨gb136, 3, none⟩ = some (.slice A1_3 l1_3.length c1_3) := (blk_cell BK136.out 3).trans rfl
          have hcz32_4 : wr.cell? ⟨gb136, 4, none⟩ = some (.slice A1_4 l1_4.length c1_4) := (blk_cell BK136.out 4).trans rfl
          have hfz32_0 := blk_frozen BK136.out 0
          have hfz32_1 := blk_frozen BK136.out 1
          have hfz32_2 := blk_frozen BK136.out 2
          have hfz32_3 := blk_frozen BK136.out 3
          have hfz32_4 := blk_frozen BK136.out 4
          have p143 : 0 ≤ (x14_1 : Int) := of_decide_eq_true (by first | (with_reducible assumption) | assumption)
          have q143 : x14_1 < (l0_3.length : Int) := of_decide_eq_true (by first | (with_reducible assumption) | assumption)
          obtain ⟨ad143, e143, hx143_0, hx143_1, hx143_2, hx143_3, hx143_4, hx143_5⟩ := at_T23 HR0_3.out x14_1 p143 q143
          cases e143
          replace hx143_0 := (HB.out.cell (World.block_lt_of_cell? w _ hx143_0)).trans hx143_0
          replace hx143_1 := (HB.out.cell (World.block_lt_of_cell? w _ hx143_1)).trans hx143_1
          replace hx143_2 := (HB.out.cell (World.block_lt_of_cell? w _ hx143_2)).trans hx143_2
          replace hx143_3 := (HB.out.cell (World.block_lt_of_cell? w _ hx143_3)).trans hx143_3
          replace hx143_4 := (HB.out.cell (World.block_lt_of_cell? w _ hx143_4)).trans hx143_4
          replace hx143_5 := (HB.out.cell (World.block_lt_of_cell? w _ hx143_5)).trans hx143_5
          replace p143 := eq_true p143
          replace q143 := eq_true q143
          have p144 : 0 ≤ (x14_1 : Int) := of_decide_eq_true (by first | (with_reducible assumption) | assumption)
          have q144 : x14_1 < (l1_3.length : Int) := of_decide_eq_true (by first | (with_reducible assumption) | assumption)
          obtain ⟨ad144, e144, hx144_0, hx144_1, hx144_2, hx144_3, hx144_4, hx144_5⟩ := at_T23 HR1_3.out x14_1 p144 q144
          cases e144
          replace hx144_0 := (HB.out.cell (World.block_lt_of_cell? w _ hx144_0)).trans hx144_0
          replace hx144_1 := (HB.out.cell (World.block_lt_of_cell? w _ hx144_1)).trans hx144_1
          replace hx144_2 := (HB.out.cell (World.block_lt_of_cell? w _ hx144_2)).trans hx144_2
          replace hx144_3 := (HB.out.cell (World.block_lt_of_cell? w _ hx144_3)).trans hx144_3
          replace hx144_4 := (HB.out.cell (World.block_lt_of_cell? w _ hx144_4)).trans hx144_4
          replace hx144_5 := (HB.out.cell (World.block_lt_of_cell? w _ hx144_5)).trans hx144_5
          replace p144 := eq_true p144
          replace q144 := eq_true q144
          go_wp2
          repeat (go_quiet (fail); try go_wp2)
          go_roundg k1
          case measure => have := HK1.out; omega
          case rel => exact ⟨(x5_1), (wrap64 (x14_1 + 1)), (by first | rfl | (simp; done) | (simp [*]; done)), H', ⟨by have := HK1.out; omega⟩, ⟨by (with_reducible repeat (first | apply Kd.R_alloc | apply Kd.R_drewN | apply Kd.R_drew)); exact HO_5.out⟩, ⟨by (with_reducible repeat (first | refine blk_drewN ?_ _ | refine blk_drew ?_ | refine blk_alloc ?_ _)); exact BK135.out⟩, ⟨by (with_reducible repeat (first | refine blk_drewN ?_ _ | refine blk_drew ?_ | refine blk_alloc ?_ _)); exact BK136.out⟩, ⟨by repeat (first | (with_reducible first | exact HB.out | apply below_alloc | apply pw_below_drewN | apply below_drew1 | refine below_set ?_ GE135.out | refine below_set ?_ GE136.out) | exact HB.out)⟩⟩
        ·rw [if_neg c23] at H
         exact absurd H (by simp)
       ·rw [if_neg c22] at H
        exact absurd H (by simp)
      ·rw [if_neg c21] at H
       exact absurd H (by simp)
   ·rw [if_neg c9] at H
    have c9b0 : decide (x14_1 < ji3) = false := decide_eq_false c9
    clear c9
    obtain rfl := Option.some.inj H
    go_wp2
    repeat (go_quiet (fail); try go_wp2)
    go_ret
    exact ⟨_, by first | rfl | (simp [errW_none, errW_some] <;> rfl) | (simp only [← hji3]; first | rfl | (simp [errW_none, errW_some] <;> rfl)) | (simp [*, errW_none, errW_some] <;> rfl), by (with_reducible repeat (first | apply Kd.R_alloc | apply Kd.R_drewN | apply Kd.R_drew)); exact HO_5.out, by repeat (first | (with_reducible first | exact HB.out | apply below_alloc | apply pw_below_drewN | apply below_drew1 | refine below_set ?_ GE135.out | refine below_set ?_ GE136.out) | exact HB.out)⟩

end Go.Proofs.Ytinmdoemkejanaa.Print
