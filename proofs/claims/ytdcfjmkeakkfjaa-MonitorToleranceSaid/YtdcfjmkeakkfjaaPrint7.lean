-- Printed by a program of this session (wip/own_print.py) out of the translation; Lean checks it.
import Derived.Test.YtdcfjmkeakkfjaaPrint0
import Derived.Test.YtdcfjmkeakkfjaaPrint1
import Derived.Test.YtdcfjmkeakkfjaaPrint6
namespace Go.Proofs.Ytdcfjmkeakkfjaa.Print
open Go.RowKit Go.Proofs.YtdcfjmkeakkfjaaW.PrintWords Go.Proofs.YtdcfjmkeakkfjaaW.PrintLast Go.Proofs.YtdcfjmkeakkfjaaW.PrintMore
attribute [local go_sem] max2_int min2_int max_two min_two max_three min_three max_four min_four   -- for this text's walks alone
set_option linter.unusedVariables false
set_option linter.unusedSimpArgs false

/-! ### monitor_Run: function 20 -/
def monitor_Run.l0 : Nat → Int → List Bool → Int → Int → Int → Int → Int → Int → List Bool → Bool → Option (Int × Int × Int)
  | 0, _, _, _, _, _, _, _, _, _, _ => none
  | k + 1, x5, x16, x17, x18, x149000, x149001, x149002, x149003, x151000, x151001 => if x18 < x17 then (if 0 ≤ x18 then (if x18 < (x16.length : Int) then ((monitor_Step.f k x149000 x149001 x149002 x149003 x151000 x151001 (rdOf false x16 x18)).bind fun bt152 => (if bt152.2.1 = true then (some (x18, x5, 0)) else (if rdOf false x16 x18 = true then (monitor_Run.l0 k x18 x16 x17 (wrap64 (x18 + 1)) x149000 x149001 x149002 x149003 bt152.1 bt152.2.1) else (monitor_Run.l0 k x5 x16 x17 (wrap64 (x18 + 1)) x149000 x149001 x149002 x149003 bt152.1 bt152.2.1)))) else (none)) else (none)) else (some ((-1), x5, 0))
def monitor_Run.f (k : Nat) (a0_0 : Int) (a0_1 : Int) (a0_2 : Int) (a0_3 : Int) (l1 : List Bool) : Option (Int × Int × Int) := (monitor_Check.f a0_0 a0_1 a0_2 a0_3).bind fun t149 => (if t149 = 0 then (monitor_Run.l0 k (-1) l1 (l1.length : Int) 0 a0_0 a0_1 a0_2 a0_3 ([] : List Bool) false) else (some (0, 0, t149)))
theorem monitor_Run.mono_l : ∀ k, (∀ y0 y1 y2 y3 y4 y5 y6 y7 y8 y9, LeO (monitor_Run.l0 k y0 y1 y2 y3 y4 y5 y6 y7 y8 y9) (monitor_Run.l0 (k + 1) y0 y1 y2 y3 y4 y5 y6 y7 y8 y9))
  | 0 => fun _ _ _ _ _ _ _ _ _ _ r h => by simp [monitor_Run.l0] at h
  | k + 1 => by
    have ih0 := monitor_Run.mono_l k
    · intro y0 y1 y2 y3 y4 y5 y6 y7 y8 y9
      unfold monitor_Run.l0
      repeat' first
      | (with_reducible exact ih0 _ _ _ _ _ _ _ _ _ _)
      | (with_reducible exact monitor_Step.mono _ _ _ _ _ _ _ _)
      | (with_reducible exact LeO.refl _)
      | (with_reducible exact LeO.none _)
      | (with_reducible refine LeO.ite ?_ ?_)
      | (with_reducible refine LeO.bind ?_ (fun _ => ?_))
      | exact ih0 _ _ _ _ _ _ _ _ _ _
      | exact monitor_Step.mono _ _ _ _ _ _ _ _
      | exact LeO.none _
      | refine LeO.ite ?_ ?_
      | refine LeO.bind ?_ (fun _ => ?_)
theorem monitor_Run.mono : ∀ a0 a1 a2 a3 a4 k, LeO (monitor_Run.f k a0 a1 a2 a3 a4) (monitor_Run.f (k + 1) a0 a1 a2 a3 a4) := by
  intro a0 a1 a2 a3 a4 k
  have ih0 := monitor_Run.mono_l k
  unfold monitor_Run.f
  repeat' first
      | (with_reducible exact ih0 _ _ _ _ _ _ _ _ _ _)
      | (with_reducible exact monitor_Step.mono _ _ _ _ _ _ _ _)
      | (with_reducible exact LeO.refl _)
      | (with_reducible exact LeO.none _)
      | (with_reducible refine LeO.ite ?_ ?_)
      | (with_reducible refine LeO.bind ?_ (fun _ => ?_))
      | exact ih0 _ _ _ _ _ _ _ _ _ _
      | exact monitor_Step.mono _ _ _ _ _ _ _ _
      | exact LeO.none _
      | refine LeO.ite ?_ ?_
      | refine LeO.bind ?_ (fun _ => ?_)
set_option maxHeartbeats 8000000 in
set_option maxRecDepth 100000 in
theorem monitor_Run.calls (k : Nat) (a0_0 : Int) (a0_1 : Int) (a0_2 : Int) (a0_3 : Int) (A1 : Option Addr) (c1 : Nat) (l1 : List Bool) (r1 : Int) (r2 : Int) (r3 : Int) (w : World) (hr1 : Kd.C Kd.bool w A1 l1.length l1) (hc1 : l1.length ≤ c1) (h : monitor_Run.f k a0_0 a0_1 a0_2 a0_3 l1 = some (r1, r2, r3)) :
    Calls Try.prog 20 #[.agg #[.int .i64 a0_0, .int .i64 a0_1, .int .i64 a0_2, .int .i64 a0_3], .slice A1 l1.length c1] w fun e w' => e = .returned (.tuple #[.int .i64 r1, .int .i64 r2, .int .i64 r3]) ∧ Below w.heap.size w w' := by
 have hu24 := Try.underlying24
 have hu27 := Try.underlying27
 have HR1 := Aside0.mk hr1
 have HC1 := Aside0.mk hc1
 clear hr1 hc1
 have HB := Aside0.mk (Below.refl w.heap.size w)
 have H : ((monitor_Check.f a0_0 a0_1 a0_2 a0_3).bind fun t149 => (if t149 = 0 then (monitor_Run.l0 k (-1) l1 (l1.length : Int) 0 a0_0 a0_1 a0_2 a0_3 ([] : List Bool) false) else (some (0, 0, t149)))) = some (r1, r2, r3) := h
 clear h
 replace H := Option.bind_eq_some_iff.mp H
 obtain ⟨t149, A30, H⟩ := H
 replace H : (if t149 = 0 then (monitor_Run.l0 k (-1) l1 (l1.length : Int) 0 a0_0 a0_1 a0_2 a0_3 ([] : List Bool) false) else (some (0, 0, t149))) = some (r1, r2, r3) := H
 have A3 := Aside0.mk A30
 clear A30
 by_cases c4 : t149 = 0
 ·rw [if_pos c4] at H
  have c4b0 : (t149 == 0) = true := beq_iff_eq.mpr c4
  have c4b1 : (t149 != 0) = false := bne_eq_false_iff_eq.mpr c4
  clear c4
  have H' := Aside0.mk H
  clear H
  go_enter Try.func20, Try.ntmps20
  go_wp2_with (first | ((with_reducible refine gate_dst (N := 2) rfl ?_); refine box_event ?hg (N := 2) ?hd (cs := #[.int .i64 a0_0, .int .i64 a0_1, .int .i64 a0_2, .int .i64 a0_3]) (t := 24) ?hr ?_; (case hd => rfl); (case hg => rfl); (case hr => first | (go_simp; done) | (go_simp; rfl)); intro gb148 hg w5 hbox hb; have n0_ := Aside0.mk (below_step (by repeat (first | (with_reducible first | exact HB.out | apply below_alloc | apply pw_below_drewN | apply below_drew1) | exact HB.out)) hb); have n1_ := Aside0.mk (hbox); have n2_ := Aside0.mk ((by rw [hg]; exact (below_size (by repeat (first | (with_reducible first | exact HB.out | apply below_alloc | apply pw_below_drewN | apply below_drew1) | exact HB.out))) : w.heap.size ≤ gb148)); have n3_ := Aside0.mk ((by rw [hg]; exact (below_size (by repeat (first | (with_reducible first | exact HB.out | apply below_alloc | apply pw_below_drewN | apply below_drew1) | exact HB.out))) : w.heap.size ≤ gb148)); clear HB; have HB := n0_; have BK148 := n1_; have GW148 := n2_; have GE148 := n3_; clear n0_ n1_ n2_ n3_ hb hbox hg; have hcz6_0 : w5.cell? ⟨gb148, 0, none⟩ = some (.int .i64 a0_0) := (blk_cell BK148.out 0).trans rfl; have hcz6_1 : w5.cell? ⟨gb148, 1, none⟩ = some (.int .i64 a0_1) := (blk_cell BK148.out 1).trans rfl; have hcz6_2 : w5.cell? ⟨gb148, 2, none⟩ = some (.int .i64 a0_2) := (blk_cell BK148.out 2).trans rfl; have hcz6_3 : w5.cell? ⟨gb148, 3, none⟩ = some (.int .i64 a0_3) := (blk_cell BK148.out 3).trans rfl; have hfz6_0 := blk_frozen BK148.out 0; have hfz6_1 := blk_frozen BK148.out 1; have hfz6_2 := blk_frozen BK148.out 2; have hfz6_3 := blk_frozen BK148.out 3) | ((with_reducible refine gate_callee (f := 14) rfl ?_); refine goesL_ (some 12) rfl rfl Try.func14 (by kernel_rfl) rfl #[.agg #[.int .i64 a0_0, .int .i64 a0_1, .int .i64 a0_2, .int .i64 a0_3]] rfl (by (try simp only [List.map_toArray, List.map_cons, List.map_nil]); first | done | rfl | (simp only [List.length_drop, List.length_take]; rfl)) ?_; (with_reducible refine (monitor_Check.calls a0_0 a0_1 a0_2 a0_3 t149 _ A3.out).mono ?_); rintro e w7 ⟨rfl, hb⟩; refine ⟨_, rfl, ?_⟩; have n0_ := Aside0.mk (blk_below (g := gb148) (o := .cells #[.int .i64 a0_0, .int .i64 a0_1, .int .i64 a0_2, .int .i64 a0_3] 24 (0, 0)) (by (with_reducible repeat (first | refine blk_drewN ?_ _ | refine blk_drew ?_ | refine blk_alloc ?_ _)); exact BK148.out) hb); have n1_ := Aside0.mk (below_step (by repeat (first | (with_reducible first | exact HB.out | apply below_alloc | apply pw_below_drewN | apply below_drew1 | refine below_set ?_ GE148.out) | exact HB.out)) hb); clear BK148 HB; have BK148 := n0_; have HB := n1_; clear n0_ n1_; (try clear hb); (try clear hb2); (try clear hk); (try clear hi)) | ((with_reducible refine gate_dst (N := 8) rfl ?_); refine box_event ?hg (N := 8) ?hd (cs := #[.slice none 0 0, .bool false]) (t := 27) ?hr ?_; (case hd => rfl); (case hg => rfl); (case hr => first | (go_simp; done) | (go_simp; rfl)); intro gb150 hg w8 hbox hb; have n0_ := Aside0.mk (blk_below (g := gb148) (o := .cells #[.int .i64 a0_0, .int .i64 a0_1, .int .i64 a0_2, .int .i64 a0_3] 24 (0, 0)) (by (with_reducible repeat (first | refine blk_drewN ?_ _ | refine blk_drew ?_ | refine blk_alloc ?_ _)); exact BK148.out) hb); have n1_ := Aside0.mk (below_step (by repeat (first | (with_reducible first | exact HB.out | apply below_alloc | apply pw_below_drewN | apply below_drew1 | refine below_set ?_ GE148.out) | exact HB.out)) hb); have n2_ := Aside0.mk (hbox); have n3_ := Aside0.mk ((by rw [hg]; exact (below_size (by repeat (first | (with_reducible first | exact HB.out | apply below_alloc | apply pw_below_drewN | apply below_drew1 | refine below_set ?_ GE148.out) | exact HB.out))) : w.heap.size ≤ gb150)); have n4_ := Aside0.mk ((by rw [hg]; exact (below_size (by repeat (first | (with_reducible first | exact HB.out | apply below_alloc | apply pw_below_drewN | apply below_drew1 | refine below_set ?_ GE148.out) | exact HB.out))) : w.heap.size ≤ gb150)); have n5_ := Aside0.mk ((by rw [hg]; exact Nat.ne_of_lt (blk_lt (g := gb148) (o := .cells #[.int .i64 a0_0, .int .i64 a0_1, .int .i64 a0_2, .int .i64 a0_3] 24 (0, 0)) (by (with_reducible repeat (first | refine blk_drewN ?_ _ | refine blk_drew ?_ | refine blk_alloc ?_ _)); exact BK148.out)) : gb148 ≠ gb150)); have n6_ := Aside0.mk ((by rw [hg]; exact Nat.ne_of_gt (blk_lt (g := gb148) (o := .cells #[.int .i64 a0_0, .int .i64 a0_1, .int .i64 a0_2, .int .i64 a0_3] 24 (0, 0)) (by (with_reducible repeat (first | refine blk_drewN ?_ _ | refine blk_drew ?_ | refine blk_alloc ?_ _)); exact BK148.out)) : gb150 ≠ gb148)); clear BK148 HB; have BK148 := n0_; have HB := n1_; have BK150 := n2_; have GW150 := n3_; have GE150 := n4_; have NB148_150 := n5_; have NB150_148 := n6_; clear n0_ n1_ n2_ n3_ n4_ n5_ n6_ hb hbox hg))
  go_loopg [5, 18] k (fun kq v5 v18 w' => ∃ (x5_1 : Int) (x18_1 : Int) (x151000_1 : List Bool) (x151001_1 : Bool) (u151000 : Value), v5 = .int .i64 x5_1 ∧ v18 = .int .i64 x18_1 ∧ Aside0 (monitor_Run.l0 kq x5_1 l1 (l1.length : Int) x18_1 a0_0 a0_1 a0_2 a0_3 x151000_1 x151001_1 = some (r1, r2, r3)) ∧ Aside0 (kq ≤ k) ∧ Aside0 (Kd.Q Kd.bool 4 w' w.heap.size (fun _ => True) u151000 x151000_1) ∧ Aside0 (w'.heap[gb148]? = some (.cells #[.int .i64 a0_0, .int .i64 a0_1, .int .i64 a0_2, .int .i64 a0_3] 24 (0, 0))) ∧ Aside0 (w'.heap[gb150]? = some (.cells #[u151000, .bool x151001_1] 27 (0, 0))) ∧ Aside0 (Below w.heap.size w w'))
  case atStart => exact ⟨((-1)), (0), (([] : List Bool)), (false), (.slice none 0 0), (by first | rfl | (simp; done) | (simp [*]; done)), (by first | rfl | (simp; done) | (simp [*]; done)), H', ⟨Nat.le_refl _⟩, ⟨Kd.Q_of_R (by first | exact Kd.R_nil _ _ _ _ _ | exact Kd.N_nil _ _ _ _ _ | exact Kd.V_nil _ _ _ _ _ | exact Kd.Q_nil _ _ _ _ _ | exact Kd.S_nil _ _ _ _ _)⟩, ⟨by (with_reducible repeat (first | refine blk_drewN ?_ _ | refine blk_drew ?_ | refine blk_alloc ?_ _)); exact BK148.out⟩, ⟨by (with_reducible repeat (first | refine blk_drewN ?_ _ | refine blk_drew ?_ | refine blk_alloc ?_ _)); exact BK150.out⟩, ⟨by repeat (first | (with_reducible first | exact HB.out | apply below_alloc | apply pw_below_drewN | apply below_drew1 | refine below_set ?_ GE148.out | refine below_set ?_ GE150.out) | exact HB.out)⟩⟩
  case round =>
   clear H'
   try clear c1
   try clear c2
   try clear p2
   try clear c4
   try clear c4b0
   try clear c4b1
   try clear hcz6_0
   try clear hcz6_1
   try clear hcz6_2
   try clear hcz6_3
   try clear hfz6_0
   try clear hfz6_1
   try clear hfz6_2
   try clear hfz6_3
   obtain ⟨x5_1, x18_1, x151000_1, x151001_1, u151000, rfl, rfl, HA, HK1, HO_151000, BK148, BK150, HB⟩ := hrel
   cases gk with
   | zero => exact absurd HA.out (by simp [monitor_Run.l0])
   | succ k1 =>
    have H := HA.out
    clear HA
    simp only [monitor_Run.l0] at H
    by_cases c9 : x18_1 < (l1.length : Int)
    ·rw [if_pos c9] at H
     have c9b0 : decide (x18_1 < (l1.length : Int)) = true := decide_eq_true c9
     clear c9
     by_cases c10 : 0 ≤ x18_1
     ·rw [if_pos c10] at H
      have c10b0 : decide (0 ≤ x18_1) = true := decide_eq_true c10
      clear c10
      by_cases c11 : x18_1 < (l1.length : Int)
      ·rw [if_pos c11] at H
       have c11b0 : decide (x18_1 < (l1.length : Int)) = true := decide_eq_true c11
       clear c11
       replace H := Option.bind_eq_some_iff.mp H
       obtain ⟨⟨t152, t155, t156⟩, A120, H⟩ := H
       replace H : (if t155 = true then (some (x18_1, x5_1, 0)) else (if rdOf false l1 x18_1 = true then (monitor_Run.l0 k1 x18_1 l1 (l1.length : Int) (wrap64 (x18_1 + 1)) a0_0 a0_1 a0_2 a0_3 t152 t155) else (monitor_Run.l0 k1 x5_1 l1 (l1.length : Int) (wrap64 (x18_1 + 1)) a0_0 a0_1 a0_2 a0_3 t152 t155))) = some (r1, r2, r3) := H
       have A12 := Aside0.mk A120
       clear A120
       by_cases c13 : t155 = true
       ·subst c13
        have H1 : (some (x18_1, x5_1, 0)) = some (r1, r2, r3) := by rw [if_pos rfl] at H; exact H
        clear H
        have H := H1
        clear H1
        simp only [Option.some.injEq, Prod.mk.injEq] at H
        obtain ⟨rfl, rfl, rfl⟩ := H
        have p151 : 0 ≤ (x18_1 : Int) := of_decide_eq_true (by first | (with_reducible assumption) | assumption)
        have q151 : x18_1 < (l1.length : Int) := of_decide_eq_true (by first | (with_reducible assumption) | assumption)
        obtain ⟨ad151, e151, hx151_0⟩ := Kd.at_bool HR1.out x18_1 p151 q151
        cases e151
        replace hx151_0 := (HB.out.cell (World.block_lt_of_cell? w _ hx151_0)).trans hx151_0
        replace p151 := eq_true p151
        replace q151 := eq_true q151
        have hnb14 := NB148_150.out
        have hnc14 := NB150_148.out
        have hcz15_0 : wr.cell? ⟨gb148, 0, none⟩ = some (.int .i64 a0_0) := (blk_cell BK148.out 0).trans rfl
        have hcz15_1 : wr.cell? ⟨gb148, 1, none⟩ = some (.int .i64 a0_1) := (blk_cell BK148.out 1).trans rfl
        have hcz15_2 : wr.cell? ⟨gb148, 2, none⟩ = some (.int .i64 a0_2) := (blk_cell BK148.out 2).trans rfl
        have hcz15_3 : wr.cell? ⟨gb148, 3, none⟩ = some (.int .i64 a0_3) := (blk_cell BK148.out 3).trans rfl
        have hfz15_0 := blk_frozen BK148.out 0
        have hfz15_1 := blk_frozen BK148.out 1
        have hfz15_2 := blk_frozen BK148.out 2
        have hfz15_3 := blk_frozen BK148.out 3
        have hcz16_0 : wr.cell? ⟨gb150, 0, none⟩ = some (u151000) := (blk_cell BK150.out 0).trans rfl
        have hcz16_1 : wr.cell? ⟨gb150, 1, none⟩ = some (.bool x151001_1) := (blk_cell BK150.out 1).trans rfl
        have hfz16_0 := blk_frozen BK150.out 0
        have hfz16_1 := blk_frozen BK150.out 1
        obtain ⟨Ao17, co17, eo17, _⟩ := Kd.Q_slice HO_151000.out
        subst eo17
        go_wp2_with (first | ((with_reducible refine gate_callee (f := 23) rfl ?_); refine goesL_ (some 27) rfl rfl Try.func23 (by kernel_rfl) rfl #[.agg #[.int .i64 a0_0, .int .i64 a0_1, .int .i64 a0_2, .int .i64 a0_3], .agg #[.slice Ao17 x151000_1.length co17, .bool x151001_1], .bool (rdOf false l1 x18_1)] rfl (by (try simp only [List.map_toArray, List.map_cons, List.map_nil]); first | done | rfl | (simp only [List.length_drop, List.length_take]; rfl)) ?_; (with_reducible refine (monitor_Step.calls k1 a0_0 a0_1 a0_2 a0_3 _ _ x151000_1 x151001_1 (rdOf false l1 x18_1) t152 true t156 _ ?side1 ?side2 A12.out).mono ?_); (case side1 => repeat (first | exact (Kd.Q_reads' HO_151000.out).2.2 | (with_reducible refine Kd.C_alloc ?_ _) | (with_reducible refine Kd.C_drewN ?_ _) | (with_reducible refine Kd.C_drew ?_))); (case side2 => exact (Kd.Q_reads' HO_151000.out).2.1); rintro e w18 ⟨v153, rfl, ho0, hb⟩; refine ⟨_, rfl, ?_⟩; have n0_ := Aside0.mk (Kd.Q_elder' (by (with_reducible repeat (first | apply Kd.Q_alloc | apply Kd.Q_drewN | apply Kd.Q_drew)); exact HO_151000.out) (Kd.Q_base ho0) hb); have n1_ := Aside0.mk (Kd.Q_lower (Kd.Q_new' ho0 (Kd.Q_lt (by (with_reducible repeat (first | apply Kd.Q_alloc | apply Kd.Q_drewN | apply Kd.Q_drew)); exact HO_151000.out))) (below_size (by repeat (first | (with_reducible first | exact HB.out | apply below_alloc | apply pw_below_drewN | apply below_drew1 | refine below_set ?_ GE148.out | refine below_set ?_ GE150.out) | exact HB.out)))); have n2_ := Aside0.mk (blk_below (g := gb148) (o := .cells #[.int .i64 a0_0, .int .i64 a0_1, .int .i64 a0_2, .int .i64 a0_3] 24 (0, 0)) (by (with_reducible repeat (first | refine blk_drewN ?_ _ | refine blk_drew ?_ | refine blk_alloc ?_ _)); exact BK148.out) hb); have n3_ := Aside0.mk (blk_below (g := gb150) (o := .cells #[.slice Ao17 x151000_1.length co17, .bool x151001_1] 27 (0, 0)) (by (with_reducible repeat (first | refine blk_drewN ?_ _ | refine blk_drew ?_ | refine blk_alloc ?_ _)); exact BK150.out) hb); have n4_ := Aside0.mk (below_step (by repeat (first | (with_reducible first | exact HB.out | apply below_alloc | apply pw_below_drewN | apply below_drew1 | refine below_set ?_ GE148.out | refine below_set ?_ GE150.out) | exact HB.out)) hb); clear HO_151000 BK148 BK150 HB; have HO_151000 := n0_; have HO154 := n1_; have BK148 := n2_; have BK150 := n3_; have HB := n4_; clear n0_ n1_ n2_ n3_ n4_; (try clear hb); (try clear hb2); (try clear hk); (try clear hi); (try clear ho0); obtain ⟨Ao19, co19, eo19, _⟩ := Kd.Q_slice HO154.out; subst eo19; have hcz20_0 : w18.cell? ⟨gb150, 0, none⟩ = some (.slice Ao17 x151000_1.length co17) := (blk_cell BK150.out 0).trans rfl; have hcz20_1 : w18.cell? ⟨gb150, 1, none⟩ = some (.bool x151001_1) := (blk_cell BK150.out 1).trans rfl; have hfz20_0 := blk_frozen BK150.out 0; have hfz20_1 := blk_frozen BK150.out 1))
        go_ret3
        exact ⟨by first | rfl | (simp [errW_none, errW_some] <;> rfl) | (simp [*, errW_none, errW_some] <;> rfl), by repeat (first | (with_reducible first | exact HB.out | apply below_alloc | apply pw_below_drewN | apply below_drew1 | refine below_set ?_ GE148.out | refine below_set ?_ GE150.out) | exact HB.out)⟩
       ·replace c13 := Bool.eq_false_iff.mpr c13
        subst c13
        have H1 : (if rdOf false l1 x18_1 = true then (monitor_Run.l0 k1 x18_1 l1 (l1.length : Int) (wrap64 (x18_1 + 1)) a0_0 a0_1 a0_2 a0_3 t152 false) else (monitor_Run.l0 k1 x5_1 l1 (l1.length : Int) (wrap64 (x18_1 + 1)) a0_0 a0_1 a0_2 a0_3 t152 false)) = some (r1, r2, r3) := by rw [if_neg (show ¬ (false = true) by decide)] at H; exact H
        clear H
        have H := H1
        clear H1
        obtain ⟨bq21, hbq21⟩ : ∃ b_ : Bool, b_ = (rdOf false l1 x18_1) := ⟨_, rfl⟩
        replace H : (if bq21 = true then (monitor_Run.l0 k1 x18_1 l1 (l1.length : Int) (wrap64 (x18_1 + 1)) a0_0 a0_1 a0_2 a0_3 t152 false) else (monitor_Run.l0 k1 x5_1 l1 (l1.length : Int) (wrap64 (x18_1 + 1)) a0_0 a0_1 a0_2 a0_3 t152 false)) = some (r1, r2, r3) := by rw [← hbq21] at H; exact H
        have Nbq21 := Aside0.mk hbq21
        clear hbq21
        by_cases c22 : bq21 = true
        ·subst c22
         (try rw [← Nbq21.out] at A3)
         (try rw [← Nbq21.out] at A12)
         have H1 : (monitor_Run.l0 k1 x18_1 l1 (l1.length : Int) (wrap64 (x18_1 + 1)) a0_0 a0_1 a0_2 a0_3 t152 false) = some (r1, r2, r3) := by rw [if_pos rfl] at H; exact H
         clear H
         have H := H1
         clear H1
         have H' := Aside0.mk H
         clear H
         have p151 : 0 ≤ (x18_1 : Int) := of_decide_eq_true (by first | (with_reducible assumption) | assumption)
         have q151 : x18_1 < (l1.length : Int) := of_decide_eq_true (by first | (with_reducible assumption) | assumption)
         obtain ⟨ad151, e151, hx151_0⟩ := Kd.at_bool HR1.out x18_1 p151 q151
         (try rw [← Nbq21.out] at hx151_0)
         (try rw [← Nbq21.out] at hw151_0)
         cases e151
         replace hx151_0 := (HB.out.cell (World.block_lt_of_cell? w _ hx151_0)).trans hx151_0
         replace p151 := eq_true p151
         replace q151 := eq_true q151
         have hnb23 := NB148_150.out
         have hnc23 := NB150_148.out
         have hcz24_0 : wr.cell? ⟨gb148, 0, none⟩ = some (.int .i64 a0_0) := (blk_cell BK148.out 0).trans rfl
         have hcz24_1 : wr.cell? ⟨gb148, 1, none⟩ = some (.int .i64 a0_1) := (blk_cell BK148.out 1).trans rfl
         have hcz24_2 : wr.cell? ⟨gb148, 2, none⟩ = some (.int .i64 a0_2) := (blk_cell BK148.out 2).trans rfl
         have hcz24_3 : wr.cell? ⟨gb148, 3, none⟩ = some (.int .i64 a0_3) := (blk_cell BK148.out 3).trans rfl
         have hfz24_0 := blk_frozen BK148.out 0
         have hfz24_1 := blk_frozen BK148.out 1
         have hfz24_2 := blk_frozen BK148.out 2
         have hfz24_3 := blk_frozen BK148.out 3
         have hcz25_0 : wr.cell? ⟨gb150, 0, none⟩ = some (u151000) := (blk_cell BK150.out 0).trans rfl
         have hcz25_1 : wr.cell? ⟨gb150, 1, none⟩ = some (.bool x151001_1) := (blk_cell BK150.out 1).trans rfl
         have hfz25_0 := blk_frozen BK150.out 0
         have hfz25_1 := blk_frozen BK150.out 1
         obtain ⟨Ao26, co26, eo26, _⟩ := Kd.Q_slice HO_151000.out
         subst eo26
         go_wp2_with (first | ((with_reducible refine gate_callee (f := 23) rfl ?_); refine goesL_ (some 27) rfl rfl Try.func23 (by kernel_rfl) rfl #[.agg #[.int .i64 a0_0, .int .i64 a0_1, .int .i64 a0_2, .int .i64 a0_3], .agg #[.slice Ao26 x151000_1.length co26, .bool x151001_1], .bool true] rfl (by (try simp only [List.map_toArray, List.map_cons, List.map_nil]); first | done | rfl | (simp only [List.length_drop, List.length_take]; rfl)) ?_; (with_reducible refine (monitor_Step.calls k1 a0_0 a0_1 a0_2 a0_3 _ _ x151000_1 x151001_1 true t152 false t156 _ ?side1 ?side2 A12.out).mono ?_); (case side1 => repeat (first | exact (Kd.Q_reads' HO_151000.out).2.2 | (with_reducible refine Kd.C_alloc ?_ _) | (with_reducible refine Kd.C_drewN ?_ _) | (with_reducible refine Kd.C_drew ?_))); (case side2 => exact (Kd.Q_reads' HO_151000.out).2.1); rintro e w27 ⟨v153, rfl, ho0, hb⟩; refine ⟨_, rfl, ?_⟩; have n0_ := Aside0.mk (Kd.Q_elder' (by (with_reducible repeat (first | apply Kd.Q_alloc | apply Kd.Q_drewN | apply Kd.Q_drew)); exact HO_151000.out) (Kd.Q_base ho0) hb); have n1_ := Aside0.mk (Kd.Q_lower (Kd.Q_new' ho0 (Kd.Q_lt (by (with_reducible repeat (first | apply Kd.Q_alloc | apply Kd.Q_drewN | apply Kd.Q_drew)); exact HO_151000.out))) (below_size (by repeat (first | (with_reducible first | exact HB.out | apply below_alloc | apply pw_below_drewN | apply below_drew1 | refine below_set ?_ GE148.out | refine below_set ?_ GE150.out) | exact HB.out)))); have n2_ := Aside0.mk (blk_below (g := gb148) (o := .cells #[.int .i64 a0_0, .int .i64 a0_1, .int .i64 a0_2, .int .i64 a0_3] 24 (0, 0)) (by (with_reducible repeat (first | refine blk_drewN ?_ _ | refine blk_drew ?_ | refine blk_alloc ?_ _)); exact BK148.out) hb); have n3_ := Aside0.mk (blk_below (g := gb150) (o := .cells #[.slice Ao26 x151000_1.length co26, .bool x151001_1] 27 (0, 0)) (by (with_reducible repeat (first | refine blk_drewN ?_ _ | refine blk_drew ?_ | refine blk_alloc ?_ _)); exact BK150.out) hb); have n4_ := Aside0.mk (below_step (by repeat (first | (with_reducible first | exact HB.out | apply below_alloc | apply pw_below_drewN | apply below_drew1 | refine below_set ?_ GE148.out | refine below_set ?_ GE150.out) | exact HB.out)) hb); clear HO_151000 BK148 BK150 HB; have HO_151000 := n0_; have HO154 := n1_; have BK148 := n2_; have BK150 := n3_; have HB := n4_; clear n0_ n1_ n2_ n3_ n4_; (try clear hb); (try clear hb2); (try clear hk); (try clear hi); (try clear ho0); obtain ⟨Ao28, co28, eo28, _⟩ := Kd.Q_slice HO154.out; subst eo28; have hcz29_0 : w27.cell? ⟨gb150, 0, none⟩ = some (.slice Ao26 x151000_1.length co26) := (blk_cell BK150.out 0).trans rfl; have hcz29_1 : w27.cell? ⟨gb150, 1, none⟩ = some (.bool x151001_1) := (blk_cell BK150.out 1).trans rfl; have hfz29_0 := blk_frozen BK150.out 0; have hfz29_1 := blk_frozen BK150.out 1))
         go_roundg k1
         case measure => have := HK1.out; omega
         case rel => exact ⟨(x18_1), (wrap64 (x18_1 + 1)), (t152), (false), (.slice Ao28 t152.length co28), (by first | rfl | (simp; done) | (simp [*]; done)), (by first | rfl | (simp; done) | (simp [*]; done)), H', ⟨by have := HK1.out; omega⟩, ⟨by (with_reducible repeat (first | apply Kd.Q_alloc | apply Kd.Q_drewN | apply Kd.Q_drew)); exact Kd.Q_mono (Kd.Q_far (p := ⟨gb150, 1, none⟩) (Kd.Q_far (p := ⟨gb150, 0, none⟩) (Kd.Q_types HO154.out BK150.out (by decide)) (fun _ hk => hk.2) (.slice Ao28 t152.length co28)) (fun _ hk => hk.2) (.bool false)) (fun _ hk => trivial)⟩, ⟨by (with_reducible repeat (first | refine blk_drewN ?_ _ | refine blk_drew ?_ | refine blk_alloc ?_ _)); refine blk_far ?_ NB148_150.out _; (with_reducible repeat (first | refine blk_drewN ?_ _ | refine blk_drew ?_ | refine blk_alloc ?_ _)); refine blk_far ?_ NB148_150.out _; (with_reducible repeat (first | refine blk_drewN ?_ _ | refine blk_drew ?_ | refine blk_alloc ?_ _)); exact BK148.out⟩, ⟨by (with_reducible repeat (first | refine blk_drewN ?_ _ | refine blk_drew ?_ | refine blk_alloc ?_ _)); refine blk_put (cs := #[.slice Ao28 t152.length co28, .bool x151001_1]) ?_ 1 _ rfl; (with_reducible repeat (first | refine blk_drewN ?_ _ | refine blk_drew ?_ | refine blk_alloc ?_ _)); refine blk_put (cs := #[.slice Ao26 x151000_1.length co26, .bool x151001_1]) ?_ 0 _ rfl; (with_reducible repeat (first | refine blk_drewN ?_ _ | refine blk_drew ?_ | refine blk_alloc ?_ _)); exact BK150.out⟩, ⟨by repeat (first | (with_reducible first | exact HB.out | apply below_alloc | apply pw_below_drewN | apply below_drew1 | refine below_set ?_ GE148.out | refine below_set ?_ GE150.out) | exact HB.out)⟩⟩
        ·replace c22 := Bool.eq_false_iff.mpr c22
         subst c22
         (try rw [← Nbq21.out] at A3)
         (try rw [← Nbq21.out] at A12)
         have H1 : (monitor_Run.l0 k1 x5_1 l1 (l1.length : Int) (wrap64 (x18_1 + 1)) a0_0 a0_1 a0_2 a0_3 t152 false) = some (r1, r2, r3) := by rw [if_neg (show ¬ (false = true) by decide)] at H; exact H
         clear H
         have H := H1
         clear H1
         have H' := Aside0.mk H
         clear H
         have p151 : 0 ≤ (x18_1 : Int) := of_decide_eq_true (by first | (with_reducible assumption) | assumption)
         have q151 : x18_1 < (l1.length : Int) := of_decide_eq_true (by first | (with_reducible assumption) | assumption)
         obtain ⟨ad151, e151, hx151_0⟩ := Kd.at_bool HR1.out x18_1 p151 q151
         (try rw [← Nbq21.out] at hx151_0)
         (try rw [← Nbq21.out] at hw151_0)
         cases e151
         replace hx151_0 := (HB.out.cell (World.block_lt_of_cell? w _ hx151_0)).trans hx151_0
         replace p151 := eq_true p151
         replace q151 := eq_true q151
         have hnb30 := NB148_150.out
         have hnc30 := NB150_148.out
         have hcz31_0 : wr.cell? ⟨gb148, 0, none⟩ = some (.int .i64 a0_0) := (blk_cell BK148.out 0).trans rfl
         have hcz31_1 : wr.cell? ⟨gb148, 1, none⟩ = some (.int .i64 a0_1) := (blk_cell BK148.out 1).trans rfl
         have hcz31_2 : wr.cell? ⟨gb148, 2, none⟩ = some (.int .i64 a0_2) := (blk_cell BK148.out 2).trans rfl
         have hcz31_3 : wr.cell? ⟨gb148, 3, none⟩ = some (.int .i64 a0_3) := (blk_cell BK148.out 3).trans rfl
         have hfz31_0 := blk_frozen BK148.out 0
         have hfz31_1 := blk_frozen BK148.out 1
         have hfz31_2 := blk_frozen BK148.out 2
         have hfz31_3 := blk_frozen BK148.out 3
         have hcz32_0 : wr.cell? ⟨gb150, 0, none⟩ = some (u151000) := (blk_cell BK150.out 0).trans rfl
         have hcz32_1 : wr.cell? ⟨gb150, 1, none⟩ = some (.bool x151001_1) := (blk_cell BK150.out 1).trans rfl
         have hfz32_0 := blk_frozen BK150.out 0
         have hfz32_1 := blk_frozen BK150.out 1
         obtain ⟨Ao33, co33, eo33, _⟩ := Kd.Q_slice HO_151000.out
         subst eo33
         go_wp2_with (first | ((with_reducible refine gate_callee (f := 23) rfl ?_); refine goesL_ (some 27) rfl rfl Try.func23 (by kernel_rfl) rfl #[.agg #[.int .i64 a0_0, .int .i64 a0_1, .int .i64 a0_2, .int .i64 a0_3], .agg #[.slice Ao33 x151000_1.length co33, .bool x151001_1], .bool false] rfl (by (try simp only [List.map_toArray, List.map_cons, List.map_nil]); first | done | rfl | (simp only [List.length_drop, List.length_take]; rfl)) ?_; (with_reducible refine (monitor_Step.calls k1 a0_0 a0_1 a0_2 a0_3 _ _ x151000_1 x151001_1 false t152 false t156 _ ?side1 ?side2 A12.out).mono ?_); (case side1 => repeat (first | exact (Kd.Q_reads' HO_151000.out).2.2 | (with_reducible refine Kd.C_alloc ?_ _) | (with_reducible refine Kd.C_drewN ?_ _) | (with_reducible refine Kd.C_drew ?_))); (case side2 => exact (Kd.Q_reads' HO_151000.out).2.1); rintro e w34 ⟨v153, rfl, ho0, hb⟩; refine ⟨_, rfl, ?_⟩; have n0_ := Aside0.mk (Kd.Q_elder' (by (with_reducible repeat (first | apply Kd.Q_alloc | apply Kd.Q_drewN | apply Kd.Q_drew)); exact HO_151000.out) (Kd.Q_base ho0) hb); have n1_ := Aside0.mk (Kd.Q_lower (Kd.Q_new' ho0 (Kd.Q_lt (by (with_reducible repeat (first | apply Kd.Q_alloc | apply Kd.Q_drewN | apply Kd.Q_drew)); exact HO_151000.out))) (below_size (by repeat (first | (with_reducible first | exact HB.out | apply below_alloc | apply pw_below_drewN | apply below_drew1 | refine below_set ?_ GE148.out | refine below_set ?_ GE150.out) | exact HB.out)))); have n2_ := Aside0.mk (blk_below (g := gb148) (o := .cells #[.int .i64 a0_0, .int .i64 a0_1, .int .i64 a0_2, .int .i64 a0_3] 24 (0, 0)) (by (with_reducible repeat (first | refine blk_drewN ?_ _ | refine blk_drew ?_ | refine blk_alloc ?_ _)); exact BK148.out) hb); have n3_ := Aside0.mk (blk_below (g := gb150) (o := .cells #[.slice Ao33 x151000_1.length co33, .bool x151001_1] 27 (0, 0)) (by (with_reducible repeat (first | refine blk_drewN ?_ _ | refine blk_drew ?_ | refine blk_alloc ?_ _)); exact BK150.out) hb); have n4_ := Aside0.mk (below_step (by repeat (first | (with_reducible first | exact HB.out | apply below_alloc | apply pw_below_drewN | apply below_drew1 | refine below_set ?_ GE148.out | refine below_set ?_ GE150.out) | exact HB.out)) hb); clear HO_151000 BK148 BK150 HB; have HO_151000 := n0_; have HO154 := n1_; have BK148 := n2_; have BK150 := n3_; have HB := n4_; clear n0_ n1_ n2_ n3_ n4_; (try clear hb); (try clear hb2); (try clear hk); (try clear hi); (try clear ho0); obtain ⟨Ao35, co35, eo35, _⟩ := Kd.Q_slice HO154.out; subst eo35; have hcz36_0 : w34.cell? ⟨gb150, 0, none⟩ = some (.slice Ao33 x151000_1.length co33) := (blk_cell BK150.out 0).trans rfl; have hcz36_1 : w34.cell? ⟨gb150, 1, none⟩ = some (.bool x151001_1) := (blk_cell BK150.out 1).trans rfl; have hfz36_0 := blk_frozen BK150.out 0; have hfz36_1 := blk_frozen BK150.out 1))
         go_roundg k1
         case measure => have := HK1.out; omega
         case rel => exact ⟨(x5_1), (wrap64 (x18_1 + 1)), (t152), (false), (.slice Ao35 t152.length co35), (by first | rfl | (simp; done) | (simp [*]; done)), (by first | rfl | (simp; done) | (simp [*]; done)), H', ⟨by have := HK1.out; omega⟩, ⟨by (with_reducible repeat (first | apply Kd.Q_alloc | apply Kd.Q_drewN | apply Kd.Q_drew)); exact Kd.Q_mono (Kd.Q_far (p := ⟨gb150, 1, none⟩) (Kd.Q_far (p := ⟨gb150, 0, none⟩) (Kd.Q_types HO154.out BK150.out (by decide)) (fun _ hk => hk.2) (.slice Ao35 t152.length co35)) (fun _ hk => hk.2) (.bool false)) (fun _ hk => trivial)⟩, ⟨by (with_reducible repeat (first | refine blk_drewN ?_ _ | refine blk_drew ?_ | refine blk_alloc ?_ _)); refine blk_far ?_ NB148_150.out _; (with_reducible repeat (first | refine blk_drewN ?_ _ | refine blk_drew ?_ | refine blk_alloc ?_ _)); refine blk_far ?_ NB148_150.out _; (with_reducible repeat (first | refine blk_drewN ?_ _ | refine blk_drew ?_ | refine blk_alloc ?_ _)); exact BK148.out⟩, ⟨by (with_reducible repeat (first | refine blk_drewN ?_ _ | refine blk_drew ?_ | refine blk_alloc ?_ _)); refine blk_put (cs := #[.slice Ao35 t152.length co35, .bool x151001_1]) ?_ 1 _ rfl; (with_reducible repeat (first | refine blk_drewN ?_ _ | refine blk_drew ?_ | refine blk_alloc ?_ _)); refine blk_put (cs := #[.slice Ao33 x151000_1.length co33, .bool x151001_1]) ?_ 0 _ rfl; (with_reducible repeat (first | refine blk_drewN ?_ _ | refine blk_drew ?_ | refine blk_alloc ?_ _)); exact BK150.out⟩, ⟨by repeat (first | (with_reducible first | exact HB.out | apply below_alloc | apply pw_below_drewN | apply below_drew1 | refine below_set ?_ GE148.out | refine below_set ?_ GE150.out) | exact HB.out)⟩⟩
      ·rw [if_neg c11] at H
       exact absurd H (by simp)
     ·rw [if_neg c10] at H
      exact absurd H (by simp)
    ·rw [if_neg c9] at H
     have c9b0 : decide (x18_1 < (l1.length : Int)) = false := decide_eq_false c9
     clear c9
     simp only [Option.some.injEq, Prod.mk.injEq] at H
     obtain ⟨rfl, rfl, rfl⟩ := H
     go_wp2
     go_ret3
     exact ⟨by first | rfl | (simp [errW_none, errW_some] <;> rfl) | (simp [*, errW_none, errW_some] <;> rfl), by repeat (first | (with_reducible first | exact HB.out | apply below_alloc | apply pw_below_drewN | apply below_drew1 | refine below_set ?_ GE148.out | refine below_set ?_ GE150.out) | exact HB.out)⟩
 ·rw [if_neg c4] at H
  have c4b0 : (t149 == 0) = false := beq_eq_false_iff_ne.mpr c4
  have c4b1 : (t149 != 0) = true := bne_iff_ne.mpr c4
  simp only [Option.some.injEq, Prod.mk.injEq] at H
  obtain ⟨rfl, rfl, rfl⟩ := H
  go_enter Try.func20, Try.ntmps20
  go_wp2_with (first | ((with_reducible refine gate_dst (N := 2) rfl ?_); refine box_event ?hg (N := 2) ?hd (cs := #[.int .i64 a0_0, .int .i64 a0_1, .int .i64 a0_2, .int .i64 a0_3]) (t := 24) ?hr ?_; (case hd => rfl); (case hg => rfl); (case hr => first | (go_simp; done) | (go_simp; rfl)); intro gb148 hg w37 hbox hb; have n0_ := Aside0.mk (below_step (by repeat (first | (with_reducible first | exact HB.out | apply below_alloc | apply pw_below_drewN | apply below_drew1) | exact HB.out)) hb); have n1_ := Aside0.mk (hbox); have n2_ := Aside0.mk ((by rw [hg]; exact (below_size (by repeat (first | (with_reducible first | exact HB.out | apply below_alloc | apply pw_below_drewN | apply below_drew1) | exact HB.out))) : w.heap.size ≤ gb148)); have n3_ := Aside0.mk ((by rw [hg]; exact (below_size (by repeat (first | (with_reducible first | exact HB.out | apply below_alloc | apply pw_below_drewN | apply below_drew1) | exact HB.out))) : w.heap.size ≤ gb148)); clear HB; have HB := n0_; have BK148 := n1_; have GW148 := n2_; have GE148 := n3_; clear n0_ n1_ n2_ n3_ hb hbox hg; have hcz38_0 : w37.cell? ⟨gb148, 0, none⟩ = some (.int .i64 a0_0) := (blk_cell BK148.out 0).trans rfl; have hcz38_1 : w37.cell? ⟨gb148, 1, none⟩ = some (.int .i64 a0_1) := (blk_cell BK148.out 1).trans rfl; have hcz38_2 : w37.cell? ⟨gb148, 2, none⟩ = some (.int .i64 a0_2) := (blk_cell BK148.out 2).trans rfl; have hcz38_3 : w37.cell? ⟨gb148, 3, none⟩ = some (.int .i64 a0_3) := (blk_cell BK148.out 3).trans rfl; have hfz38_0 := blk_frozen BK148.out 0; have hfz38_1 := blk_frozen BK148.out 1; have hfz38_2 := blk_frozen BK148.out 2; have hfz38_3 := blk_frozen BK148.out 3) | ((with_reducible refine gate_callee (f := 14) rfl ?_); refine goesL_ (some 12) rfl rfl Try.func14 (by kernel_rfl) rfl #[.agg #[.int .i64 a0_0, .int .i64 a0_1, .int .i64 a0_2, .int .i64 a0_3]] rfl (by (try simp only [List.map_toArray, List.map_cons, List.map_nil]); first | done | rfl | (simp only [List.length_drop, List.length_take]; rfl)) ?_; (with_reducible refine (monitor_Check.calls a0_0 a0_1 a0_2 a0_3 t149 _ A3.out).mono ?_); rintro e w39 ⟨rfl, hb⟩; refine ⟨_, rfl, ?_⟩; have n0_ := Aside0.mk (blk_below (g := gb148) (o := .cells #[.int .i64 a0_0, .int .i64 a0_1, .int .i64 a0_2, .int .i64 a0_3] 24 (0, 0)) (by (with_reducible repeat (first | refine blk_drewN ?_ _ | refine blk_drew ?_ | refine blk_alloc ?_ _)); exact BK148.out) hb); have n1_ := Aside0.mk (below_step (by repeat (first | (with_reducible first | exact HB.out | apply below_alloc | apply pw_below_drewN | apply below_drew1 | refine below_set ?_ GE148.out) | exact HB.out)) hb); clear BK148 HB; have BK148 := n0_; have HB := n1_; clear n0_ n1_; (try clear hb); (try clear hb2); (try clear hk); (try clear hi)))
  go_ret3
  exact ⟨by first | rfl | (simp [errW_none, errW_some] <;> rfl) | (simp [*, errW_none, errW_some] <;> rfl), by repeat (first | (with_reducible first | exact HB.out | apply below_alloc | apply pw_below_drewN | apply below_drew1 | refine below_set ?_ GE148.out) | exact HB.out)⟩

end Go.Proofs.Ytdcfjmkeakkfjaa.Print
