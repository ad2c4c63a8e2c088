-- Printed by a program of this session (wip/own_print.py) out of the translation; Lean checks it.
import Derived.Test.YtbgeoadaeihgkaaPrint0
namespace Go.Proofs.Ytbgeoadaeihgkaa.Print
open Go.RowKit Go.Proofs.YtbgeoadaeihgkaaW.PrintWords Go.Proofs.YtbgeoadaeihgkaaW.PrintLast Go.Proofs.YtbgeoadaeihgkaaW.PrintMore
attribute [local go_sem] max2_int min2_int max_two min_two max_three min_three max_four min_four   -- for this text's walks alone
set_option linter.unusedVariables false
set_option linter.unusedSimpArgs false

/-- A state of type 57 at block g of W; what its slices lead to came in by w0. -/
def IsS57 (w0 W : World) (g : Nat) (f0 : List Int) (f1 : Int) : Prop := ∃ A0 c0, W.heap[g]? = some (.cells #[.slice A0 f0.length c0, .int .i64 f1] 57 (0, 0)) ∧ w0.heap.size ≤ g ∧ Kd.C (Kd.int .i64) w0 A0 f0.length f0
theorem IsS57.grown {w0 W : World} {g : Nat} {f0 : List Int} {f1 : Int} {W1 : World} {row : Option Nat} (h : IsS57 w0 W g f0 f1) (hw : W.grownBy W1 row) (hne : some g ≠ row) : IsS57 w0 W1 g f0 f1 := by
  obtain ⟨A0, c0, hb, hg, hr0⟩ := h
  exact ⟨A0, c0, blk_grown hb hw hne, hg, hr0⟩
theorem IsS57.own_neN {w0 W : World} {g : Nat} {f0 : List Int} {f1 : Int} {α : Type} {d : Kd α} {e : Nat} {base : Nat} {ok : Nat → Prop} {v : Value} {xs : List α} (h : IsS57 w0 W g f0 f1) (ho : Kd.N d e W base ok v xs) (ht : e ≠ 57) : some g ≠ v.ownBlock := by
  obtain ⟨A0, c0, hb, hg, hr0⟩ := h
  exact Kd.N_ne ho hb ht
theorem IsS57.fresh {w0 W : World} {g : Nat} {f0 : List Int} {f1 : Int} (h : IsS57 w0 W g f0 f1) : ∀ k, W.heap.size ≤ k → k ≠ g := by
  obtain ⟨A0, c0, hb, hg, hr0⟩ := h
  exact Kd.freshB hb
theorem IsS57.kept {w0 W : World} {g : Nat} {f0 : List Int} {f1 : Int} {W1 : World} {S : Nat → Prop} (h : IsS57 w0 W g f0 f1) (hk : Kept W W1 S) (hne : ¬ S g) : IsS57 w0 W1 g f0 f1 := by
  obtain ⟨A0, c0, hb, hg, hr0⟩ := h
  exact ⟨A0, c0, blk_kept hb hk hne, hg, hr0⟩
theorem IsS57.below {w0 W : World} {g : Nat} {f0 : List Int} {f1 : Int} {W1 : World} (h : IsS57 w0 W g f0 f1) (hw : Below W.heap.size W W1) : IsS57 w0 W1 g f0 f1 := h.grown (grown_of_below hw none) (by simp)
theorem IsS57.alloc {w0 W : World} {g : Nat} {f0 : List Int} {f1 : Int} (h : IsS57 w0 W g f0 f1) (o : Obj) : IsS57 w0 (W.alloc o) g f0 f1 := h.below (below_alloc (Below.refl _ _) o)
theorem IsS57.drewN {w0 W : World} {g : Nat} {f0 : List Int} {f1 : Int} (h : IsS57 w0 W g f0 f1) (m : Nat) : IsS57 w0 (W.drewN m) g f0 f1 := h
theorem IsS57.drew {w0 W : World} {g : Nat} {f0 : List Int} {f1 : Int} (h : IsS57 w0 W g f0 f1) : IsS57 w0 W.drew g f0 f1 := h
theorem IsS57.at_ {w0 W : World} {g : Nat} {f0 : List Int} {f1 : Int} {w' : World} {m : Nat} (hq : W.drewN m = w') (h : IsS57 w0 W g f0 f1) : IsS57 w0 w' g f0 f1 := by subst hq; exact IsS57.drewN h m
theorem IsS57.apart {w0 W : World} {g : Nat} {f0 : List Int} {f1 : Int} {α : Type} {d : Kd α} {e : Nat} {base : Nat} {ok : Nat → Prop} {v : Value} {xs : List α} (h : IsS57 w0 W g f0 f1) (ho : d.R e W base ok v xs) (ht : ∀ q, q ∈ e :: d.E → q ≠ 57) : d.R e W base (fun k => ok k ∧ k ≠ g) v xs := by
  obtain ⟨A0, c0, hb, hg, hr0⟩ := h
  exact Kd.R_types ho hb ht
theorem IsS57.own_ne {w0 W : World} {g : Nat} {f0 : List Int} {f1 : Int} {α : Type} {d : Kd α} {e : Nat} {base : Nat} {ok : Nat → Prop} {v : Value} {xs : List α} (h : IsS57 w0 W g f0 f1) (ho : d.R e W base ok v xs) (ht : e ≠ 57) : some g ≠ v.ownBlock := by
  obtain ⟨A0, c0, hb, hg, hr0⟩ := h
  exact Kd.R_ne ho hb ht
theorem IsS57.apartQ {w0 W : World} {g : Nat} {f0 : List Int} {f1 : Int} {α : Type} {d : Kd α} {e : Nat} {base : Nat} {ok : Nat → Prop} {v : Value} {xs : List α} (h : IsS57 w0 W g f0 f1) (ho : d.Q e W base ok v xs) (ht : ∀ q, q ∈ e :: d.E → q ≠ 57) : d.Q e W base (fun k => ok k ∧ k ≠ g) v xs := by
  obtain ⟨A0, c0, hb, hg, hr0⟩ := h
  exact Kd.Q_types ho hb ht
theorem IsS57.own_neQ {w0 W : World} {g : Nat} {f0 : List Int} {f1 : Int} {α : Type} {d : Kd α} {e : Nat} {base : Nat} {ok : Nat → Prop} {v : Value} {xs : List α} (h : IsS57 w0 W g f0 f1) (ho : d.Q e W base ok v xs) (ht : e ≠ 57) : some g ≠ v.ownBlock := by
  obtain ⟨A0, c0, hb, hg, hr0⟩ := h
  exact Kd.Q_ne ho hb ht
theorem IsS57.apartS {w0 W : World} {g : Nat} {f0 : List Int} {f1 : Int} {α : Type} {d : Kd α} {e : Nat} {base : Nat} {ok : Nat → Prop} {v : Value} {xs : List α} (h : IsS57 w0 W g f0 f1) (ho : d.S e W base ok v xs) (ht : ∀ q, q ∈ e :: d.E → q ≠ 57) : d.S e W base (fun k => ok k ∧ k ≠ g) v xs := by
  obtain ⟨A0, c0, hb, hg, hr0⟩ := h
  exact Kd.S_types ho hb ht
theorem IsS57.own_neS {w0 W : World} {g : Nat} {f0 : List Int} {f1 : Int} {α : Type} {d : Kd α} {e : Nat} {base : Nat} {ok : Nat → Prop} {v : Value} {xs : List α} (h : IsS57 w0 W g f0 f1) (ho : d.S e W base ok v xs) (ht : e ≠ 57) : some g ≠ v.ownBlock := by
  obtain ⟨A0, c0, hb, hg, hr0⟩ := h
  exact Kd.S_ne ho hb ht
theorem IsS57.lt {w0 W : World} {g : Nat} {f0 : List Int} {f1 : Int} (h : IsS57 w0 W g f0 f1) : g < W.heap.size := by
  obtain ⟨A0, c0, hb, hg, hr0⟩ := h
  exact blk_lt hb
theorem IsS57.ge {w0 W : World} {g : Nat} {f0 : List Int} {f1 : Int} (h : IsS57 w0 W g f0 f1) : w0.heap.size ≤ g := by
  obtain ⟨A0, c0, hb, hg, hr0⟩ := h
  exact hg
theorem IsS57.ne_blk {w0 W : World} {g : Nat} {f0 : List Int} {f1 : Int} {a : Nat} {cs : Array Value} {t : TypeId} {fr : Nat × Nat} (h : IsS57 w0 W g f0 f1) (hb2 : W.heap[a]? = some (.cells cs t fr)) (ht : t ≠ 57) : g ≠ a := by
  obtain ⟨A0, c0, hb, hg, hr0⟩ := h
  rintro rfl
  rw [hb] at hb2
  injection hb2 with hb2
  injection hb2 with _ ht2
  exact ht ht2.symm
theorem IsS57.far {w0 W : World} {g : Nat} {f0 : List Int} {f1 : Int} {p : Addr} (h : IsS57 w0 W g f0 f1) (hne : g ≠ p.block) (u : Value) : IsS57 w0 (W.setCell p u) g f0 f1 := by
  obtain ⟨A0, c0, hb, hg, hr0⟩ := h
  exact ⟨A0, c0, blk_far hb hne u, hg, hr0⟩
theorem cellS57_0 {W : World} {g : Nat} {A0 : Option Addr} {c0 : Nat} {f0 : List Int} {f1 : Int} (h : W.heap[g]? = some (.cells #[.slice A0 f0.length c0, .int .i64 f1] 57 (0, 0))) : W.cell? ⟨g, 0, none⟩ = some (.slice A0 f0.length c0) := (blk_cell h 0).trans rfl
theorem cellS57_1 {W : World} {g : Nat} {A0 : Option Addr} {c0 : Nat} {f0 : List Int} {f1 : Int} (h : W.heap[g]? = some (.cells #[.slice A0 f0.length c0, .int .i64 f1] 57 (0, 0))) : W.cell? ⟨g, 1, none⟩ = some (.int .i64 f1) := (blk_cell h 1).trans rfl
theorem IsS57.set_1 {w0 W : World} {g : Nat} {f0 : List Int} {f1 : Int} (h : IsS57 w0 W g f0 f1) (x : Int) : IsS57 w0 (W.setCell ⟨g, 1, none⟩ (.int .i64 x)) g f0 x := by
  obtain ⟨A0, c0, hb, hg, hr0⟩ := h
  exact ⟨A0, c0, by simpa using blk_set hb 1 (.int .i64 x), hg, hr0⟩
theorem IsS57.new (w0 W : World) (A0 : Option Addr) (c0 : Nat) (f0 : List Int) (f1 : Int) (hB : Below w0.heap.size w0 W) (hr0 : Kd.C (Kd.int .i64) w0 A0 f0.length f0) : IsS57 w0 (W.alloc (.cells #[.slice A0 f0.length c0, .int .i64 f1] 57)) W.heap.size f0 f1 := ⟨A0, c0, by simpa using heap_alloc_new W _, hB.size, hr0⟩

/-! ### awardingbodymake_New: function 12 -/
def awardingbodymake_New.f (l0 : List Int) : Option (List Int × Int) := if (l0.length : Int) > 600 then (if 600 ≤ (l0.length : Int) then (some (l0.take 600, 0)) else (none)) else (some (l0, 0))
set_option maxHeartbeats 8000000 in
set_option maxRecDepth 100000 in
theorem awardingbodymake_New.calls (A0 : Option Addr) (c0 : Nat) (l0 : List Int) (r1 : List Int) (r2 : Int) (w0 w : World) (hB : Below w0.heap.size w0 w) (hr0 : Kd.C (Kd.int .i64) w0 A0 l0.length l0) (hc0 : l0.length ≤ c0) (h : awardingbodymake_New.f l0 = some (r1, r2)) :
    Calls Try.prog 12 #[.slice A0 l0.length c0] w fun e w' => ∃ g_ : Nat, e = .returned (.pointer (some ⟨g_, 0, none⟩)) ∧ IsS57 w0 w' g_ r1 r2 ∧ Below w0.heap.size w0 w' ∧ Below w.heap.size w w' := by
 have hu57 := Try.underlying57
 have HR0 := Aside0.mk hr0
 have HC0 := Aside0.mk hc0
 clear hr0 hc0
 have HBW := Aside0.mk (Below.refl w.heap.size w)
 have HW0 := Aside0.mk hB.size
 have HB := Aside0.mk hB
 clear hB
 have H : (if (l0.length : Int) > 600 then (if 600 ≤ (l0.length : Int) then (some (l0.take 600, 0)) else (none)) else (some (l0, 0))) = some (r1, r2) := h
 clear h
 by_cases c2 : (l0.length : Int) > 600
 ·rw [if_pos c2] at H
  have c2b0 : decide (600 < (l0.length : Int)) = true := decide_eq_true c2
  have c2b1 : decide (600 < l0.length) = true := decide_eq_true (by omega)
  clear c2
  by_cases c3 : 600 ≤ (l0.length : Int)
  ·rw [if_pos c3] at H
   have c3b0 := eq_true c3
   have c3b1 : decide (600 ≤ (l0.length : Int)) = true := decide_eq_true c3
   clear c3
   simp only [Option.some.injEq, Prod.mk.injEq] at H
   obtain ⟨rfl, rfl⟩ := H
   obtain ⟨i04, hi04, _, hsz4, _⟩ := info_parts info3
   obtain ⟨hcut4, hA4, hC4⟩ := print_take_of (P := Try.prog) (Value.int .i64) 0 22 3 .i64 Try.underlying22 hi04 hsz4 A0 c0 l0 600 (by omega) (of_decide_eq_true (by first | (with_reducible assumption) | assumption)) HC0.out
   have HR101 := Aside0.mk (Kd.C_of_reads (h1 := fun _ => rfl) (hA4 _ (Kd.reads_of_C HR0.out)))
   have HC101 := Aside0.mk hC4
   clear hA4 hC4 hi04 hsz4
   go_enter Try.func12, Try.ntmps12
   go_wp2_with (first | ((with_reducible refine gate_dst (N := 10) rfl ?_); refine box_event ?hg (N := 10) ?hd (cs := #[.slice A0 (l0.take 600).length c0, .int .i64 0]) (t := 57) ?hr ?_; (case hd => rfl); (case hg => rfl); (case hr => first | (go_simp; done) | (go_simp; rfl)); intro gb102 hg w5 hbox hb; have n0_ := Aside0.mk (below_step HBW.out hb); have n1_ := Aside0.mk (below_step (by repeat (first | (with_reducible first | exact HB.out | apply below_alloc | apply pw_below_drewN | apply below_drew1) | exact HB.out)) hb); have n2_ := Aside0.mk (hbox); have n3_ := Aside0.mk ((by rw [hg]; exact (below_size (by repeat (first | (with_reducible first | exact HBW.out | apply below_alloc | apply pw_below_drewN | apply below_drew1) | exact HBW.out))) : w.heap.size ≤ gb102)); have n4_ := Aside0.mk ((Nat.le_trans HW0.out (by rw [hg]; exact (below_size (by repeat (first | (with_reducible first | exact HBW.out | apply below_alloc | apply pw_below_drewN | apply below_drew1) | exact HBW.out))) : w.heap.size ≤ gb102) : w0.heap.size ≤ gb102)); clear HBW; clear HB; have HBW := n0_; have HB := n1_; have BK102 := n2_; have GW102 := n3_; have GE102 := n4_; clear n0_ n1_ n2_ n3_ n4_; clear hb hbox hg))
   go_ret
   exact ⟨_, rfl, (show IsS57 w0 _ gb102 (l0.take 600) 0 from ⟨_, _, by (with_reducible repeat (first | refine blk_drewN ?_ _ | refine blk_drew ?_ | refine blk_alloc ?_ _)); exact BK102.out, GE102.out, HR101.out⟩), by repeat (first | (with_reducible first | exact HB.out | apply below_alloc | apply pw_below_drewN | apply below_drew1 | refine below_set ?_ GE102.out) | exact HB.out), by repeat (first | (with_reducible first | exact HBW.out | apply below_alloc | apply pw_below_drewN | apply below_drew1 | refine below_set ?_ GW102.out) | exact HBW.out)⟩
  ·rw [if_neg c3] at H
   exact absurd H (by simp)
 ·rw [if_neg c2] at H
  have c2b0 : decide (600 < (l0.length : Int)) = false := decide_eq_false c2
  have c2b1 : decide (600 < l0.length) = false := decide_eq_false (by omega)
  clear c2
  simp only [Option.some.injEq, Prod.mk.injEq] at H
  obtain ⟨rfl, rfl⟩ := H
  go_enter Try.func12, Try.ntmps12
  go_wp2_with (first | ((with_reducible refine gate_dst (N := 10) rfl ?_); refine box_event ?hg (N := 10) ?hd (cs := #[.slice A0 l0.length c0, .int .i64 0]) (t := 57) ?hr ?_; (case hd => rfl); (case hg => rfl); (case hr => first | (go_simp; done) | (go_simp; rfl)); intro gb103 hg w6 hbox hb; have n0_ := Aside0.mk (below_step HBW.out hb); have n1_ := Aside0.mk (below_step (by repeat (first | (with_reducible first | exact HB.out | apply below_alloc | apply pw_below_drewN | apply below_drew1) | exact HB.out)) hb); have n2_ := Aside0.mk (hbox); have n3_ := Aside0.mk ((by rw [hg]; exact (below_size (by repeat (first | (with_reducible first | exact HBW.out | apply below_alloc | apply pw_below_drewN | apply below_drew1) | exact HBW.out))) : w.heap.size ≤ gb103)); have n4_ := Aside0.mk ((Nat.le_trans HW0.out (by rw [hg]; exact (below_size (by repeat (first | (with_reducible first | exact HBW.out | apply below_alloc | apply pw_below_drewN | apply below_drew1) | exact HBW.out))) : w.heap.size ≤ gb103) : w0.heap.size ≤ gb103)); clear HBW; clear HB; have HBW := n0_; have HB := n1_; have BK103 := n2_; have GW103 := n3_; have GE103 := n4_; clear n0_ n1_ n2_ n3_ n4_; clear hb hbox hg))
  go_ret
  exact ⟨_, rfl, (show IsS57 w0 _ gb103 l0 0 from ⟨_, _, by (with_reducible repeat (first | refine blk_drewN ?_ _ | refine blk_drew ?_ | refine blk_alloc ?_ _)); exact BK103.out, GE103.out, HR0.out⟩), by repeat (first | (with_reducible first | exact HB.out | apply below_alloc | apply pw_below_drewN | apply below_drew1 | refine below_set ?_ GE103.out) | exact HB.out), by repeat (first | (with_reducible first | exact HBW.out | apply below_alloc | apply pw_below_drewN | apply below_drew1 | refine below_set ?_ GW103.out) | exact HBW.out)⟩

/-! ### awardingbodymake_Cut: function 17 -/
def awardingbodymake_Cut.f (a0 : Int) (a1 : Int) : Option (Int) := if a1 < 1 then (some 0) else (if a1 = 0 then (none) else (if (Int.tmod a0 a1) < 0 then (some (wrap64 ((Int.tmod a0 a1) + a1))) else (some (Int.tmod a0 a1))))
set_option maxHeartbeats 8000000 in
set_option maxRecDepth 100000 in
theorem awardingbodymake_Cut.calls (a0 : Int) (a1 : Int) (r : Int) (w : World) (h : awardingbodymake_Cut.f a0 a1 = some r) :
    Calls Try.prog 17 #[.int .i64 a0, .int .i64 a1] w fun e w' => e = .returned (.int .i64 r) ∧ Drawn0 w w' := by
 have H : (if a1 < 1 then (some 0) else (if a1 = 0 then (none) else (if (Int.tmod a0 a1) < 0 then (some (wrap64 ((Int.tmod a0 a1) + a1))) else (some (Int.tmod a0 a1))))) = some r := h
 clear h
 by_cases c3 : a1 < 1
 ·rw [if_pos c3] at H
  have c3b0 : decide (a1 < 1) = true := decide_eq_true c3
  clear c3
  obtain rfl := Option.some.inj H
  go_enter Try.func17, Try.ntmps17
  go_wp2
  go_ret
  exact ⟨by first | rfl | (simp; done) | (simp [*]; done), by repeat (first | exact Drawn0.refl _ | apply Drawn0.step)⟩
 ·rw [if_neg c3] at H
  have c3b0 : decide (a1 < 1) = false := decide_eq_false c3
  clear c3
  by_cases c4 : a1 = 0
  ·rw [if_pos c4] at H
   exact absurd H (by simp)
  ·rw [if_neg c4] at H
   have c4b0 : (a1 == 0) = false := beq_eq_false_iff_ne.mpr c4
   have c4b1 : (a1 != 0) = true := bne_iff_ne.mpr c4
   by_cases c5 : (Int.tmod a0 a1) < 0
   ·rw [if_pos c5] at H
    have c5b0 : decide ((Int.tmod a0 a1) < 0) = true := decide_eq_true c5
    clear c5
    obtain rfl := Option.some.inj H
    go_enter Try.func17, Try.ntmps17
    go_wp2
    go_ret
    exact ⟨by first | rfl | (simp; done) | (simp [*]; done), by repeat (first | exact Drawn0.refl _ | apply Drawn0.step)⟩
   ·rw [if_neg c5] at H
    have c5b0 : decide ((Int.tmod a0 a1) < 0) = false := decide_eq_false c5
    clear c5
    obtain rfl := Option.some.inj H
    go_enter Try.func17, Try.ntmps17
    go_wp2
    go_ret
    exact ⟨by first | rfl | (simp; done) | (simp [*]; done), by repeat (first | exact Drawn0.refl _ | apply Drawn0.step)⟩

/-! ### awardingbodymake_Tape_Raw: function 45 -/
def awardingbodymake_Tape_Raw.f (s0_0 : List Int) (s0_1 : Int) : Option (Int × Int) := if s0_1 ≥ (s0_0.length : Int) then (some (0, s0_1)) else (if 0 ≤ (wrap64 ((wrap64 (s0_1 + 1)) - 1)) then (if (wrap64 ((wrap64 (s0_1 + 1)) - 1)) < (s0_0.length : Int) then (some (rd s0_0 (wrap64 ((wrap64 (s0_1 + 1)) - 1)), wrap64 (s0_1 + 1))) else (none)) else (none))
set_option maxHeartbeats 8000000 in
set_option maxRecDepth 100000 in
theorem awardingbodymake_Tape_Raw.calls (g : Nat) (s0_0 : List Int) (s0_1 : Int) (r1 : Int) (r2 : Int) (w0 w : World) (hI : IsS57 w0 w g s0_0 s0_1) (hB : Below w0.heap.size w0 w) (h : awardingbodymake_Tape_Raw.f s0_0 s0_1 = some (r1, r2)) :
    Calls Try.prog 45 #[.pointer (some ⟨g, 0, none⟩)] w fun e w' => e = .returned (.int .i64 r1) ∧ IsS57 w0 w' g s0_0 r2 ∧ Below w0.heap.size w0 w' ∧ KeepBut w w' g none := by
 have HI0 := Aside0.mk hI
 have HK := Aside0.mk (KeepBut.refl w g none)
 have HL := Aside0.mk hB.size
 clear hI
 have HW0 := Aside0.mk hB.size
 have HB := Aside0.mk hB
 clear hB
 have H : (if s0_1 ≥ (s0_0.length : Int) then (some (0, s0_1)) else (if 0 ≤ (wrap64 ((wrap64 (s0_1 + 1)) - 1)) then (if (wrap64 ((wrap64 (s0_1 + 1)) - 1)) < (s0_0.length : Int) then (some (rd s0_0 (wrap64 ((wrap64 (s0_1 + 1)) - 1)), wrap64 (s0_1 + 1))) else (none)) else (none))) = some (r1, r2) := h
 clear h
 by_cases c2 : s0_1 ≥ (s0_0.length : Int)
 ·rw [if_pos c2] at H
  have c2b0 : decide ((s0_0.length : Int) ≤ s0_1) = true := decide_eq_true c2
  clear c2
  simp only [Option.some.injEq, Prod.mk.injEq] at H
  obtain ⟨rfl, rfl⟩ := H
  obtain ⟨ASz3_0, cSz3_0, HGz3, hgz3, HSz3_0⟩ := HI0.out
  have hcz3_0 := cellS57_0 HGz3
  have hcz3_1 := cellS57_1 HGz3
  have hfz3_1 := blk_frozen HGz3 1
  clear HGz3 hgz3
  go_enter Try.func45, Try.ntmps45
  go_wp2
  repeat (go_quiet (fail); try go_wp2)
  go_ret
  exact ⟨by first | rfl | (simp [errW_none, errW_some] <;> rfl) | (simp [*, errW_none, errW_some] <;> rfl), by repeat (first | (with_reducible first | exact HI0.out | apply IsS57.alloc | apply IsS57.drewN | apply IsS57.drew | apply IsS57.set_1) | exact HI0.out), by repeat (first | (with_reducible first | exact HB.out | apply below_alloc | apply pw_below_drewN | apply below_drew1 | refine below_set ?_ (IsS57.ge HI0.out)) | exact HB.out), by repeat (first | (with_reducible first | exact HK.out | apply KeepBut.set_ | apply keep_drewN | apply keep_drew | apply keep_alloc) | exact HK.out)⟩
 ·rw [if_neg c2] at H
  have c2b0 : decide ((s0_0.length : Int) ≤ s0_1) = false := decide_eq_false c2
  clear c2
  obtain ⟨ji4, hji4⟩ : ∃ j_ : Int, (wrap64 ((wrap64 (s0_1 + 1)) - 1)) = j_ := ⟨_, rfl⟩
  replace H : (if 0 ≤ (ji4) then (if (ji4) < (s0_0.length : Int) then (some (rd s0_0 (ji4), wrap64 (s0_1 + 1))) else (none)) else (none)) = some (r1, r2) := by first | (rw [hji4] at H; exact H) | (simp only [hji4] at H ⊢; exact H)
  have hji4w : (IntKind.i64.wrap ((wrap64 (s0_1 + 1)) - 1)) = ji4 := (i64_w _).trans hji4
  by_cases c5 : 0 ≤ (ji4)
  ·rw [if_pos c5] at H
   have c5b0 : decide (0 ≤ (ji4)) = true := decide_eq_true c5
   clear c5
   by_cases c6 : (ji4) < (s0_0.length : Int)
   ·rw [if_pos c6] at H
    have c6b0 : decide ((ji4) < (s0_0.length : Int)) = true := decide_eq_true c6
    clear c6
    simp only [Option.some.injEq, Prod.mk.injEq] at H
    obtain ⟨rfl, rfl⟩ := H
    obtain ⟨ASz7_0, cSz7_0, HGz7, hgz7, HSz7_0⟩ := HI0.out
    have hcz7_0 := cellS57_0 HGz7
    have hcz7_1 := cellS57_1 HGz7
    have hfz7_1 := blk_frozen HGz7 1
    clear HGz7 hgz7
    have p104 : 0 ≤ ((ji4) : Int) := of_decide_eq_true (by first | (with_reducible assumption) | assumption)
    have q104 : (ji4) < (s0_0.length : Int) := of_decide_eq_true (by first | (with_reducible assumption) | assumption)
    obtain ⟨ad104, e104, hx104_0⟩ := Kd.at_int HSz7_0 (ji4) p104 q104
    cases e104
    have hn104_0 : ad104.block ≠ g := Nat.ne_of_lt (Nat.lt_of_lt_of_le (by have := World.block_lt_of_cell? _ _ hx104_0; first | rwa [add_block] at this | exact this) (IsS57.ge HI0.out))
    replace hx104_0 := pw_cell_below HB.out hx104_0
    replace hx104_0 := (cell_far (p := ⟨g, 1, none⟩) (by first | (rw [add_block]; exact hn104_0) | (show (Addr.add _ _).block ≠ _; rw [add_block]; exact hn104_0) | exact hn104_0) (.int .i64 (wrap64 (s0_1 + 1)))).trans hx104_0
    (try have hy104_0 := fun (n_ : Nat) => (show (((w.drewN n_).setCell ⟨g, 1, none⟩ (.int .i64 (wrap64 (s0_1 + 1))))).cell? _ = some _ from hx104_0))
    clear hn104_0
    replace p104 := eq_true p104
    replace q104 := eq_true q104
    go_enter Try.func45, Try.ntmps45
    go_wp2
    repeat (go_quiet (fail); try go_wp2)
    go_ret
    exact ⟨by first | rfl | (simp [errW_none, errW_some] <;> rfl) | (simp only [← hji4]; first | rfl | (simp [errW_none, errW_some] <;> rfl)) | (simp [*, errW_none, errW_some] <;> rfl), by repeat (first | (with_reducible first | exact HI0.out | apply IsS57.alloc | apply IsS57.drewN | apply IsS57.drew | apply IsS57.set_1) | exact HI0.out), by repeat (first | (with_reducible first | exact HB.out | apply below_alloc | apply pw_below_drewN | apply below_drew1 | refine below_set ?_ (IsS57.ge HI0.out)) | exact HB.out), by repeat (first | (with_reducible first | exact HK.out | apply KeepBut.set_ | apply keep_drewN | apply keep_drew | apply keep_alloc) | exact HK.out)⟩
   ·rw [if_neg c6] at H
    exact absurd H (by simp)
  ·rw [if_neg c5] at H
   exact absurd H (by simp)

/-! ### awardingbodymake_Tape_Next: function 35 -/
def awardingbodymake_Tape_Next.f (s0_0 : List Int) (s0_1 : Int) (a1 : Int) : Option (Int × Int) := (awardingbodymake_Tape_Raw.f s0_0 s0_1).bind fun bt105 => ((awardingbodymake_Cut.f bt105.1 a1).bind fun t107 => (some (t107, bt105.2)))
set_option maxHeartbeats 8000000 in
set_option maxRecDepth 100000 in
theorem awardingbodymake_Tape_Next.calls (g : Nat) (s0_0 : List Int) (s0_1 : Int) (a1 : Int) (r1 : Int) (r2 : Int) (w0 w : World) (hI : IsS57 w0 w g s0_0 s0_1) (hB : Below w0.heap.size w0 w) (h : awardingbodymake_Tape_Next.f s0_0 s0_1 a1 = some (r1, r2)) :
    Calls Try.prog 35 #[.pointer (some ⟨g, 0, none⟩), .int .i64 a1] w fun e w' => e = .returned (.int .i64 r1) ∧ IsS57 w0 w' g s0_0 r2 ∧ Below w0.heap.size w0 w' ∧ KeepBut w w' g none := by
 have HI0 := Aside0.mk hI
 have HK := Aside0.mk (KeepBut.refl w g none)
 have HL := Aside0.mk hB.size
 clear hI
 have HW0 := Aside0.mk hB.size
 have HB := Aside0.mk hB
 clear hB
 have H : ((awardingbodymake_Tape_Raw.f s0_0 s0_1).bind fun bt105 => ((awardingbodymake_Cut.f bt105.1 a1).bind fun t107 => (some (t107, bt105.2)))) = some (r1, r2) := h
 clear h
 replace H := Option.bind_eq_some_iff.mp H
 obtain ⟨⟨t105, t106⟩, A30, H⟩ := H
 replace H : ((awardingbodymake_Cut.f t105 a1).bind fun t107 => (some (t107, t106))) = some (r1, r2) := H
 have A3 := Aside0.mk A30
 clear A30
 replace H := Option.bind_eq_some_iff.mp H
 obtain ⟨t107, A40, H⟩ := H
 replace H : (some (t107, t106)) = some (r1, r2) := H
 have A4 := Aside0.mk A40
 clear A40
 simp only [Option.some.injEq, Prod.mk.injEq] at H
 obtain ⟨rfl, rfl⟩ := H
 go_enter Try.func35, Try.ntmps35
 go_wp2_with (first | ((with_reducible refine gate_callee (f := 45) rfl ?_); refine goesL_ (some 6) rfl rfl Try.func45 (by kernel_rfl) rfl #[.pointer (some ⟨g, 0, none⟩)] rfl (by (try simp only [List.map_toArray, List.map_cons, List.map_nil]); first | done | rfl | (simp only [List.length_drop, List.length_take]; rfl)) ?_; (with_reducible refine (awardingbodymake_Tape_Raw.calls g s0_0 s0_1 t105 t106 w0 _ ?side1 ?side2 A3.out).mono ?_); (case side1 => repeat (first | (with_reducible first | exact HI0.out | apply IsS57.alloc | apply IsS57.drewN | apply IsS57.drew | apply IsS57.set_1) | exact HI0.out)); (case side2 => repeat (first | (with_reducible first | exact HB.out | apply below_alloc | apply pw_below_drewN | apply below_drew1 | refine below_set ?_ (IsS57.ge HI0.out)) | exact HB.out)); rintro e w5 ⟨rfl, hi, hb, hk⟩; refine ⟨_, rfl, ?_⟩; have n0_ := Aside0.mk (KeepBut.trans (by repeat (first | (with_reducible first | exact HK.out | apply KeepBut.set_ | apply keep_drewN | apply keep_drew | apply keep_alloc) | exact HK.out)) hk (.inl rfl)); have n1_ := Aside0.mk (hb); have n2_ := Aside0.mk (hi); clear HK; clear HB; clear HI0; have HK := n0_; have HB := n1_; have HI0 := n2_; clear n0_ n1_ n2_; (try clear hb); (try clear hb2); (try clear hk); (try clear hi)) | ((with_reducible refine gate_callee (f := 17) rfl ?_); refine goesL_ (some 8) rfl rfl Try.func17 (by kernel_rfl) rfl #[.int .i64 t105, .int .i64 a1] rfl (by (try simp only [List.map_toArray, List.map_cons, List.map_nil]); first | done | rfl | (simp only [List.length_drop, List.length_take]; rfl)) ?_; (with_reducible refine (awardingbodymake_Cut.calls t105 a1 t107 _ A4.out).mono ?_); rintro e w' ⟨rfl, ⟨nd, rfl⟩⟩; refine ⟨_, rfl, ?_⟩))
 go_ret
 exact ⟨by first | rfl | (simp [errW_none, errW_some] <;> rfl) | (simp [*, errW_none, errW_some] <;> rfl), by repeat (first | (with_reducible first | exact HI0.out | apply IsS57.alloc | apply IsS57.drewN | apply IsS57.drew | apply IsS57.set_1) | exact HI0.out), by repeat (first | (with_reducible first | exact HB.out | apply below_alloc | apply pw_below_drewN | apply below_drew1 | refine below_set ?_ (IsS57.ge HI0.out)) | exact HB.out), by repeat (first | (with_reducible first | exact HK.out | apply KeepBut.set_ | apply keep_drewN | apply keep_drew | apply keep_alloc) | exact HK.out)⟩

/-! ### awardingbodymake_Tape_Range: function 24 -/
def awardingbodymake_Tape_Range.f (s0_0 : List Int) (s0_1 : Int) (a1 : Int) (a2 : Int) : Option (Int × Int) := (awardingbodymake_Tape_Next.f s0_0 s0_1 (wrap64 ((wrap64 (a2 - a1)) + 1))).bind fun bt108 => (some (wrap64 (a1 + bt108.1), bt108.2))
set_option maxHeartbeats 8000000 in
set_option maxRecDepth 100000 in
theorem awardingbodymake_Tape_Range.calls (g : Nat) (s0_0 : List Int) (s0_1 : Int) (a1 : Int) (a2 : Int) (r1 : Int) (r2 : Int) (w0 w : World) (hI : IsS57 w0 w g s0_0 s0_1) (hB : Below w0.heap.size w0 w) (h : awardingbodymake_Tape_Range.f s0_0 s0_1 a1 a2 = some (r1, r2)) :
    Calls Try.prog 24 #[.pointer (some ⟨g, 0, none⟩), .int .i64 a1, .int .i64 a2] w fun e w' => e = .returned (.int .i64 r1) ∧ IsS57 w0 w' g s0_0 r2 ∧ Below w0.heap.size w0 w' ∧ KeepBut w w' g none := by
 have HI0 := Aside0.mk hI
 have HK := Aside0.mk (KeepBut.refl w g none)
 have HL := Aside0.mk hB.size
 clear hI
 have HW0 := Aside0.mk hB.size
 have HB := Aside0.mk hB
 clear hB
 have H : ((awardingbodymake_Tape_Next.f s0_0 s0_1 (wrap64 ((wrap64 (a2 - a1)) + 1))).bind fun bt108 => (some (wrap64 (a1 + bt108.1), bt108.2))) = some (r1, r2) := h
 clear h
 replace H := Option.bind_eq_some_iff.mp H
 obtain ⟨⟨t108, t109⟩, A40, H⟩ := H
 replace H : (some (wrap64 (a1 + t108), t109)) = some (r1, r2) := H
 have A4 := Aside0.mk A40
 clear A40
 simp only [Option.some.injEq, Prod.mk.injEq] at H
 obtain ⟨rfl, rfl⟩ := H
 go_enter Try.func24, Try.ntmps24
 go_wp2_with (first | ((with_reducible refine gate_callee (f := 35) rfl ?_); refine goesL_ (some 13) rfl rfl Try.func35 (by kernel_rfl) rfl #[.pointer (some ⟨g, 0, none⟩), .int .i64 (wrap64 ((wrap64 (a2 - a1)) + 1))] rfl (by (try simp only [List.map_toArray, List.map_cons, List.map_nil]); first | done | rfl | (simp only [List.length_drop, List.length_take]; rfl)) ?_; (with_reducible refine (awardingbodymake_Tape_Next.calls g s0_0 s0_1 (wrap64 ((wrap64 (a2 - a1)) + 1)) t108 t109 w0 _ ?side1 ?side2 A4.out).mono ?_); (case side1 => repeat (first | (with_reducible first | exact HI0.out | apply IsS57.alloc | apply IsS57.drewN | apply IsS57.drew | apply IsS57.set_1) | exact HI0.out)); (case side2 => repeat (first | (with_reducible first | exact HB.out | apply below_alloc | apply pw_below_drewN | apply below_drew1 | refine below_set ?_ (IsS57.ge HI0.out)) | exact HB.out)); rintro e w5 ⟨rfl, hi, hb, hk⟩; refine ⟨_, rfl, ?_⟩; have n0_ := Aside0.mk (KeepBut.trans (by repeat (first | (with_reducible first | exact HK.out | apply KeepBut.set_ | apply keep_drewN | apply keep_drew | apply keep_alloc) | exact HK.out)) hk (.inl rfl)); have n1_ := Aside0.mk (hb); have n2_ := Aside0.mk (hi); clear HK; clear HB; clear HI0; have HK := n0_; have HB := n1_; have HI0 := n2_; clear n0_ n1_ n2_; (try clear hb); (try clear hb2); (try clear hk); (try clear hi)))
 go_ret
 exact ⟨by first | rfl | (simp [errW_none, errW_some] <;> rfl) | (simp [*, errW_none, errW_some] <;> rfl), by repeat (first | (with_reducible first | exact HI0.out | apply IsS57.alloc | apply IsS57.drewN | apply IsS57.drew | apply IsS57.set_1) | exact HI0.out), by repeat (first | (with_reducible first | exact HB.out | apply below_alloc | apply pw_below_drewN | apply below_drew1 | refine below_set ?_ (IsS57.ge HI0.out)) | exact HB.out), by repeat (first | (with_reducible first | exact HK.out | apply KeepBut.set_ | apply keep_drewN | apply keep_drew | apply keep_alloc) | exact HK.out)⟩

/-! ### awardingbodymake_Tape_Pick: function 36 -/
def awardingbodymake_Tape_Pick.f (s0_0 : List Int) (s0_1 : Int) (l1 : List Int) : Option (Int × Int) := (awardingbodymake_Tape_Next.f s0_0 s0_1 (l1.length : Int)).bind fun bt110 => (if 0 ≤ bt110.1 then (if bt110.1 < (l1.length : Int) then (some (rd l1 bt110.1, bt110.2)) else (none)) else (none))
set_option maxHeartbeats 8000000 in
set_option maxRecDepth 100000 in
theorem awardingbodymake_Tape_Pick.calls (g : Nat) (s0_0 : List Int) (s0_1 : Int) (A1 : Option Addr) (c1 : Nat) (l1 : List Int) (r1 : Int) (r2 : Int) (w0 w : World) (hI : IsS57 w0 w g s0_0 s0_1) (hB : Below w0.heap.size w0 w) (hr1 : Kd.C (Kd.int .i64) w A1 l1.length l1) (hc1 : l1.length ≤ c1) (hf1 : ∀ ad, A1 = some ad → 0 < l1.length → ad.block ≠ g) (h : awardingbodymake_Tape_Pick.f s0_0 s0_1 l1 = some (r1, r2)) :
    Calls Try.prog 36 #[.pointer (some ⟨g, 0, none⟩), .slice A1 l1.length c1] w fun e w' => e = .returned (.int .i64 r1) ∧ IsS57 w0 w' g s0_0 r2 ∧ Below w0.heap.size w0 w' ∧ KeepBut w w' g none := by
 have HR1 := Aside0.mk hr1
 have HC1 := Aside0.mk hc1
 clear hr1 hc1
 have HI0 := Aside0.mk hI
 have HK := Aside0.mk (KeepBut.refl w g none)
 have HL := Aside0.mk hB.size
 clear hI
 have HW0 := Aside0.mk hB.size
 have HB := Aside0.mk hB
 clear hB
 have H : ((awardingbodymake_Tape_Next.f s0_0 s0_1 (l1.length : Int)).bind fun bt110 => (if 0 ≤ bt110.1 then (if bt110.1 < (l1.length : Int) then (some (rd l1 bt110.1, bt110.2)) else (none)) else (none))) = some (r1, r2) := h
 clear h
 replace H := Option.bind_eq_some_iff.mp H
 obtain ⟨⟨t110, t111⟩, A30, H⟩ := H
 replace H : (if 0 ≤ t110 then (if t110 < (l1.length : Int) then (some (rd l1 t110, t111)) else (none)) else (none)) = some (r1, r2) := H
 have A3 := Aside0.mk A30
 clear A30
 by_cases c4 : 0 ≤ t110
 ·rw [if_pos c4] at H
  have c4b0 : decide (0 ≤ t110) = true := decide_eq_true c4
  clear c4
  by_cases c5 : t110 < (l1.length : Int)
  ·rw [if_pos c5] at H
   have c5b0 : decide (t110 < (l1.length : Int)) = true := decide_eq_true c5
   clear c5
   simp only [Option.some.injEq, Prod.mk.injEq] at H
   obtain ⟨rfl, rfl⟩ := H
   go_enter Try.func36, Try.ntmps36
   go_wp2_with (first | ((with_reducible refine gate_callee (f := 35) rfl ?_); refine goesL_ (some 9) rfl rfl Try.func35 (by kernel_rfl) rfl #[.pointer (some ⟨g, 0, none⟩), .int .i64 (l1.length : Int)] rfl (by (try simp only [List.map_toArray, List.map_cons, List.map_nil]); first | done | rfl | (simp only [List.length_drop, List.length_take]; rfl)) ?_; (with_reducible refine (awardingbodymake_Tape_Next.calls g s0_0 s0_1 (l1.length : Int) t110 t111 w0 _ ?side1 ?side2 A3.out).mono ?_); (case side1 => repeat (first | (with_reducible first | exact HI0.out | apply IsS57.alloc | apply IsS57.drewN | apply IsS57.drew | apply IsS57.set_1) | exact HI0.out)); (case side2 => repeat (first | (with_reducible first | exact HB.out | apply below_alloc | apply pw_below_drewN | apply below_drew1 | refine below_set ?_ (IsS57.ge HI0.out)) | exact HB.out)); rintro e w6 ⟨rfl, hi, hb, hk⟩; refine ⟨_, rfl, ?_⟩; have n0_ := Aside0.mk (KeepBut.trans (by repeat (first | (with_reducible first | exact HK.out | apply KeepBut.set_ | apply keep_drewN | apply keep_drew | apply keep_alloc) | exact HK.out)) hk (.inl rfl)); have n1_ := Aside0.mk (hb); have n2_ := Aside0.mk (hi); clear HK; clear HB; clear HI0; have HK := n0_; have HB := n1_; have HI0 := n2_; clear n0_ n1_ n2_; (try clear hb); (try clear hb2); (try clear hk); (try clear hi); have p112 : 0 ≤ (t110 : Int) := of_decide_eq_true (by first | (with_reducible assumption) | assumption); have q112 : t110 < (l1.length : Int) := of_decide_eq_true (by first | (with_reducible assumption) | assumption); obtain ⟨ad112, e112, hx112_0⟩ := Kd.at_int HR1.out t110 p112 q112; cases e112; replace hx112_0 := keep_cell HK.out hx112_0 (by first | (rw [add_block]; exact hf1 _ rfl (by omega)) | exact hf1 _ rfl (by omega) | exact hf1 ad112 rfl (by omega)); replace p112 := eq_true p112; replace q112 := eq_true q112))
   go_ret
   exact ⟨by first | rfl | (simp [errW_none, errW_some] <;> rfl) | (simp [*, errW_none, errW_some] <;> rfl), by repeat (first | (with_reducible first | exact HI0.out | apply IsS57.alloc | apply IsS57.drewN | apply IsS57.drew | apply IsS57.set_1) | exact HI0.out), by repeat (first | (with_reducible first | exact HB.out | apply below_alloc | apply pw_below_drewN | apply below_drew1 | refine below_set ?_ (IsS57.ge HI0.out)) | exact HB.out), by repeat (first | (with_reducible first | exact HK.out | apply KeepBut.set_ | apply keep_drewN | apply keep_drew | apply keep_alloc) | exact HK.out)⟩
  ·rw [if_neg c5] at H
   exact absurd H (by simp)
 ·rw [if_neg c4] at H
  exact absurd H (by simp)

/-! ### awardingbodymake_Tape_One: function 37 -/
def awardingbodymake_Tape_One.f (s0_0 : List Int) (s0_1 : Int) (a1 : Int) : Option (Bool × Int) := (awardingbodymake_Tape_Next.f s0_0 s0_1 a1).bind fun bt113 => (some ((bt113.1 == (wrap64 (a1 - 1))), bt113.2))
set_option maxHeartbeats 8000000 in
set_option maxRecDepth 100000 in
theorem awardingbodymake_Tape_One.calls (g : Nat) (s0_0 : List Int) (s0_1 : Int) (a1 : Int) (r1 : Bool) (r2 : Int) (w0 w : World) (hI : IsS57 w0 w g s0_0 s0_1) (hB : Below w0.heap.size w0 w) (h : awardingbodymake_Tape_One.f s0_0 s0_1 a1 = some (r1, r2)) :
    Calls Try.prog 37 #[.pointer (some ⟨g, 0, none⟩), .int .i64 a1] w fun e w' => e = .returned (.bool r1) ∧ IsS57 w0 w' g s0_0 r2 ∧ Below w0.heap.size w0 w' ∧ KeepBut w w' g none := by
 have HI0 := Aside0.mk hI
 have HK := Aside0.mk (KeepBut.refl w g none)
 have HL := Aside0.mk hB.size
 clear hI
 have HW0 := Aside0.mk hB.size
 have HB := Aside0.mk hB
 clear hB
 have H : ((awardingbodymake_Tape_Next.f s0_0 s0_1 a1).bind fun bt113 => (some ((bt113.1 == (wrap64 (a1 - 1))), bt113.2))) = some (r1, r2) := h
 clear h
 replace H := Option.bind_eq_some_iff.mp H
 obtain ⟨⟨t113, t114⟩, A30, H⟩ := H
 replace H : (some ((t113 == (wrap64 (a1 - 1))), t114)) = some (r1, r2) := H
 have A3 := Aside0.mk A30
 clear A30
 simp only [Option.some.injEq, Prod.mk.injEq] at H
 obtain ⟨rfl, rfl⟩ := H
 go_enter Try.func37, Try.ntmps37
 go_wp2_with (first | ((with_reducible refine gate_callee (f := 35) rfl ?_); refine goesL_ (some 7) rfl rfl Try.func35 (by kernel_rfl) rfl #[.pointer (some ⟨g, 0, none⟩), .int .i64 a1] rfl (by (try simp only [List.map_toArray, List.map_cons, List.map_nil]); first | done | rfl | (simp only [List.length_drop, List.length_take]; rfl)) ?_; (with_reducible refine (awardingbodymake_Tape_Next.calls g s0_0 s0_1 a1 t113 t114 w0 _ ?side1 ?side2 A3.out).mono ?_); (case side1 => repeat (first | (with_reducible first | exact HI0.out | apply IsS57.alloc | apply IsS57.drewN | apply IsS57.drew | apply IsS57.set_1) | exact HI0.out)); (case side2 => repeat (first | (with_reducible first | exact HB.out | apply below_alloc | apply pw_below_drewN | apply below_drew1 | refine below_set ?_ (IsS57.ge HI0.out)) | exact HB.out)); rintro e w4 ⟨rfl, hi, hb, hk⟩; refine ⟨_, rfl, ?_⟩; have n0_ := Aside0.mk (KeepBut.trans (by repeat (first | (with_reducible first | exact HK.out | apply KeepBut.set_ | apply keep_drewN | apply keep_drew | apply keep_alloc) | exact HK.out)) hk (.inl rfl)); have n1_ := Aside0.mk (hb); have n2_ := Aside0.mk (hi); clear HK; clear HB; clear HI0; have HK := n0_; have HB := n1_; have HI0 := n2_; clear n0_ n1_ n2_; (try clear hb); (try clear hb2); (try clear hk); (try clear hi)))
 go_ret
 exact ⟨by first | rfl | (simp [errW_none, errW_some] <;> rfl) | (simp [*, errW_none, errW_some] <;> rfl), by repeat (first | (with_reducible first | exact HI0.out | apply IsS57.alloc | apply IsS57.drewN | apply IsS57.drew | apply IsS57.set_1) | exact HI0.out), by repeat (first | (with_reducible first | exact HB.out | apply below_alloc | apply pw_below_drewN | apply below_drew1 | refine below_set ?_ (IsS57.ge HI0.out)) | exact HB.out), by repeat (first | (with_reducible first | exact HK.out | apply KeepBut.set_ | apply keep_drewN | apply keep_drew | apply keep_alloc) | exact HK.out)⟩

/-! ### awardingbodymake_Tape_Rules: function 13 -/
mutual
def awardingbodymake_Tape_Rules.l0 : Nat → Int → List (S28) → Int → List Int → Int → Option ((List (S28)) × Int)
  | 0, _, _, _, _, _ => none
  | k + 1, x1, x5, x6, x1000, x1001 => if x6 > 0 then ((awardingbodymake_Tape_Range.f x1000 x1001 1 3).bind fun bt117 => ((awardingbodymake_Tape_Range.f x1000 bt117.2 1 9).bind fun bt119 => ((awardingbodymake_Tape_Pick.f x1000 bt119.2 (([0, 10, 25, 26, 50, 100] : List Int))).bind fun bt124 => ((awardingbodymake_Tape_Pick.f x1000 bt124.2 (([0, 2, 4, 8, 16, 32, 6, 63] : List Int))).bind fun bt129 => (if x5.length < 4398046511104 then (awardingbodymake_Tape_Rules.l0 k x1 (x5 ++ [(⟨bt117.1, bt119.1, bt124.1, bt129.1⟩ : S28)]) (wrap64 (x6 - 1)) x1000 bt129.2) else (none)))))) else (if x1 > 0 then ((awardingbodymake_Tape_One.f x1000 x1001 x1).bind fun bt134 => (awardingbodymake_Tape_Rules.j1 k x5 bt134.1 x1000 bt134.2)) else (awardingbodymake_Tape_Rules.j1 k x5 false x1000 x1001))
def awardingbodymake_Tape_Rules.j1 : Nat → List (S28) → Bool → List Int → Int → Option ((List (S28)) × Int)
  | 0, _, _, _, _ => none
  | k + 1, x5, x33, x1000, x1001 => if x33 = true then ((awardingbodymake_Tape_Pick.f x1000 x1001 (([0, 1, 9, 10] : List Int))).bind fun bt139 => ((awardingbodymake_Tape_Pick.f x1000 bt139.2 (([0, 1, 9, 10] : List Int))).bind fun bt144 => ((awardingbodymake_Tape_Pick.f x1000 bt144.2 (([(-1), 0, 100, 101] : List Int))).bind fun bt149 => ((awardingbodymake_Tape_Pick.f x1000 bt149.2 (([(-1), 0, 63, 64] : List Int))).bind fun bt154 => (if x5.length < 4398046511104 then (some ((x5 ++ [(⟨bt139.1, bt144.1, bt149.1, bt154.1⟩ : S28)]), bt154.2)) else (none)))))) else (some (x5, x1001))
end
def awardingbodymake_Tape_Rules.f (k : Nat) (s0_0 : List Int) (s0_1 : Int) (a1 : Int) : Option ((List (S28)) × Int) := (awardingbodymake_Tape_Next.f s0_0 s0_1 6).bind fun bt115 => (awardingbodymake_Tape_Rules.l0 k a1 ([] : List (S28)) bt115.1 s0_0 bt115.2)
theorem awardingbodymake_Tape_Rules.mono_l : ∀ k, (∀ y0 y1 y2 y3 y4, LeO (awardingbodymake_Tape_Rules.l0 k y0 y1 y2 y3 y4) (awardingbodymake_Tape_Rules.l0 (k + 1) y0 y1 y2 y3 y4)) ∧ (∀ y0 y1 y2 y3, LeO (awardingbodymake_Tape_Rules.j1 k y0 y1 y2 y3) (awardingbodymake_Tape_Rules.j1 (k + 1) y0 y1 y2 y3))
  | 0 => ⟨fun _ _ _ _ _ r h => by simp [awardingbodymake_Tape_Rules.l0] at h, fun _ _ _ _ r h => by simp [awardingbodymake_Tape_Rules.j1] at h⟩
  | k + 1 => by
    obtain ⟨ih0, ih1⟩ := awardingbodymake_Tape_Rules.mono_l k
    refine ⟨?_, ?_⟩
    · intro y0 y1 y2 y3 y4
      unfold awardingbodymake_Tape_Rules.l0
      repeat' first
      | (with_reducible exact ih0 _ _ _ _ _)
      | (with_reducible exact ih1 _ _ _ _)
      | (with_reducible exact LeO.refl _)
      | (with_reducible exact LeO.none _)
      | (with_reducible refine LeO.ite ?_ ?_)
      | (with_reducible refine LeO.bind ?_ (fun _ => ?_))
      | exact ih0 _ _ _ _ _
      | exact ih1 _ _ _ _
      | exact LeO.none _
      | refine LeO.ite ?_ ?_
      | refine LeO.bind ?_ (fun _ => ?_)
    · intro y0 y1 y2 y3
      unfold awardingbodymake_Tape_Rules.j1
      repeat' first
      | (with_reducible exact ih0 _ _ _ _ _)
      | (with_reducible exact ih1 _ _ _ _)
      | (with_reducible exact LeO.refl _)
      | (with_reducible exact LeO.none _)
      | (with_reducible refine LeO.ite ?_ ?_)
      | (with_reducible refine LeO.bind ?_ (fun _ => ?_))
      | exact ih0 _ _ _ _ _
      | exact ih1 _ _ _ _
      | exact LeO.none _
      | refine LeO.ite ?_ ?_
      | refine LeO.bind ?_ (fun _ => ?_)
theorem awardingbodymake_Tape_Rules.mono : ∀ a0 a1 a2 k, LeO (awardingbodymake_Tape_Rules.f k a0 a1 a2) (awardingbodymake_Tape_Rules.f (k + 1) a0 a1 a2) := by
  intro a0 a1 a2 k
  obtain ⟨ih0, ih1⟩ := awardingbodymake_Tape_Rules.mono_l k
  unfold awardingbodymake_Tape_Rules.f
  repeat' first
      | (with_reducible exact ih0 _ _ _ _ _)
      | (with_reducible exact ih1 _ _ _ _)
      | (with_reducible exact LeO.refl _)
      | (with_reducible exact LeO.none _)
      | (with_reducible refine LeO.ite ?_ ?_)
      | (with_reducible refine LeO.bind ?_ (fun _ => ?_))
      | exact ih0 _ _ _ _ _
      | exact ih1 _ _ _ _
      | exact LeO.none _
      | refine LeO.ite ?_ ?_
      | refine LeO.bind ?_ (fun _ => ?_)
set_option maxHeartbeats 8000000 in
set_option maxRecDepth 100000 in
theorem awardingbodymake_Tape_Rules.calls (k : Nat) (g : Nat) (s0_0 : List Int) (s0_1 : Int) (a1 : Int) (r1 : List (S28)) (r2 : Int) (w0 w : World) (hI : IsS57 w0 w g s0_0 s0_1) (hB : Below w0.heap.size w0 w) (h : awardingbodymake_Tape_Rules.f k s0_0 s0_1 a1 = some (r1, r2)) :
    Calls Try.prog 13 #[.pointer (some ⟨g, 0, none⟩), .int .i64 a1] w fun e w' => ∃ v0_ : Value, e = .returned (v0_) ∧ Kd.R k28 28 w' w.heap.size (fun _ => True) v0_ r1 ∧ IsS57 w0 w' g s0_0 r2 ∧ Below w0.heap.size w0 w' ∧ KeepBut w w' g none := by
 have hu28 := Try.underlying28
 have HI0 := Aside0.mk hI
 have HK := Aside0.mk (KeepBut.refl w g none)
 have HL := Aside0.mk hB.size
 clear hI
 have HW0 := Aside0.mk hB.size
 have HB := Aside0.mk hB
 clear hB
 have H : ((awardingbodymake_Tape_Next.f s0_0 s0_1 6).bind fun bt115 => (awardingbodymake_Tape_Rules.l0 k a1 ([] : List (S28)) bt115.1 s0_0 bt115.2)) = some (r1, r2) := h
 clear h
 replace H := Option.bind_eq_some_iff.mp H
 obtain ⟨⟨t115, t116⟩, A30, H⟩ := H
 replace H : (awardingbodymake_Tape_Rules.l0 k a1 ([] : List (S28)) t115 s0_0 t116) = some (r1, r2) := H
 have A3 := Aside0.mk A30
 clear A30
 have H' := Aside0.mk H
 clear H
 go_enter Try.func13, Try.ntmps13
 go_wp2_with (first | ((with_reducible refine gate_callee (f := 35) rfl ?_); refine goesL_ (some 8) rfl rfl Try.func35 (by kernel_rfl) rfl #[.pointer (some ⟨g, 0, none⟩), .int .i64 6] rfl (by (try simp only [List.map_toArray, List.map_cons, List.map_nil]); first | done | rfl | (simp only [List.length_drop, List.length_take]; rfl)) ?_; (with_reducible refine (awardingbodymake_Tape_Next.calls g s0_0 s0_1 6 t115 t116 w0 _ ?side1 ?side2 A3.out).mono ?_); (case side1 => repeat (first | (with_reducible first | exact HI0.out | apply IsS57.alloc | apply IsS57.drewN | apply IsS57.drew | apply IsS57.set_1) | exact HI0.out)); (case side2 => repeat (first | (with_reducible first | exact HB.out | apply below_alloc | apply pw_below_drewN | apply below_drew1 | refine below_set ?_ (IsS57.ge HI0.out)) | exact HB.out)); rintro e w4 ⟨rfl, hi, hb, hk⟩; refine ⟨_, rfl, ?_⟩; have n0_ := Aside0.mk (KeepBut.trans (by repeat (first | (with_reducible first | exact HK.out | apply KeepBut.set_ | apply keep_drewN | apply keep_drew | apply keep_alloc) | exact HK.out)) hk (.inl rfl)); have n1_ := Aside0.mk (hb); have n2_ := Aside0.mk (hi); clear HK; clear HB; clear HI0; have HK := n0_; have HB := n1_; have HI0 := n2_; clear n0_ n1_ n2_; (try clear hb); (try clear hb2); (try clear hk); (try clear hi)))
 go_loopg [5, 6] k (fun kq v5 v6 w' => ∃ (x5_1 : List (S28)) (x6_1 : Int) (x1001_1 : Int), v6 = .int .i64 x6_1 ∧ Aside0 (awardingbodymake_Tape_Rules.l0 kq a1 x5_1 x6_1 s0_0 x1001_1 = some (r1, r2)) ∧ Aside0 (kq ≤ k) ∧ Aside0 (Kd.R k28 28 w' w.heap.size (fun _ => True) v5 x5_1) ∧ Aside0 (IsS57 w0 w' g s0_0 x1001_1) ∧ Aside0 (KeepBut w w' g none) ∧ Aside0 (Below w0.heap.size w0 w'))
 case atStart => exact ⟨(([] : List (S28))), (t115), (t116), (by first | rfl | (simp; done) | (simp [*]; done)), H', ⟨Nat.le_refl _⟩, ⟨by first | exact Kd.R_nil _ _ _ _ _ | exact Kd.N_nil _ _ _ _ _ | exact Kd.V_nil _ _ _ _ _ | exact Kd.Q_nil _ _ _ _ _ | exact Kd.S_nil _ _ _ _ _⟩, ⟨by repeat (first | (with_reducible first | exact HI0.out | apply IsS57.alloc | apply IsS57.drewN | apply IsS57.drew | apply IsS57.set_1) | exact HI0.out)⟩, ⟨by repeat (first | (with_reducible first | exact HK.out | apply KeepBut.set_ | apply keep_drewN | apply keep_drew | apply keep_alloc) | exact HK.out)⟩, ⟨by repeat (first | (with_reducible first | exact HB.out | apply below_alloc | apply pw_below_drewN | apply below_drew1 | refine below_set ?_ (IsS57.ge HI0.out)) | exact HB.out)⟩⟩
 case round =>
  clear H'
  try clear c1
  try clear p2
  try clear c3
  obtain ⟨x5_1, x6_1, x1001_1, rfl, HA, HK1, HO_5, HI0, HK, HB⟩ := hrel
  cases gk with
  | zero => exact absurd HA.out (by simp [awardingbodymake_Tape_Rules.l0])
  | succ k1 =>
   have H := HA.out
   clear HA
   simp only [awardingbodymake_Tape_Rules.l0] at H
   by_cases c5 : x6_1 > 0
   ·rw [if_pos c5] at H
    have c5b0 : decide (0 < x6_1) = true := decide_eq_true c5
    clear c5
    replace H := Option.bind_eq_some_iff.mp H
    obtain ⟨⟨t117, t118⟩, A60, H⟩ := H
    replace H : ((awardingbodymake_Tape_Range.f s0_0 t118 1 9).bind fun bt119 => ((awardingbodymake_Tape_Pick.f s0_0 bt119.2 (([0, 10, 25, 26, 50, 100] : List Int))).bind fun bt124 => ((awardingbodymake_Tape_Pick.f s0_0 bt124.2 (([0, 2, 4, 8, 16, 32, 6, 63] : List Int))).bind fun bt129 => (if x5_1.length < 4398046511104 then (awardingbodymake_Tape_Rules.l0 k1 a1 (x5_1 ++ [(⟨t117, bt119.1, bt124.1, bt129.1⟩ : S28)]) (wrap64 (x6_1 - 1)) s0_0 bt129.2) else (none))))) = some (r1, r2) := H
    have A6 := Aside0.mk A60
    clear A60
    replace H := Option.bind_eq_some_iff.mp H
    obtain ⟨⟨t119, t120⟩, A70, H⟩ := H
    replace H : ((awardingbodymake_Tape_Pick.f s0_0 t120 (([0, 10, 25, 26, 50, 100] : List Int))).bind fun bt124 => ((awardingbodymake_Tape_Pick.f s0_0 bt124.2 (([0, 2, 4, 8, 16, 32, 6, 63] : List Int))).bind fun bt129 => (if x5_1.length < 4398046511104 then (awardingbodymake_Tape_Rules.l0 k1 a1 (x5_1 ++ [(⟨t117, t119, bt124.1, bt129.1⟩ : S28)]) (wrap64 (x6_1 - 1)) s0_0 bt129.2) else (none)))) = some (r1, r2) := H
    have A7 := Aside0.mk A70
    clear A70
    obtain ⟨y121, hy121⟩ : ∃ y_ : List Int, y_ = (([0, 10, 25, 26, 50, 100] : List Int)) := ⟨_, rfl⟩
    replace H : ((awardingbodymake_Tape_Pick.f s0_0 t120 y121).bind fun bt124 => ((awardingbodymake_Tape_Pick.f s0_0 bt124.2 (([0, 2, 4, 8, 16, 32, 6, 63] : List Int))).bind fun bt129 => (if x5_1.length < 4398046511104 then (awardingbodymake_Tape_Rules.l0 k1 a1 (x5_1 ++ [(⟨t117, t119, bt124.1, bt129.1⟩ : S28)]) (wrap64 (x6_1 - 1)) s0_0 bt129.2) else (none)))) = some (r1, r2) := by first | (rw [hy121]; with_reducible exact H) | (have H2_ := (Option.bind_some _ _).symm.trans H; rw [hy121]; with_reducible exact H2_) | (have H2_ := (Option.bind_some _ _).symm.trans H; with_reducible exact H2_) | with_reducible exact H | (rw [hy121]; exact H) | exact H
    have Ny121 := Aside0.mk hy121
    clear hy121
    replace H := Option.bind_eq_some_iff.mp H
    obtain ⟨⟨t124, t125⟩, A80, H⟩ := H
    replace H : ((awardingbodymake_Tape_Pick.f s0_0 t125 (([0, 2, 4, 8, 16, 32, 6, 63] : List Int))).bind fun bt129 => (if x5_1.length < 4398046511104 then (awardingbodymake_Tape_Rules.l0 k1 a1 (x5_1 ++ [(⟨t117, t119, t124, bt129.1⟩ : S28)]) (wrap64 (x6_1 - 1)) s0_0 bt129.2) else (none))) = some (r1, r2) := H
    have A8 := Aside0.mk A80
    clear A80
    obtain ⟨y126, hy126⟩ : ∃ y_ : List Int, y_ = (([0, 2, 4, 8, 16, 32, 6, 63] : List Int)) := ⟨_, rfl⟩
    replace H : ((awardingbodymake_Tape_Pick.f s0_0 t125 y126).bind fun bt129 => (if x5_1.length < 4398046511104 then (awardingbodymake_Tape_Rules.l0 k1 a1 (x5_1 ++ [(⟨t117, t119, t124, bt129.1⟩ : S28)]) (wrap64 (x6_1 - 1)) s0_0 bt129.2) else (none))) = some (r1, r2) := by first | (rw [hy126]; with_reducible exact H) | (have H2_ := (Option.bind_some _ _).symm.trans H; rw [hy126]; with_reducible exact H2_) | (have H2_ := (Option.bind_some _ _).symm.trans H; with_reducible exact H2_) | with_reducible exact H | (rw [hy126]; exact H) | exact H
    have Ny126 := Aside0.mk hy126
    clear hy126
    replace H := Option.bind_eq_some_iff.mp H
    obtain ⟨⟨t129, t130⟩, A90, H⟩ := H
    replace H : (if x5_1.length < 4398046511104 then (awardingbodymake_Tape_Rules.l0 k1 a1 (x5_1 ++ [(⟨t117, t119, t124, t129⟩ : S28)]) (wrap64 (x6_1 - 1)) s0_0 t130) else (none)) = some (r1, r2) := H
    have A9 := Aside0.mk A90
    clear A90
    by_cases c10 : x5_1.length < 4398046511104
    ·rw [if_pos c10] at H
     have LMc10 := Aside0.mk c10
     clear c10
     obtain ⟨y131, hy131⟩ : ∃ y_ : List (S28), y_ = (x5_1 ++ [(⟨t117, t119, t124, t129⟩ : S28)]) := ⟨_, rfl⟩
     replace H : (awardingbodymake_Tape_Rules.l0 k1 a1 y131 (wrap64 (x6_1 - 1)) s0_0 t130) = some (r1, r2) := by first | (rw [hy131]; with_reducible exact H) | (have H2_ := (Option.bind_some _ _).symm.trans H; rw [hy131]; with_reducible exact H2_) | (have H2_ := (Option.bind_some _ _).symm.trans H; with_reducible exact H2_) | with_reducible exact H | (rw [hy131]; exact H) | exact H
     have Ny131 := Aside0.mk hy131
     clear hy131
     have H' := Aside0.mk H
     clear H
     go_wp2_with (first | ((with_reducible refine gate_callee (f := 24) rfl ?_); refine goesL_ (some 15) rfl rfl Try.func24 (by kernel_rfl) rfl #[.pointer (some ⟨g, 0, none⟩), .int .i64 1, .int .i64 3] rfl (by (try simp only [List.map_toArray, List.map_cons, List.map_nil]); first | done | rfl | (simp only [List.length_drop, List.length_take]; rfl)) ?_; (with_reducible refine (awardingbodymake_Tape_Range.calls g s0_0 x1001_1 1 3 t117 t118 w0 _ ?side1 ?side2 A6.out).mono ?_); (case side1 => repeat (first | (with_reducible first | exact HI0.out | apply IsS57.alloc | apply IsS57.drewN | apply IsS57.drew | apply IsS57.set_1) | exact HI0.out)); (case side2 => repeat (first | (with_reducible first | exact HB.out | apply below_alloc | apply pw_below_drewN | apply below_drew1 | refine below_set ?_ (IsS57.ge HI0.out)) | exact HB.out)); rintro e w11 ⟨rfl, hi, hb, hk⟩; refine ⟨_, rfl, ?_⟩; have n0_ := Aside0.mk (Kd.R_mono (Kd.R_keep (IsS57.apart (show IsS57 w0 _ g s0_0 x1001_1 from by repeat (first | (with_reducible first | exact HI0.out | apply IsS57.alloc | apply IsS57.drewN | apply IsS57.drew | apply IsS57.set_1) | exact HI0.out)) (by (with_reducible repeat (first | apply Kd.R_alloc | apply Kd.R_drewN | apply Kd.R_drew)); exact HO_5.out) (by decide)) hk (fun _ h => h.2)) (fun _ h => h.1)); have n1_ := Aside0.mk (KeepBut.trans (by repeat (first | (with_reducible first | exact HK.out | apply KeepBut.set_ | apply keep_drewN | apply keep_drew | apply keep_alloc) | exact HK.out)) hk (.inl rfl)); have n2_ := Aside0.mk (hb); have n3_ := Aside0.mk (hi); clear HO_5; clear HK; clear HB; clear HI0; have HO_5 := n0_; have HK := n1_; have HB := n2_; have HI0 := n3_; clear n0_ n1_ n2_ n3_; (try clear hb); (try clear hb2); (try clear hk); (try clear hi)) | ((with_reducible refine gate_callee (f := 24) rfl ?_); refine goesL_ (some 17) rfl rfl Try.func24 (by kernel_rfl) rfl #[.pointer (some ⟨g, 0, none⟩), .int .i64 1, .int .i64 9] rfl (by (try simp only [List.map_toArray, List.map_cons, List.map_nil]); first | done | rfl | (simp only [List.length_drop, List.length_take]; rfl)) ?_; (with_reducible refine (awardingbodymake_Tape_Range.calls g s0_0 t118 1 9 t119 t120 w0 _ ?side1 ?side2 A7.out).mono ?_); (case side1 => repeat (first | (with_reducible first | exact HI0.out | apply IsS57.alloc | apply IsS57.drewN | apply IsS57.drew | apply IsS57.set_1) | exact HI0.out)); (case side2 => repeat (first | (with_reducible first | exact HB.out | apply below_alloc | apply pw_below_drewN | apply below_drew1 | refine below_set ?_ (IsS57.ge HI0.out)) | exact HB.out)); rintro e w12 ⟨rfl, hi, hb, hk⟩; refine ⟨_, rfl, ?_⟩; have n0_ := Aside0.mk (Kd.R_mono (Kd.R_keep (IsS57.apart (show IsS57 w0 _ g s0_0 t118 from by repeat (first | (with_reducible first | exact HI0.out | apply IsS57.alloc | apply IsS57.drewN | apply IsS57.drew | apply IsS57.set_1) | exact HI0.out)) (by (with_reducible repeat (first | apply Kd.R_alloc | apply Kd.R_drewN | apply Kd.R_drew)); exact HO_5.out) (by decide)) hk (fun _ h => h.2)) (fun _ h => h.1)); have n1_ := Aside0.mk (KeepBut.trans (by repeat (first | (with_reducible first | exact HK.out | apply KeepBut.set_ | apply keep_drewN | apply keep_drew | apply keep_alloc) | exact HK.out)) hk (.inl rfl)); have n2_ := Aside0.mk (hb); have n3_ := Aside0.mk (hi); clear HO_5; clear HK; clear HB; clear HI0; have HO_5 := n0_; have HK := n1_; have HB := n2_; have HI0 := n3_; clear n0_ n1_ n2_ n3_; (try clear hb); (try clear hb2); (try clear hk); (try clear hi)) | ((with_reducible refine gate_dst (N := 19) rfl ?_); refine Kd.R_lit (Kd.int .i64) _ 3 ?hg (N := 19) ?hd (xs := ([0, 10, 25, 26, 50, 100] : List Int)) (inner := [.int .i64 0, .int .i64 10, .int .i64 25, .int .i64 26, .int .i64 50, .int .i64 100]) (ok := fun _ => True) (okp := fun _ => True) ?hr ?hp (fun _ hk => hk) trivial (Below.refl _ _) (Nat.le_refl _) (by simp) ?_; (case hd => rfl); (case hg => rfl); (case hr => first | (go_simp; done) | (go_simp; rfl)); (case hp => exact (Reps.one (show Kd.M (Kd.int .i64) _ _ _ 0 [.int .i64 0] from rfl) (Reps.one (show Kd.M (Kd.int .i64) _ _ _ 10 [.int .i64 10] from rfl) (Reps.one (show Kd.M (Kd.int .i64) _ _ _ 25 [.int .i64 25] from rfl) (Reps.one (show Kd.M (Kd.int .i64) _ _ _ 26 [.int .i64 26] from rfl) (Reps.one (show Kd.M (Kd.int .i64) _ _ _ 50 [.int .i64 50] from rfl) (Reps.one (show Kd.M (Kd.int .i64) _ _ _ 100 [.int .i64 100] from rfl) (Reps.none _ _)))))))); intro v122 w13 ho14 hb hg_ hnew_; clear hg_ hnew_; (first | rw [← Ny121.out] at ho14 | (simp only [Int.reduceToNat] at ho14; rw [← Ny121.out] at ho14)); have n0_ := Aside0.mk (Kd.R_below (by (with_reducible repeat (first | apply Kd.R_alloc | apply Kd.R_drewN | apply Kd.R_drew)); exact HO_5.out) hb); have n1_ := Aside0.mk (Kd.R_lower ho14 (keep_size (w := w) (g := g) (row := none) (by repeat (first | (with_reducible first | exact HK.out | apply KeepBut.set_ | apply keep_drewN | apply keep_drew | apply keep_alloc) | exact HK.out)))); have n2_ := Aside0.mk (IsS57.below (by repeat (first | (with_reducible first | exact HI0.out | apply IsS57.alloc | apply IsS57.drewN | apply IsS57.drew | apply IsS57.set_1) | exact HI0.out)) hb); have n3_ := Aside0.mk (KeepBut.trans (by repeat (first | (with_reducible first | exact HK.out | apply KeepBut.set_ | apply keep_drewN | apply keep_drew | apply keep_alloc) | exact HK.out)) (KeepBut.of_below hb g none) (.inl rfl)); have n4_ := Aside0.mk (below_step (by repeat (first | (with_reducible first | exact HB.out | apply below_alloc | apply pw_below_drewN | apply below_drew1 | refine below_set ?_ (IsS57.ge HI0.out)) | exact HB.out)) hb); clear HO_5; clear HI0; clear HK; clear HB; have HO_5 := n0_; have HO123 := n1_; have HI0 := n2_; have HK := n3_; have HB := n4_; clear n0_ n1_ n2_ n3_ n4_; clear hb ho14; obtain ⟨Ao15, co15, eo15⟩ := Kd.R_slice HO123.out; subst eo15) | ((with_reducible refine gate_callee (f := 36) rfl ?_); refine goesL_ (some 20) rfl rfl Try.func36 (by kernel_rfl) rfl #[.pointer (some ⟨g, 0, none⟩), .slice Ao15 y121.length co15] rfl (by (try simp only [List.map_toArray, List.map_cons, List.map_nil]); first | done | rfl | (simp only [List.length_drop, List.length_take]; rfl)) ?_; (with_reducible refine (awardingbodymake_Tape_Pick.calls g s0_0 t120 _ _ y121 t124 t125 w0 _ ?side1 ?side2 ?side3 ?side4 ?side5 A8.out).mono ?_); (case side1 => repeat (first | (with_reducible first | exact HI0.out | apply IsS57.alloc | apply IsS57.drewN | apply IsS57.drew | apply IsS57.set_1) | exact HI0.out)); (case side2 => repeat (first | (with_reducible first | exact HB.out | apply below_alloc | apply pw_below_drewN | apply below_drew1 | refine below_set ?_ (IsS57.ge HI0.out)) | exact HB.out)); (case side3 => repeat (first | exact (Kd.R_reads' HO123.out).2.2 | (with_reducible refine Kd.C_alloc ?_ _) | (with_reducible refine Kd.C_drewN ?_ _) | (with_reducible refine Kd.C_drew ?_))); (case side4 => exact (Kd.R_reads' HO123.out).2.1); (case side5 => exact far_slice (IsS57.own_ne HI0.out HO123.out (by decide))); rintro e w16 ⟨rfl, hi, hb, hk⟩; refine ⟨_, rfl, ?_⟩; have n0_ := Aside0.mk (Kd.R_mono (Kd.R_keep (IsS57.apart (show IsS57 w0 _ g s0_0 t120 from by repeat (first | (with_reducible first | exact HI0.out | apply IsS57.alloc | apply IsS57.drewN | apply IsS57.drew | apply IsS57.set_1) | exact HI0.out)) (by (with_reducible repeat (first | apply Kd.R_alloc | apply Kd.R_drewN | apply Kd.R_drew)); exact HO_5.out) (by decide)) hk (fun _ h => h.2)) (fun _ h => h.1)); have n1_ := Aside0.mk (Kd.R_mono (Kd.R_keep (IsS57.apart (show IsS57 w0 _ g s0_0 t120 from by repeat (first | (with_reducible first | exact HI0.out | apply IsS57.alloc | apply IsS57.drewN | apply IsS57.drew | apply IsS57.set_1) | exact HI0.out)) (by (with_reducible repeat (first | apply Kd.R_alloc | apply Kd.R_drewN | apply Kd.R_drew)); exact HO123.out) (by decide)) hk (fun _ h => h.2)) (fun _ h => h.1)); have n2_ := Aside0.mk (KeepBut.trans (by repeat (first | (with_reducible first | exact HK.out | apply KeepBut.set_ | apply keep_drewN | apply keep_drew | apply keep_alloc) | exact HK.out)) hk (.inl rfl)); have n3_ := Aside0.mk (hb); have n4_ := Aside0.mk (hi); clear HO_5; clear HO123; clear HK; clear HB; clear HI0; have HO_5 := n0_; have HO123 := n1_; have HK := n2_; have HB := n3_; have HI0 := n4_; clear n0_ n1_ n2_ n3_ n4_; (try clear hb); (try clear hb2); (try clear hk); (try clear hi)) | ((with_reducible refine gate_dst (N := 22) rfl ?_); refine Kd.R_lit (Kd.int .i64) _ 3 ?hg (N := 22) ?hd (xs := ([0, 2, 4, 8, 16, 32, 6, 63] : List Int)) (inner := [.int .i64 0, .int .i64 2, .int .i64 4, .int .i64 8, .int .i64 16, .int .i64 32, .int .i64 6, .int .i64 63]) (ok := fun _ => True) (okp := fun _ => True) ?hr ?hp (fun _ hk => hk) trivial (Below.refl _ _) (Nat.le_refl _) (by simp) ?_; (case hd => rfl); (case hg => rfl); (case hr => first | (go_simp; done) | (go_simp; rfl)); (case hp => exact (Reps.one (show Kd.M (Kd.int .i64) _ _ _ 0 [.int .i64 0] from rfl) (Reps.one (show Kd.M (Kd.int .i64) _ _ _ 2 [.int .i64 2] from rfl) (Reps.one (show Kd.M (Kd.int .i64) _ _ _ 4 [.int .i64 4] from rfl) (Reps.one (show Kd.M (Kd.int .i64) _ _ _ 8 [.int .i64 8] from rfl) (Reps.one (show Kd.M (Kd.int .i64) _ _ _ 16 [.int .i64 16] from rfl) (Reps.one (show Kd.M (Kd.int .i64) _ _ _ 32 [.int .i64 32] from rfl) (Reps.one (show Kd.M (Kd.int .i64) _ _ _ 6 [.int .i64 6] from rfl) (Reps.one (show Kd.M (Kd.int .i64) _ _ _ 63 [.int .i64 63] from rfl) (Reps.none _ _)))))))))); intro v127 w17 ho18 hb hg_ hnew_; clear hg_ hnew_; (first | rw [← Ny126.out] at ho18 | (simp only [Int.reduceToNat] at ho18; rw [← Ny126.out] at ho18)); have n0_ := Aside0.mk (Kd.R_below (by (with_reducible repeat (first | apply Kd.R_alloc | apply Kd.R_drewN | apply Kd.R_drew)); exact HO_5.out) hb); have n1_ := Aside0.mk (Kd.R_elder' (by (with_reducible repeat (first | apply Kd.R_alloc | apply Kd.R_drewN | apply Kd.R_drew)); exact HO123.out) (Kd.R_base ho18) hb); have n2_ := Aside0.mk (Kd.R_lower (Kd.R_new' ho18 (Kd.R_lt (by (with_reducible repeat (first | apply Kd.R_alloc | apply Kd.R_drewN | apply Kd.R_drew)); exact HO123.out))) (keep_size (w := w) (g := g) (row := none) (by repeat (first | (with_reducible first | exact HK.out | apply KeepBut.set_ | apply keep_drewN | apply keep_drew | apply keep_alloc) | exact HK.out)))); have n3_ := Aside0.mk (IsS57.below (by repeat (first | (with_reducible first | exact HI0.out | apply IsS57.alloc | apply IsS57.drewN | apply IsS57.drew | apply IsS57.set_1) | exact HI0.out)) hb); have n4_ := Aside0.mk (KeepBut.trans (by repeat (first | (with_reducible first | exact HK.out | apply KeepBut.set_ | apply keep_drewN | apply keep_drew | apply keep_alloc) | exact HK.out)) (KeepBut.of_below hb g none) (.inl rfl)); have n5_ := Aside0.mk (below_step (by repeat (first | (with_reducible first | exact HB.out | apply below_alloc | apply pw_below_drewN | apply below_drew1 | refine below_set ?_ (IsS57.ge HI0.out)) | exact HB.out)) hb); clear HO_5; clear HO123; clear HI0; clear HK; clear HB; have HO_5 := n0_; have HO123 := n1_; have HO128 := n2_; have HI0 := n3_; have HK := n4_; have HB := n5_; clear n0_ n1_ n2_ n3_ n4_ n5_; clear hb ho18; obtain ⟨Ao19, co19, eo19⟩ := Kd.R_slice HO128.out; subst eo19) | ((with_reducible refine gate_callee (f := 36) rfl ?_); refine goesL_ (some 23) rfl rfl Try.func36 (by kernel_rfl) rfl #[.pointer (some ⟨g, 0, none⟩), .slice Ao19 y126.length co19] rfl (by (try simp only [List.map_toArray, List.map_cons, List.map_nil]); first | done | rfl | (simp only [List.length_drop, List.length_take]; rfl)) ?_; (with_reducible refine (awardingbodymake_Tape_Pick.calls g s0_0 t125 _ _ y126 t129 t130 w0 _ ?side1 ?side2 ?side3 ?side4 ?side5 A9.out).mono ?_); (case side1 => repeat (first | (with_reducible first | exact HI0.out | apply IsS57.alloc | apply IsS57.drewN | apply IsS57.drew | apply IsS57.set_1) | exact HI0.out)); (case side2 => repeat (first | (with_reducible first | exact HB.out | apply below_alloc | apply pw_below_drewN | apply below_drew1 | refine below_set ?_ (IsS57.ge HI0.out)) | exact HB.out)); (case side3 => repeat (first | exact (Kd.R_reads' HO128.out).2.2 | (with_reducible refine Kd.C_alloc ?_ _) | (with_reducible refine Kd.C_drewN ?_ _) | (with_reducible refine Kd.C_drew ?_))); (case side4 => exact (Kd.R_reads' HO128.out).2.1); (case side5 => exact far_slice (IsS57.own_ne HI0.out HO128.out (by decide))); rintro e w20 ⟨rfl, hi, hb, hk⟩; refine ⟨_, rfl, ?_⟩; have n0_ := Aside0.mk (Kd.R_mono (Kd.R_keep (IsS57.apart (show IsS57 w0 _ g s0_0 t125 from by repeat (first | (with_reducible first | exact HI0.out | apply IsS57.alloc | apply IsS57.drewN | apply IsS57.drew | apply IsS57.set_1) | exact HI0.out)) (by (with_reducible repeat (first | apply Kd.R_alloc | apply Kd.R_drewN | apply Kd.R_drew)); exact HO_5.out) (by decide)) hk (fun _ h => h.2)) (fun _ h => h.1)); have n1_ := Aside0.mk (Kd.R_mono (Kd.R_keep (IsS57.apart (show IsS57 w0 _ g s0_0 t125 from by repeat (first | (with_reducible first | exact HI0.out | apply IsS57.alloc | apply IsS57.drewN | apply IsS57.drew | apply IsS57.set_1) | exact HI0.out)) (by (with_reducible repeat (first | apply Kd.R_alloc | apply Kd.R_drewN | apply Kd.R_drew)); exact HO123.out) (by decide)) hk (fun _ h => h.2)) (fun _ h => h.1)); have n2_ := Aside0.mk (Kd.R_mono (Kd.R_keep (IsS57.apart (show IsS57 w0 _ g s0_0 t125 from by repeat (first | (with_reducible first | exact HI0.out | apply IsS57.alloc | apply IsS57.drewN | apply IsS57.drew | apply IsS57.set_1) | exact HI0.out)) (by (with_reducible repeat (first | apply Kd.R_alloc | apply Kd.R_drewN | apply Kd.R_drew)); exact HO128.out) (by decide)) hk (fun _ h => h.2)) (fun _ h => h.1)); have n3_ := Aside0.mk (KeepBut.trans (by repeat (first | (with_reducible first | exact HK.out | apply KeepBut.set_ | apply keep_drewN | apply keep_drew | apply keep_alloc) | exact HK.out)) hk (.inl rfl)); have n4_ := Aside0.mk (hb); have n5_ := Aside0.mk (hi); clear HO_5; clear HO123; clear HO128; clear HK; clear HB; clear HI0; have HO_5 := n0_; have HO123 := n1_; have HO128 := n2_; have HK := n3_; have HB := n4_; have HI0 := n5_; clear n0_ n1_ n2_ n3_ n4_ n5_; (try clear hb); (try clear hb2); (try clear hk); (try clear hi)) | ((with_reducible refine gate_builtin (b := .append) (xs := #[.tmp 13, .tmp 25]) rfl ?_); at_builtin; refine Kd.R_append k28 w.heap.size rfl (.tmp 13) (.tmp 25) 23 28 (.agg #[(.int .i64 0), (.int .i64 0), (.int .i64 0), (.int .i64 0)]) 32 rfl Try.underlying23 info28 rfl (by decide) (by omega) u5 x5_1 (⟨t117, t119, t124, t129⟩ : S28) [.int .i64 t117, .int .i64 t119, .int .i64 t124, .int .i64 t129] (fun _ => True) (fun _ => False) rfl rfl ?aP (fun _ hk => hk.elim) ?aF ?aO (Below.refl _ _) ?aS ?aL ?_; (case aP => exact k28_mkM _ _ _ (⟨t117, t119, t124, t129⟩ : S28)); (case aF => exact (fun _ _ => trivial)); (case aO => exact (by (with_reducible repeat (first | apply Kd.R_alloc | apply Kd.R_drewN | apply Kd.R_drew)); exact HO_5.out)); (case aS => exact (keep_size (w := w) (g := g) (row := none) (by repeat (first | (with_reducible first | exact HK.out | apply KeepBut.set_ | apply keep_drewN | apply keep_drew | apply keep_alloc) | exact HK.out)))); (case aL => have := LMc10.out; omega); intro v132 w21 ho hb hg hat; rw [← Ny131.out] at ho; have n0_ := Aside0.mk (IsS57.grown (by repeat (first | (with_reducible first | exact HI0.out | apply IsS57.alloc | apply IsS57.drewN | apply IsS57.drew | apply IsS57.set_1) | exact HI0.out)) hg (IsS57.own_ne HI0.out HO_5.out (by decide))); have n1_ := Aside0.mk (Kd.R_over' (by (with_reducible repeat (first | apply Kd.R_alloc | apply Kd.R_drewN | apply Kd.R_drew)); exact HO123.out) (Kd.R_typed (by (with_reducible repeat (first | apply Kd.R_alloc | apply Kd.R_drewN | apply Kd.R_drew)); exact HO_5.out)) (by decide) hg); have n2_ := Aside0.mk (Kd.R_over' (by (with_reducible repeat (first | apply Kd.R_alloc | apply Kd.R_drewN | apply Kd.R_drew)); exact HO128.out) (Kd.R_typed (by (with_reducible repeat (first | apply Kd.R_alloc | apply Kd.R_drewN | apply Kd.R_drew)); exact HO_5.out)) (by decide) hg); have n3_ := Aside0.mk (below_weaken (by repeat (first | (with_reducible first | exact HB.out | apply below_alloc | apply pw_below_drewN | apply below_drew1 | refine below_set ?_ (IsS57.ge HI0.out)) | exact HB.out)) HL.out hb); have n4_ := Aside0.mk (KeepBut.trans (by repeat (first | (with_reducible first | exact HK.out | apply KeepBut.set_ | apply keep_drewN | apply keep_drew | apply keep_alloc) | exact HK.out)) (KeepBut.of_grown hg g) (Kd.R_base2 HO_5.out)); have n5_ := Aside0.mk (ho); clear HI0; clear HO123; clear HO128; clear HB; clear HK; clear HO_5; have HI0 := n0_; have HO123 := n1_; have HO128 := n2_; have HB := n3_; have HK := n4_; have HO133 := n5_; clear n0_ n1_ n2_ n3_ n4_ n5_; clear ho hb hg hat))
     go_roundg k1
     case measure => have := HK1.out; omega
     case rel => exact ⟨(y131), (wrap64 (x6_1 - 1)), (t130), (by first | rfl | (simp; done) | (simp [*]; done)), H', ⟨by have := HK1.out; omega⟩, ⟨by (with_reducible repeat (first | apply Kd.R_alloc | apply Kd.R_drewN | apply Kd.R_drew)); exact HO133.out⟩, ⟨by repeat (first | (with_reducible first | exact HI0.out | apply IsS57.alloc | apply IsS57.drewN | apply IsS57.drew | apply IsS57.set_1) | exact HI0.out)⟩, ⟨by repeat (first | (with_reducible first | exact HK.out | apply KeepBut.set_ | apply keep_drewN | apply keep_drew | apply keep_alloc) | exact HK.out)⟩, ⟨by repeat (first | (with_reducible first | exact HB.out | apply below_alloc | apply pw_below_drewN | apply below_drew1 | refine below_set ?_ (IsS57.ge HI0.out)) | exact HB.out)⟩⟩
    ·rw [if_neg c10] at H
     exact absurd H (by simp)
   ·rw [if_neg c5] at H
    have c5b0 : decide (0 < x6_1) = false := decide_eq_false c5
    clear c5
    have HC22 := Aside0.mk H
    clear H
    go_upto_region 6 with (fail)
    go_cut [33] (fun v33 wc => ∃ (kq : Nat) (x33_21 : Bool) (x1001_21 : Int), v33 = .bool x33_21 ∧ Aside0 (awardingbodymake_Tape_Rules.j1 kq x5_1 x33_21 s0_0 x1001_21 = some (r1, r2)) ∧ Aside0 (kq ≤ k1) ∧ Aside0 (Kd.R k28 28 wc w.heap.size (fun _ => True) u5 x5_1) ∧ Aside0 (IsS57 w0 wc g s0_0 x1001_21) ∧ Aside0 (KeepBut w wc g none) ∧ Aside0 (Below w0.heap.size w0 wc))
    case first =>
     have H := HC22.out
     clear HC22
     by_cases c23 : a1 > 0
     ·rw [if_pos c23] at H
      have c23b0 : decide (0 < a1) = true := decide_eq_true c23
      clear c23
      (first | rw [c23b0] | (simp only [i64_w, i32_w]; rw [c23b0]) | skip)
      replace H := Option.bind_eq_some_iff.mp H
      obtain ⟨⟨t134, t135⟩, A240, H⟩ := H
      replace H : (awardingbodymake_Tape_Rules.j1 k1 x5_1 t134 s0_0 t135) = some (r1, r2) := H
      have A24 := Aside0.mk A240
      clear A240
      have H' := Aside0.mk H
      clear H
      go_wp2_with (first | (go_at_call 37; (with_reducible refine (awardingbodymake_Tape_One.calls g s0_0 x1001_1 a1 t134 t135 w0 _ ?side1 ?side2 A24.out).mono ?_); (case side1 => repeat (first | (with_reducible first | exact HI0.out | apply IsS57.alloc | apply IsS57.drewN | apply IsS57.drew | apply IsS57.set_1) | exact HI0.out)); (case side2 => repeat (first | (with_reducible first | exact HB.out | apply below_alloc | apply pw_below_drewN | apply below_drew1 | refine below_set ?_ (IsS57.ge HI0.out)) | exact HB.out)); rintro e w25 ⟨rfl, hi, hb, hk⟩; have n0_ := Aside0.mk (Kd.R_mono (Kd.R_keep (IsS57.apart (show IsS57 w0 _ g s0_0 x1001_1 from by repeat (first | (with_reducible first | exact HI0.out | apply IsS57.alloc | apply IsS57.drewN | apply IsS57.drew | apply IsS57.set_1) | exact HI0.out)) (by (with_reducible repeat (first | apply Kd.R_alloc | apply Kd.R_drewN | apply Kd.R_drew)); exact HO_5.out) (by decide)) hk (fun _ h => h.2)) (fun _ h => h.1)); have n1_ := Aside0.mk (KeepBut.trans (by repeat (first | (with_reducible first | exact HK.out | apply KeepBut.set_ | apply keep_drewN | apply keep_drew | apply keep_alloc) | exact HK.out)) hk (.inl rfl)); have n2_ := Aside0.mk (hb); have n3_ := Aside0.mk (hi); clear HO_5; clear HK; clear HB; clear HI0; have HO_5 := n0_; have HK := n1_; have HB := n2_; have HI0 := n3_; clear n0_ n1_ n2_ n3_; (try clear hb); (try clear hb2); (try clear hk); (try clear hi)))
      go_meet
      case rel => exact ⟨_, (t134), (t135), (by first | rfl | (simp; done) | (simp [*]; done)), H', ⟨by have := HK1.out; first | omega | exact Nat.le_refl _⟩, ⟨by (with_reducible repeat (first | apply Kd.R_alloc | apply Kd.R_drewN | apply Kd.R_drew)); exact HO_5.out⟩, ⟨by repeat (first | (with_reducible first | exact HI0.out | apply IsS57.alloc | apply IsS57.drewN | apply IsS57.drew | apply IsS57.set_1) | exact HI0.out)⟩, ⟨by repeat (first | (with_reducible first | exact HK.out | apply KeepBut.set_ | apply keep_drewN | apply keep_drew | apply keep_alloc) | exact HK.out)⟩, ⟨by repeat (first | (with_reducible first | exact HB.out | apply below_alloc | apply pw_below_drewN | apply below_drew1 | refine below_set ?_ (IsS57.ge HI0.out)) | exact HB.out)⟩⟩
     ·rw [if_neg c23] at H
      have c23b0 : decide (0 < a1) = false := decide_eq_false c23
      clear c23
      (first | rw [c23b0] | (simp only [i64_w, i32_w]; rw [c23b0]) | skip)
      have H' := Aside0.mk H
      clear H
      go_wp2
      go_meet
      case rel => exact ⟨_, (false), (x1001_1), (by first | rfl | (simp; done) | (simp [*]; done)), H', ⟨by have := HK1.out; first | omega | exact Nat.le_refl _⟩, ⟨by (with_reducible repeat (first | apply Kd.R_alloc | apply Kd.R_drewN | apply Kd.R_drew)); exact HO_5.out⟩, ⟨by repeat (first | (with_reducible first | exact HI0.out | apply IsS57.alloc | apply IsS57.drewN | apply IsS57.drew | apply IsS57.set_1) | exact HI0.out)⟩, ⟨by repeat (first | (with_reducible first | exact HK.out | apply KeepBut.set_ | apply keep_drewN | apply keep_drew | apply keep_alloc) | exact HK.out)⟩, ⟨by repeat (first | (with_reducible first | exact HB.out | apply below_alloc | apply pw_below_drewN | apply below_drew1 | refine below_set ?_ (IsS57.ge HI0.out)) | exact HB.out)⟩⟩
    case rest =>
     clear HC22
     try clear c1
     try clear c2
     try clear p2
     try clear c3
     try clear c5
     try clear c5b0
     try clear p6
     try clear c10
     try clear c13
     try clear c23
     try clear c23b0
     try clear c24
     try clear p2
     obtain ⟨kq, x33_21, x1001_21, rfl, HA, HJ21, HO_5, HI0, HK, HB⟩ := hcut
     cases kq with
     | zero => exact absurd HA.out (by simp [awardingbodymake_Tape_Rules.j1])
     | succ kj21 =>
      have H := HA.out
      clear HA
      simp only [awardingbodymake_Tape_Rules.j1] at H
      by_cases c26 : x33_21 = true
      ·subst c26
       have H1 : ((awardingbodymake_Tape_Pick.f s0_0 x1001_21 (([0, 1, 9, 10] : List Int))).bind fun bt139 => ((awardingbodymake_Tape_Pick.f s0_0 bt139.2 (([0, 1, 9, 10] : List Int))).bind fun bt144 => ((awardingbodymake_Tape_Pick.f s0_0 bt144.2 (([(-1), 0, 100, 101] : List Int))).bind fun bt149 => ((awardingbodymake_Tape_Pick.f s0_0 bt149.2 (([(-1), 0, 63, 64] : List Int))).bind fun bt154 => (if x5_1.length < 4398046511104 then (some ((x5_1 ++ [(⟨bt139.1, bt144.1, bt149.1, bt154.1⟩ : S28)]), bt154.2)) else (none)))))) = some (r1, r2) := by rw [if_pos rfl] at H; exact H
       clear H
       have H := H1
       clear H1
       obtain ⟨y136, hy136⟩ : ∃ y_ : List Int, y_ = (([0, 1, 9, 10] : List Int)) := ⟨_, rfl⟩
       replace H : ((awardingbodymake_Tape_Pick.f s0_0 x1001_21 y136).bind fun bt139 => ((awardingbodymake_Tape_Pick.f s0_0 bt139.2 (([0, 1, 9, 10] : List Int))).bind fun bt144 => ((awardingbodymake_Tape_Pick.f s0_0 bt144.2 (([(-1), 0, 100, 101] : List Int))).bind fun bt149 => ((awardingbodymake_Tape_Pick.f s0_0 bt149.2 (([(-1), 0, 63, 64] : List Int))).bind fun bt154 => (if x5_1.length < 4398046511104 then (some ((x5_1 ++ [(⟨bt139.1, bt144.1, bt149.1, bt154.1⟩ : S28)]), bt154.2)) else (none)))))) = some (r1, r2) := by first | (rw [hy136]; with_reducible exact H) | (have H2_ := (Option.bind_some _ _).symm.trans H; rw [hy136]; with_reducible exact H2_) | (have H2_ := (Option.bind_some _ _).symm.trans H; with_reducible exact H2_) | with_reducible exact H | (rw [hy136]; exact H) | exact H
       have Ny136 := Aside0.mk hy136
       clear hy136
       replace H := Option.bind_eq_some_iff.mp H
       obtain ⟨⟨t139, t140⟩, A270, H⟩ := H
       replace H : ((awardingbodymake_Tape_Pick.f s0_0 t140 (([0, 1, 9, 10] : List Int))).bind fun bt144 => ((awardingbodymake_Tape_Pick.f s0_0 bt144.2 (([(-1), 0, 100, 101] : List Int))).bind fun bt149 => ((awardingbodymake_Tape_Pick.f s0_0 bt149.2 (([(-1), 0, 63, 64] : List Int))).bind fun bt154 => (if x5_1.length < 4398046511104 then (some ((x5_1 ++ [(⟨t139, bt144.1, bt149.1, bt154.1⟩ : S28)]), bt154.2)) else (none))))) = some (r1, r2) := H
       have A27 := Aside0.mk A270
       clear A270
       obtain ⟨y141, hy141⟩ : ∃ y_ : List Int, y_ = (([0, 1, 9, 10] : List Int)) := ⟨_, rfl⟩
       replace H : ((awardingbodymake_Tape_Pick.f s0_0 t140 y141).bind fun bt144 => ((awardingbodymake_Tape_Pick.f s0_0 bt144.2 (([(-1), 0, 100, 101] : List Int))).bind fun bt149 => ((awardingbodymake_Tape_Pick.f s0_0 bt149.2 (([(-1), 0, 63, 64] : List Int))).bind fun bt154 => (if x5_1.length < 4398046511104 then (some ((x5_1 ++ [(⟨t139, bt144.1, bt149.1, bt154.1⟩ : S28)]), bt154.2)) else (none))))) = some (r1, r2) := by first | (rw [hy141]; with_reducible exact H) | (have H2_ := (Option.bind_some _ _).symm.trans H; rw [hy141]; with_reducible exact H2_) | (have H2_ := (Option.bind_some _ _).symm.trans H; with_reducible exact H2_) | with_reducible exact H | (rw [hy141]; exact H) | exact H
       have Ny141 := Aside0.mk hy141
       clear hy141
       replace H := Option.bind_eq_some_iff.mp H
       obtain ⟨⟨t144, t145⟩, A280, H⟩ := H
       replace H : ((awardingbodymake_Tape_Pick.f s0_0 t145 (([(-1), 0, 100, 101] : List Int))).bind fun bt149 => ((awardingbodymake_Tape_Pick.f s0_0 bt149.2 (([(-1), 0, 63, 64] : List Int))).bind fun bt154 => (if x5_1.length < 4398046511104 then (some ((x5_1 ++ [(⟨t139, t144, bt149.1, bt154.1⟩ : S28)]), bt154.2)) else (none)))) = some (r1, r2) := H
       have A28 := Aside0.mk A280
       clear A280
       obtain ⟨y146, hy146⟩ : ∃ y_ : List Int, y_ = (([(-1), 0, 100, 101] : List Int)) := ⟨_, rfl⟩
       replace H : ((awardingbodymake_Tape_Pick.f s0_0 t145 y146).bind fun bt149 => ((awardingbodymake_Tape_Pick.f s0_0 bt149.2 (([(-1), 0, 63, 64] : List Int))).bind fun bt154 => (if x5_1.length < 4398046511104 then (some ((x5_1 ++ [(⟨t139, t144, bt149.1, bt154.1⟩ : S28)]), bt154.2)) else (none)))) = some (r1, r2) := by first | (rw [hy146]; with_reducible exact H) | (have H2_ := (Option.bind_some _ _).symm.trans H; rw [hy146]; with_reducible exact H2_) | (have H2_ := (Option.bind_some _ _).symm.trans H; with_reducible exact H2_) | with_reducible exact H | (rw [hy146]; exact H) | exact H
       have Ny146 := Aside0.mk hy146
       clear hy146
       replace H := Option.bind_eq_some_iff.mp H
       obtain ⟨⟨t149, t150⟩, A290, H⟩ := H
       replace H : ((awardingbodymake_Tape_Pick.f s0_0 t150 (([(-1), 0, 63, 64] : List Int))).bind fun bt154 => (if x5_1.length < 4398046511104 then (some ((x5_1 ++ [(⟨t139, t144, t149, bt154.1⟩ : S28)]), bt154.2)) else (none))) = some (r1, r2) := H
       have A29 := Aside0.mk A290
       clear A290
       obtain ⟨y151, hy151⟩ : ∃ y_ : List Int, y_ = (([(-1), 0, 63, 64] : List Int)) := ⟨_, rfl⟩
       replace H : ((awardingbodymake_Tape_Pick.f s0_0 t150 y151).bind fun bt154 => (if x5_1.length < 4398046511104 then (some ((x5_1 ++ [(⟨t139, t144, t149, bt154.1⟩ : S28)]), bt154.2)) else (none))) = some (r1, r2) := by first | (rw [hy151]; with_reducible exact H) | (have H2_ := (Option.bind_some _ _).symm.trans H; rw [hy151]; with_reducible exact H2_) | (have H2_ := (Option.bind_some _ _).symm.trans H; with_reducible exact H2_) | with_reducible exact H | (rw [hy151]; exact H) | exact H
       have Ny151 := Aside0.mk hy151
       clear hy151
       replace H := Option.bind_eq_some_iff.mp H
       obtain ⟨⟨t154, t155⟩, A300, H⟩ := H
       replace H : (if x5_1.length < 4398046511104 then (some ((x5_1 ++ [(⟨t139, t144, t149, t154⟩ : S28)]), t155)) else (none)) = some (r1, r2) := H
       have A30 := Aside0.mk A300
       clear A300
       by_cases c31 : x5_1.length < 4398046511104
       ·rw [if_pos c31] at H
        have LMc31 := Aside0.mk c31
        clear c31
        obtain ⟨y156, hy156⟩ : ∃ y_ : List (S28), y_ = (x5_1 ++ [(⟨t139, t144, t149, t154⟩ : S28)]) := ⟨_, rfl⟩
        replace H : (some (y156, t155)) = some (r1, r2) := by first | (rw [hy156]; with_reducible exact H) | (have H2_ := (Option.bind_some _ _).symm.trans H; rw [hy156]; with_reducible exact H2_) | (have H2_ := (Option.bind_some _ _).symm.trans H; with_reducible exact H2_) | with_reducible exact H | (rw [hy156]; exact H) | exact H
        have Ny156 := Aside0.mk hy156
        clear hy156
        simp only [Option.some.injEq, Prod.mk.injEq] at H
        obtain ⟨rfl, rfl⟩ := H
        go_wp2_with (first | ((with_reducible refine gate_dst (N := 36) rfl ?_); refine Kd.R_lit (Kd.int .i64) _ 3 ?hg (N := 36) ?hd (xs := ([0, 1, 9, 10] : List Int)) (inner := [.int .i64 0, .int .i64 1, .int .i64 9, .int .i64 10]) (ok := fun _ => True) (okp := fun _ => True) ?hr ?hp (fun _ hk => hk) trivial (Below.refl _ _) (Nat.le_refl _) (by simp) ?_; (case hd => rfl); (case hg => rfl); (case hr => first | (go_simp; done) | (go_simp; rfl)); (case hp => exact (Reps.one (show Kd.M (Kd.int .i64) _ _ _ 0 [.int .i64 0] from rfl) (Reps.one (show Kd.M (Kd.int .i64) _ _ _ 1 [.int .i64 1] from rfl) (Reps.one (show Kd.M (Kd.int .i64) _ _ _ 9 [.int .i64 9] from rfl) (Reps.one (show Kd.M (Kd.int .i64) _ _ _ 10 [.int .i64 10] from rfl) (Reps.none _ _)))))); intro v137 w32 ho33 hb hg_ hnew_; clear hg_ hnew_; (first | rw [← Ny136.out] at ho33 | (simp only [Int.reduceToNat] at ho33; rw [← Ny136.out] at ho33)); have n0_ := Aside0.mk (Kd.R_below (by (with_reducible repeat (first | apply Kd.R_alloc | apply Kd.R_drewN | apply Kd.R_drew)); exact HO_5.out) hb); have n1_ := Aside0.mk (Kd.R_lower ho33 (keep_size (w := w) (g := g) (row := none) (by repeat (first | (with_reducible first | exact HK.out | apply KeepBut.set_ | apply keep_drewN | apply keep_drew | apply keep_alloc) | exact HK.out)))); have n2_ := Aside0.mk (IsS57.below (by repeat (first | (with_reducible first | exact HI0.out | apply IsS57.alloc | apply IsS57.drewN | apply IsS57.drew | apply IsS57.set_1) | exact HI0.out)) hb); have n3_ := Aside0.mk (KeepBut.trans (by repeat (first | (with_reducible first | exact HK.out | apply KeepBut.set_ | apply keep_drewN | apply keep_drew | apply keep_alloc) | exact HK.out)) (KeepBut.of_below hb g none) (.inl rfl)); have n4_ := Aside0.mk (below_step (by repeat (first | (with_reducible first | exact HB.out | apply below_alloc | apply pw_below_drewN | apply below_drew1 | refine below_set ?_ (IsS57.ge HI0.out)) | exact HB.out)) hb); clear HO_5; clear HI0; clear HK; clear HB; have HO_5 := n0_; have HO138 := n1_; have HI0 := n2_; have HK := n3_; have HB := n4_; clear n0_ n1_ n2_ n3_ n4_; clear hb ho33; obtain ⟨Ao34, co34, eo34⟩ := Kd.R_slice HO138.out; subst eo34) | ((with_reducible refine gate_callee (f := 36) rfl ?_); refine goesL_ (some 37) rfl rfl Try.func36 (by kernel_rfl) rfl #[.pointer (some ⟨g, 0, none⟩), .slice Ao34 y136.length co34] rfl (by (try simp only [List.map_toArray, List.map_cons, List.map_nil]); first | done | rfl | (simp only [List.length_drop, List.length_take]; rfl)) ?_; (with_reducible refine (awardingbodymake_Tape_Pick.calls g s0_0 x1001_21 _ _ y136 t139 t140 w0 _ ?side1 ?side2 ?side3 ?side4 ?side5 A27.out).mono ?_); (case side1 => repeat (first | (with_reducible first | exact HI0.out | apply IsS57.alloc | apply IsS57.drewN | apply IsS57.drew | apply IsS57.set_1) | exact HI0.out)); (case side2 => repeat (first | (with_reducible first | exact HB.out | apply below_alloc | apply pw_below_drewN | apply below_drew1 | refine below_set ?_ (IsS57.ge HI0.out)) | exact HB.out)); (case side3 => repeat (first | exact (Kd.R_reads' HO138.out).2.2 | (with_reducible refine Kd.C_alloc ?_ _) | (with_reducible refine Kd.C_drewN ?_ _) | (with_reducible refine Kd.C_drew ?_))); (case side4 => exact (Kd.R_reads' HO138.out).2.1); (case side5 => exact far_slice (IsS57.own_ne HI0.out HO138.out (by decide))); rintro e w35 ⟨rfl, hi, hb, hk⟩; refine ⟨_, rfl, ?_⟩; have n0_ := Aside0.mk (Kd.R_mono (Kd.R_keep (IsS57.apart (show IsS57 w0 _ g s0_0 x1001_21 from by repeat (first | (with_reducible first | exact HI0.out | apply IsS57.alloc | apply IsS57.drewN | apply IsS57.drew | apply IsS57.set_1) | exact HI0.out)) (by (with_reducible repeat (first | apply Kd.R_alloc | apply Kd.R_drewN | apply Kd.R_drew)); exact HO_5.out) (by decide)) hk (fun _ h => h.2)) (fun _ h => h.1)); have n1_ := Aside0.mk (Kd.R_mono (Kd.R_keep (IsS57.apart (show IsS57 w0 _ g s0_0 x1001_21 from by repeat (first | (with_reducible first | exact HI0.out | apply IsS57.alloc | apply IsS57.drewN | apply IsS57.drew | apply IsS57.set_1) | exact HI0.out)) (by (with_reducible repeat (first | apply Kd.R_alloc | apply Kd.R_drewN | apply Kd.R_drew)); exact HO138.out) (by decide)) hk (fun _ h => h.2)) (fun _ h => h.1)); have n2_ := Aside0.mk (KeepBut.trans (by repeat (first | (with_reducible first | exact HK.out | apply KeepBut.set_ | apply keep_drewN | apply keep_drew | apply keep_alloc) | exact HK.out)) hk (.inl rfl)); have n3_ := Aside0.mk (hb); have n4_ := Aside0.mk (hi); clear HO_5; clear HO138; clear HK; clear HB; clear HI0; have HO_5 := n0_; have HO138 := n1_; have HK := n2_; have HB := n3_; have HI0 := n4_; clear n0_ n1_ n2_ n3_ n4_; (try clear hb); (try clear hb2); (try clear hk); (try clear hi)) | ((with_reducible refine gate_dst (N := 39) rfl ?_); refine Kd.R_lit (Kd.int .i64) _ 3 ?hg (N := 39) ?hd (xs := ([0, 1, 9, 10] : List Int)) (inner := [.int .i64 0, .int .i64 1, .int .i64 9, .int .i64 10]) (ok := fun _ => True) (okp := fun _ => True) ?hr ?hp (fun _ hk => hk) trivial (Below.refl _ _) (Nat.le_refl _) (by simp) ?_; (case hd => rfl); (case hg => rfl); (case hr => first | (go_simp; done) | (go_simp; rfl)); (case hp => exact (Reps.one (show Kd.M (Kd.int .i64) _ _ _ 0 [.int .i64 0] from rfl) (Reps.one (show Kd.M (Kd.int .i64) _ _ _ 1 [.int .i64 1] from rfl) (Reps.one (show Kd.M (Kd.int .i64) _ _ _ 9 [.int .i64 9] from rfl) (Reps.one (show Kd.M (Kd.int .i64) _ _ _ 10 [.int .i64 10] from rfl) (Reps.none _ _)))))); intro v142 w36 ho37 hb hg_ hnew_; clear hg_ hnew_; (first | rw [← Ny141.out] at ho37 | (simp only [Int.reduceToNat] at ho37; rw [← Ny141.out] at ho37)); have n0_ := Aside0.mk (Kd.R_below (by (with_reducible repeat (first | apply Kd.R_alloc | apply Kd.R_drewN | apply Kd.R_drew)); exact HO_5.out) hb); have n1_ := Aside0.mk (Kd.R_elder' (by (with_reducible repeat (first | apply Kd.R_alloc | apply Kd.R_drewN | apply Kd.R_drew)); exact HO138.out) (Kd.R_base ho37) hb); have n2_ := Aside0.mk (Kd.R_lower (Kd.R_new' ho37 (Kd.R_lt (by (with_reducible repeat (first | apply Kd.R_alloc | apply Kd.R_drewN | apply Kd.R_drew)); exact HO138.out))) (keep_size (w := w) (g := g) (row := none) (by repeat (first | (with_reducible first | exact HK.out | apply KeepBut.set_ | apply keep_drewN | apply keep_drew | apply keep_alloc) | exact HK.out)))); have n3_ := Aside0.mk (IsS57.below (by repeat (first | (with_reducible first | exact HI0.out | apply IsS57.alloc | apply IsS57.drewN | apply IsS57.drew | apply IsS57.set_1) | exact HI0.out)) hb); have n4_ := Aside0.mk (KeepBut.trans (by repeat (first | (with_reducible first | exact HK.out | apply KeepBut.set_ | apply keep_drewN | apply keep_drew | apply keep_alloc) | exact HK.out)) (KeepBut.of_below hb g none) (.inl rfl)); have n5_ := Aside0.mk (below_step (by repeat (first | (with_reducible first | exact HB.out | apply below_alloc | apply pw_below_drewN | apply below_drew1 | refine below_set ?_ (IsS57.ge HI0.out)) | exact HB.out)) hb); clear HO_5; clear HO138; clear HI0; clear HK; clear HB; have HO_5 := n0_; have HO138 := n1_; have HO143 := n2_; have HI0 := n3_; have HK := n4_; have HB := n5_; clear n0_ n1_ n2_ n3_ n4_ n5_; clear hb ho37; obtain ⟨Ao38, co38, eo38⟩ := Kd.R_slice HO143.out; subst eo38) | ((with_reducible refine gate_callee (f := 36) rfl ?_); refine goesL_ (some 40) rfl rfl Try.func36 (by kernel_rfl) rfl #[.pointer (some ⟨g, 0, none⟩), .slice Ao38 y141.length co38] rfl (by (try simp only [List.map_toArray, List.map_cons, List.map_nil]); first | done | rfl | (simp only [List.length_drop, List.length_take]; rfl)) ?_; (with_reducible refine (awardingbodymake_Tape_Pick.calls g s0_0 t140 _ _ y141 t144 t145 w0 _ ?side1 ?side2 ?side3 ?side4 ?side5 A28.out).mono ?_); (case side1 => repeat (first | (with_reducible first | exact HI0.out | apply IsS57.alloc | apply IsS57.drewN | apply IsS57.drew | apply IsS57.set_1) | exact HI0.out)); (case side2 => repeat (first | (with_reducible first | exact HB.out | apply below_alloc | apply pw_below_drewN | apply below_drew1 | refine below_set ?_ (IsS57.ge HI0.out)) | exact HB.out)); (case side3 => repeat (first | exact (Kd.R_reads' HO143.out).2.2 | (with_reducible refine Kd.C_alloc ?_ _) | (with_reducible refine Kd.C_drewN ?_ _) | (with_reducible refine Kd.C_drew ?_))); (case side4 => exact (Kd.R_reads' HO143.out).2.1); (case side5 => exact far_slice (IsS57.own_ne HI0.out HO143.out (by decide))); rintro e w39 ⟨rfl, hi, hb, hk⟩; refine ⟨_, rfl, ?_⟩; have n0_ := Aside0.mk (Kd.R_mono (Kd.R_keep (IsS57.apart (show IsS57 w0 _ g s0_0 t140 from by repeat (first | (with_reducible first | exact HI0.out | apply IsS57.alloc | apply IsS57.drewN | apply IsS57.drew | apply IsS57.set_1) | exact HI0.out)) (by (with_reducible repeat (first | apply Kd.R_alloc | apply Kd.R_drewN | apply Kd.R_drew)); exact HO_5.out) (by decide)) hk (fun _ h => h.2)) (fun _ h => h.1)); have n1_ := Aside0.mk (Kd.R_mono (Kd.R_keep (IsS57.apart (show IsS57 w0 _ g s0_0 t140 from by repeat (first | (with_reducible first | exact HI0.out | apply IsS57.alloc | apply IsS57.drewN | apply IsS57.drew | apply IsS57.set_1) | exact HI0.out)) (by (with_reducible repeat (first | apply Kd.R_alloc | apply Kd.R_drewN | apply Kd.R_drew)); exact HO138.out) (by decide)) hk (fun _ h => h.2)) (fun _ h => h.1)); have n2_ := Aside0.mk (Kd.R_mono (Kd.R_keep (IsS57.apart (show IsS57 w0 _ g s0_0 t140 from by repeat (first | (with_reducible first | exact HI0.out | apply IsS57.alloc | apply IsS57.drewN | apply IsS57.drew | apply IsS57.set_1) | exact HI0.out)) (by (with_reducible repeat (first | apply Kd.R_alloc | apply Kd.R_drewN | apply Kd.R_drew)); exact HO143.out) (by decide)) hk (fun _ h => h.2)) (fun _ h => h.1)); have n3_ := Aside0.mk (KeepBut.trans (by repeat (first | (with_reducible first | exact HK.out | apply KeepBut.set_ | apply keep_drewN | apply keep_drew | apply keep_alloc) | exact HK.out)) hk (.inl rfl)); have n4_ := Aside0.mk (hb); have n5_ := Aside0.mk (hi); clear HO_5; clear HO138; clear HO143; clear HK; clear HB; clear HI0; have HO_5 := n0_; have HO138 := n1_; have HO143 := n2_; have HK := n3_; have HB := n4_; have HI0 := n5_; clear n0_ n1_ n2_ n3_ n4_ n5_; (try clear hb); (try clear hb2); (try clear hk); (try clear hi)) | ((with_reducible refine gate_dst (N := 42) rfl ?_); refine Kd.R_lit (Kd.int .i64) _ 3 ?hg (N := 42) ?hd (xs := ([(-1), 0, 100, 101] : List Int)) (inner := [.int .i64 (-1), .int .i64 0, .int .i64 100, .int .i64 101]) (ok := fun _ => True) (okp := fun _ => True) ?hr ?hp (fun _ hk => hk) trivial (Below.refl _ _) (Nat.le_refl _) (by simp) ?_; (case hd => rfl); (case hg => rfl); (case hr => first | (go_simp; done) | (go_simp; rfl)); (case hp => exact (Reps.one (show Kd.M (Kd.int .i64) _ _ _ (-1) [.int .i64 (-1)] from rfl) (Reps.one (show Kd.M (Kd.int .i64) _ _ _ 0 [.int .i64 0] from rfl) (Reps.one (show Kd.M (Kd.int .i64) _ _ _ 100 [.int .i64 100] from rfl) (Reps.one (show Kd.M (Kd.int .i64) _ _ _ 101 [.int .i64 101] from rfl) (Reps.none _ _)))))); intro v147 w40 ho41 hb hg_ hnew_; clear hg_ hnew_; (first | rw [← Ny146.out] at ho41 | (simp only [Int.reduceToNat] at ho41; rw [← Ny146.out] at ho41)); have n0_ := Aside0.mk (Kd.R_below (by (with_reducible repeat (first | apply Kd.R_alloc | apply Kd.R_drewN | apply Kd.R_drew)); exact HO_5.out) hb); have n1_ := Aside0.mk (Kd.R_elder' (by (with_reducible repeat (first | apply Kd.R_alloc | apply Kd.R_drewN | apply Kd.R_drew)); exact HO138.out) (Kd.R_base ho41) hb); have n2_ := Aside0.mk (Kd.R_elder' (by (with_reducible repeat (first | apply Kd.R_alloc | apply Kd.R_drewN | apply Kd.R_drew)); exact HO143.out) (Kd.R_base ho41) hb); have n3_ := Aside0.mk (Kd.R_lower (Kd.R_new' (Kd.R_new' ho41 (Kd.R_lt (by (with_reducible repeat (first | apply Kd.R_alloc | apply Kd.R_drewN | apply Kd.R_drew)); exact HO138.out))) (Kd.R_lt (by (with_reducible repeat (first | apply Kd.R_alloc | apply Kd.R_drewN | apply Kd.R_drew)); exact HO143.out))) (keep_size (w := w) (g := g) (row := none) (by repeat (first | (with_reducible first | exact HK.out | apply KeepBut.set_ | apply keep_drewN | apply keep_drew | apply keep_alloc) | exact HK.out)))); have n4_ := Aside0.mk (IsS57.below (by repeat (first | (with_reducible first | exact HI0.out | apply IsS57.alloc | apply IsS57.drewN | apply IsS57.drew | apply IsS57.set_1) | exact HI0.out)) hb); have n5_ := Aside0.mk (KeepBut.trans (by repeat (first | (with_reducible first | exact HK.out | apply KeepBut.set_ | apply keep_drewN | apply keep_drew | apply keep_alloc) | exact HK.out)) (KeepBut.of_below hb g none) (.inl rfl)); have n6_ := Aside0.mk (below_step (by repeat (first | (with_reducible first | exact HB.out | apply below_alloc | apply pw_below_drewN | apply below_drew1 | refine below_set ?_ (IsS57.ge HI0.out)) | exact HB.out)) hb); clear HO_5; clear HO138; clear HO143; clear HI0; clear HK; clear HB; have HO_5 := n0_; have HO138 := n1_; have HO143 := n2_; have HO148 := n3_; have HI0 := n4_; have HK := n5_; have HB := n6_; clear n0_ n1_ n2_ n3_ n4_ n5_ n6_; clear hb ho41; obtain ⟨Ao42, co42, eo42⟩ := Kd.R_slice HO148.out; subst eo42) | ((with_reducible refine gate_callee (f := 36) rfl ?_); refine goesL_ (some 43) rfl rfl Try.func36 (by kernel_rfl) rfl #[.pointer (some ⟨g, 0, none⟩), .slice Ao42 y146.length co42] rfl (by (try simp only [List.map_toArray, List.map_cons, List.map_nil]); first | done | rfl | (simp only [List.length_drop, List.length_take]; rfl)) ?_; (with_reducible refine (awardingbodymake_Tape_Pick.calls g s0_0 t145 _ _ y146 t149 t150 w0 _ ?side1 ?side2 ?side3 ?side4 ?side5 A29.out).mono ?_); (case side1 => repeat (first | (with_reducible first | exact HI0.out | apply IsS57.alloc | apply IsS57.drewN | apply IsS57.drew | apply IsS57.set_1) | exact HI0.out)); (case side2 => repeat (first | (with_reducible first | exact HB.out | apply below_alloc | apply pw_below_drewN | apply below_drew1 | refine below_set ?_ (IsS57.ge HI0.out)) | exact HB.out)); (case side3 => repeat (first | exact (Kd.R_reads' HO148.out).2.2 | (with_reducible refine Kd.C_alloc ?_ _) | (with_reducible refine Kd.C_drewN ?_ _) | (with_reducible refine Kd.C_drew ?_))); (case side4 => exact (Kd.R_reads' HO148.out).2.1); (case side5 => exact far_slice (IsS57.own_ne HI0.out HO148.out (by decide))); rintro e w43 ⟨rfl, hi, hb, hk⟩; refine ⟨_, rfl, ?_⟩; have n0_ := Aside0.mk (Kd.R_mono (Kd.R_keep (IsS57.apart (show IsS57 w0 _ g s0_0 t145 from by repeat (first | (with_reducible first | exact HI0.out | apply IsS57.alloc | apply IsS57.drewN | apply IsS57.drew | apply IsS57.set_1) | exact HI0.out)) (by (with_reducible repeat (first | apply Kd.R_alloc | apply Kd.R_drewN | apply Kd.R_drew)); exact HO_5.out) (by decide)) hk (fun _ h => h.2)) (fun _ h => h.1)); have n1_ := Aside0.mk (Kd.R_mono (Kd.R_keep (IsS57.apart (show IsS57 w0 _ g s0_0 t145 from by repeat (first | (with_reducible first | exact HI0.out | apply IsS57.alloc | apply IsS57.drewN | apply IsS57.drew | apply IsS57.set_1) | exact HI0.out)) (by (with_reducible repeat (first | apply Kd.R_alloc | apply Kd.R_drewN | apply Kd.R_drew)); exact HO138.out) (by decide)) hk (fun _ h => h.2)) (fun _ h => h.1)); have n2_ := Aside0.mk (Kd.R_mono (Kd.R_keep (IsS57.apart (show IsS57 w0 _ g s0_0 t145 from by repeat (first | (with_reducible first | exact HI0.out | apply IsS57.alloc | apply IsS57.drewN | apply IsS57.drew | apply IsS57.set_1) | exact HI0.out)) (by (with_reducible repeat (first | apply Kd.R_alloc | apply Kd.R_drewN | apply Kd.R_drew)); exact HO143.out) (by decide)) hk (fun _ h => h.2)) (fun _ h => h.1)); have n3_ := Aside0.mk (Kd.R_mono (Kd.R_keep (IsS57.apart (show IsS57 w0 _ g s0_0 t145 from by repeat (first | (with_reducible first | exact HI0.out | apply IsS57.alloc | apply IsS57.drewN | apply IsS57.drew | apply IsS57.set_1) | exact HI0.out)) (by (with_reducible repeat (first | apply Kd.R_alloc | apply Kd.R_drewN | apply Kd.R_drew)); exact HO148.out) (by decide)) hk (fun _ h => h.2)) (fun _ h => h.1)); have n4_ := Aside0.mk (KeepBut.trans (by repeat (first | (with_reducible first | exact HK.out | apply KeepBut.set_ | apply keep_drewN | apply keep_drew | apply keep_alloc) | exact HK.out)) hk (.inl rfl)); have n5_ := Aside0.mk (hb); have n6_ := Aside0.mk (hi); clear HO_5; clear HO138; clear HO143; clear HO148; clear HK; clear HB; clear HI0; have HO_5 := n0_; have HO138 := n1_; have HO143 := n2_; have HO148 := n3_; have HK := n4_; have HB := n5_; have HI0 := n6_; clear n0_ n1_ n2_ n3_ n4_ n5_ n6_; (try clear hb); (try clear hb2); (try clear hk); (try clear hi)) | ((with_reducible refine gate_dst (N := 45) rfl ?_); refine Kd.R_lit (Kd.int .i64) _ 3 ?hg (N := 45) ?hd (xs := ([(-1), 0, 63, 64] : List Int)) (inner := [.int .i64 (-1), .int .i64 0, .int .i64 63, .int .i64 64]) (ok := fun _ => True) (okp := fun _ => True) ?hr ?hp (fun _ hk => hk) trivial (Below.refl _ _) (Nat.le_refl _) (by simp) ?_; (case hd => rfl); (case hg => rfl); (case hr => first | (go_simp; done) | (go_simp; rfl)); (case hp => exact (Reps.one (show Kd.M (Kd.int .i64) _ _ _ (-1) [.int .i64 (-1)] from rfl) (Reps.one (show Kd.M (Kd.int .i64) _ _ _ 0 [.int .i64 0] from rfl) (Reps.one (show Kd.M (Kd.int .i64) _ _ _ 63 [.int .i64 63] from rfl) (Reps.one (show Kd.M (Kd.int .i64) _ _ _ 64 [.int .i64 64] from rfl) (Reps.none _ _)))))); intro v152 w44 ho45 hb hg_ hnew_; clear hg_ hnew_; (first | rw [← Ny151.out] at ho45 | (simp only [Int.reduceToNat] at ho45; rw [← Ny151.out] at ho45)); have n0_ := Aside0.mk (Kd.R_below (by (with_reducible repeat (first | apply Kd.R_alloc | apply Kd.R_drewN | apply Kd.R_drew)); exact HO_5.out) hb); have n1_ := Aside0.mk (Kd.R_elder' (by (with_reducible repeat (first | apply Kd.R_alloc | apply Kd.R_drewN | apply Kd.R_drew)); exact HO138.out) (Kd.R_base ho45) hb); have n2_ := Aside0.mk (Kd.R_elder' (by (with_reducible repeat (first | apply Kd.R_alloc | apply Kd.R_drewN | apply Kd.R_drew)); exact HO143.out) (Kd.R_base ho45) hb); have n3_ := Aside0.mk (Kd.R_elder' (by (with_reducible repeat (first | apply Kd.R_alloc | apply Kd.R_drewN | apply Kd.R_drew)); exact HO148.out) (Kd.R_base ho45) hb); have n4_ := Aside0.mk (Kd.R_lower (Kd.R_new' (Kd.R_new' (Kd.R_new' ho45 (Kd.R_lt (by (with_reducible repeat (first | apply Kd.R_alloc | apply Kd.R_drewN | apply Kd.R_drew)); exact HO138.out))) (Kd.R_lt (by (with_reducible repeat (first | apply Kd.R_alloc | apply Kd.R_drewN | apply Kd.R_drew)); exact HO143.out))) (Kd.R_lt (by (with_reducible repeat (first | apply Kd.R_alloc | apply Kd.R_drewN | apply Kd.R_drew)); exact HO148.out))) (keep_size (w := w) (g := g) (row := none) (by repeat (first | (with_reducible first | exact HK.out | apply KeepBut.set_ | apply keep_drewN | apply keep_drew | apply keep_alloc) | exact HK.out)))); have n5_ := Aside0.mk (IsS57.below (by repeat (first | (with_reducible first | exact HI0.out | apply IsS57.alloc | apply IsS57.drewN | apply IsS57.drew | apply IsS57.set_1) | exact HI0.out)) hb); have n6_ := Aside0.mk (KeepBut.trans (by repeat (first | (with_reducible first | exact HK.out | apply KeepBut.set_ | apply keep_drewN | apply keep_drew | apply keep_alloc) | exact HK.out)) (KeepBut.of_below hb g none) (.inl rfl)); have n7_ := Aside0.mk (below_step (by repeat (first | (with_reducible first | exact HB.out | apply below_alloc | apply pw_below_drewN | apply below_drew1 | refine below_set ?_ (IsS57.ge HI0.out)) | exact HB.out)) hb); clear HO_5; clear HO138; clear HO143; clear HO148; clear HI0; clear HK; clear HB; have HO_5 := n0_; have HO138 := n1_; have HO143 := n2_; have HO148 := n3_; have HO153 := n4_; have HI0 := n5_; have HK := n6_; have HB := n7_; clear n0_ n1_ n2_ n3_ n4_ n5_ n6_ n7_; clear hb ho45; obtain ⟨Ao46, co46, eo46⟩ := Kd.R_slice HO153.out; subst eo46) | ((with_reducible refine gate_callee (f := 36) rfl ?_); refine goesL_ (some 46) rfl rfl Try.func36 (by kernel_rfl) rfl #[.pointer (some ⟨g, 0, none⟩), .slice Ao46 y151.length co46] rfl (by (try simp only [List.map_toArray, List.map_cons, List.map_nil]); first | done | rfl | (simp only [List.length_drop, List.length_take]; rfl)) ?_; (with_reducible refine (awardingbodymake_Tape_Pick.calls g s0_0 t150 _ _ y151 t154 t155 w0 _ ?side1 ?side2 ?side3 ?side4 ?side5 A30.out).mono ?_); (case side1 => repeat (first | (with_reducible first | exact HI0.out | apply IsS57.alloc | apply IsS57.drewN | apply IsS57.drew | apply IsS57.set_1) | exact HI0.out)); (case side2 => repeat (first | (with_reducible first | exact HB.out | apply below_alloc | apply pw_below_drewN | apply below_drew1 | refine below_set ?_ (IsS57.ge HI0.out)) | exact HB.out)); (case side3 => repeat (first | exact (Kd.R_reads' HO153.out).2.2 | (with_reducible refine Kd.C_alloc ?_ _) | (with_reducible refine Kd.C_drewN ?_ _) | (with_reducible refine Kd.C_drew ?_))); (case side4 => exact (Kd.R_reads' HO153.out).2.1); (case side5 => exact far_slice (IsS57.own_ne HI0.out HO153.out (by decide))); rintro e w47 ⟨rfl, hi, hb, hk⟩; refine ⟨_, rfl, ?_⟩; have n0_ := Aside0.mk (Kd.R_mono (Kd.R_keep (IsS57.apart (show IsS57 w0 _ g s0_0 t150 from by repeat (first | (with_reducible first | exact HI0.out | apply IsS57.alloc | apply IsS57.drewN | apply IsS57.drew | apply IsS57.set_1) | exact HI0.out)) (by (with_reducible repeat (first | apply Kd.R_alloc | apply Kd.R_drewN | apply Kd.R_drew)); exact HO_5.out) (by decide)) hk (fun _ h => h.2)) (fun _ h => h.1)); have n1_ := Aside0.mk (Kd.R_mono (Kd.R_keep (IsS57.apart (show IsS57 w0 _ g s0_0 t150 from by repeat (first | (with_reducible first | exact HI0.out | apply IsS57.alloc | apply IsS57.drewN | apply IsS57.drew | apply IsS57.set_1) | exact HI0.out)) (by (with_reducible repeat (first | apply Kd.R_alloc | apply Kd.R_drewN | apply Kd.R_drew)); exact HO138.out) (by decide)) hk (fun _ h => h.2)) (fun _ h => h.1)); have n2_ := Aside0.mk (Kd.R_mono (Kd.R_keep (IsS57.apart (show IsS57 w0 _ g s0_0 t150 from by repeat (first | (with_reducible first | exact HI0.out | apply IsS57.alloc | apply IsS57.drewN | apply IsS57.drew | apply IsS57.set_1) | exact HI0.out)) (by (with_reducible repeat (first | apply Kd.R_alloc | apply Kd.R_drewN | apply Kd.R_drew)); exact HO143.out) (by decide)) hk (fun _ h => h.2)) (fun _ h => h.1)); have n3_ := Aside0.mk (Kd.R_mono (Kd.R_keep (IsS57.apart (show IsS57 w0 _ g s0_0 t150 from by repeat (first | (with_reducible first | exact HI0.out | apply IsS57.alloc | apply IsS57.drewN | apply IsS57.drew | apply IsS57.set_1) | exact HI0.out)) (by (with_reducible repeat (first | apply Kd.R_alloc | apply Kd.R_drewN | apply Kd.R_drew)); exact HO148.out) (by decide)) hk (fun _ h => h.2)) (fun _ h => h.1)); have n4_ := Aside0.mk (Kd.R_mono (Kd.R_keep (IsS57.apart (show IsS57 w0 _ g s0_0 t150 from by repeat (first | (with_reducible first | exact HI0.out | apply IsS57.alloc | apply IsS57.drewN | apply IsS57.drew | apply IsS57.set_1) | exact HI0.out)) (by (with_reducible repeat (first | apply Kd.R_alloc | apply Kd.R_drewN | apply Kd.R_drew)); exact HO153.out) (by decide)) hk (fun _ h => h.2)) (fun _ h => h.1)); have n5_ := Aside0.mk (KeepBut.trans (by repeat (first | (with_reducible first | exact HK.out | apply KeepBut.set_ | apply keep_drewN | apply keep_drew | apply keep_alloc) | exact HK.out)) hk (.inl rfl)); have n6_ := Aside0.mk (hb); have n7_ := Aside0.mk (hi); clear HO_5; clear HO138; clear HO143; clear HO148; clear HO153; clear HK; clear HB; clear HI0; have HO_5 := n0_; have HO138 := n1_; have HO143 := n2_; have HO148 := n3_; have HO153 := n4_; have HK := n5_; have HB := n6_; have HI0 := n7_; clear n0_ n1_ n2_ n3_ n4_ n5_ n6_ n7_; (try clear hb); (try clear hb2); (try clear hk); (try clear hi)) | ((with_reducible refine gate_builtin (b := .append) (xs := #[.tmp 34, .tmp 48]) rfl ?_); at_builtin; refine Kd.R_append k28 w.heap.size rfl (.tmp 34) (.tmp 48) 23 28 (.agg #[(.int .i64 0), (.int .i64 0), (.int .i64 0), (.int .i64 0)]) 32 rfl Try.underlying23 info28 rfl (by decide) (by omega) u5 x5_1 (⟨t139, t144, t149, t154⟩ : S28) [.int .i64 t139, .int .i64 t144, .int .i64 t149, .int .i64 t154] (fun _ => True) (fun _ => False) rfl rfl ?aP (fun _ hk => hk.elim) ?aF ?aO (Below.refl _ _) ?aS ?aL ?_; (case aP => exact k28_mkM _ _ _ (⟨t139, t144, t149, t154⟩ : S28)); (case aF => exact (fun _ _ => trivial)); (case aO => exact (by (with_reducible repeat (first | apply Kd.R_alloc | apply Kd.R_drewN | apply Kd.R_drew)); exact HO_5.out)); (case aS => exact (keep_size (w := w) (g := g) (row := none) (by repeat (first | (with_reducible first | exact HK.out | apply KeepBut.set_ | apply keep_drewN | apply keep_drew | apply keep_alloc) | exact HK.out)))); (case aL => have := LMc31.out; omega); intro v157 w48 ho hb hg hat; rw [← Ny156.out] at ho; have n0_ := Aside0.mk (IsS57.grown (by repeat (first | (with_reducible first | exact HI0.out | apply IsS57.alloc | apply IsS57.drewN | apply IsS57.drew | apply IsS57.set_1) | exact HI0.out)) hg (IsS57.own_ne HI0.out HO_5.out (by decide))); have n1_ := Aside0.mk (Kd.R_over' (by (with_reducible repeat (first | apply Kd.R_alloc | apply Kd.R_drewN | apply Kd.R_drew)); exact HO138.out) (Kd.R_typed (by (with_reducible repeat (first | apply Kd.R_alloc | apply Kd.R_drewN | apply Kd.R_drew)); exact HO_5.out)) (by decide) hg); have n2_ := Aside0.mk (Kd.R_over' (by (with_reducible repeat (first | apply Kd.R_alloc | apply Kd.R_drewN | apply Kd.R_drew)); exact HO143.out) (Kd.R_typed (by (with_reducible repeat (first | apply Kd.R_alloc | apply Kd.R_drewN | apply Kd.R_drew)); exact HO_5.out)) (by decide) hg); have n3_ := Aside0.mk (Kd.R_over' (by (with_reducible repeat (first | apply Kd.R_alloc | apply Kd.R_drewN | apply Kd.R_drew)); exact HO148.out) (Kd.R_typed (by (with_reducible repeat (first | apply Kd.R_alloc | apply Kd.R_drewN | apply Kd.R_drew)); exact HO_5.out)) (by decide) hg); have n4_ := Aside0.mk (Kd.R_over' (by (with_reducible repeat (first | apply Kd.R_alloc | apply Kd.R_drewN | apply Kd.R_drew)); exact HO153.out) (Kd.R_typed (by (with_reducible repeat (first | apply Kd.R_alloc | apply Kd.R_drewN | apply Kd.R_drew)); exact HO_5.out)) (by decide) hg); have n5_ := Aside0.mk (below_weaken (by repeat (first | (with_reducible first | exact HB.out | apply below_alloc | apply pw_below_drewN | apply below_drew1 | refine below_set ?_ (IsS57.ge HI0.out)) | exact HB.out)) HL.out hb); have n6_ := Aside0.mk (KeepBut.trans (by repeat (first | (with_reducible first | exact HK.out | apply KeepBut.set_ | apply keep_drewN | apply keep_drew | apply keep_alloc) | exact HK.out)) (KeepBut.of_grown hg g) (Kd.R_base2 HO_5.out)); have n7_ := Aside0.mk (ho); clear HI0; clear HO138; clear HO143; clear HO148; clear HO153; clear HB; clear HK; clear HO_5; have HI0 := n0_; have HO138 := n1_; have HO143 := n2_; have HO148 := n3_; have HO153 := n4_; have HB := n5_; have HK := n6_; have HO158 := n7_; clear n0_ n1_ n2_ n3_ n4_ n5_ n6_ n7_; clear ho hb hg hat))
        go_ret
        exact ⟨_, by first | rfl | (simp [errW_none, errW_some] <;> rfl) | (simp [*, errW_none, errW_some] <;> rfl), by (with_reducible repeat (first | apply Kd.R_alloc | apply Kd.R_drewN | apply Kd.R_drew)); exact HO158.out, by repeat (first | (with_reducible first | exact HI0.out | apply IsS57.alloc | apply IsS57.drewN | apply IsS57.drew | apply IsS57.set_1) | exact HI0.out), by repeat (first | (with_reducible first | exact HB.out | apply below_alloc | apply pw_below_drewN | apply below_drew1 | refine below_set ?_ (IsS57.ge HI0.out)) | exact HB.out), by repeat (first | (with_reducible first | exact HK.out | apply KeepBut.set_ | apply keep_drewN | apply keep_drew | apply keep_alloc) | exact HK.out)⟩
       ·rw [if_neg c31] at H
        exact absurd H (by simp)
      ·replace c26 := Bool.eq_false_iff.mpr c26
       subst c26
       have H1 : (some (x5_1, x1001_21)) = some (r1, r2) := by rw [if_neg (show ¬ (false = true) by decide)] at H; exact H
       clear H
       have H := H1
       clear H1
       simp only [Option.some.injEq, Prod.mk.injEq] at H
       obtain ⟨rfl, rfl⟩ := H
       go_wp2
       go_ret
       exact ⟨_, by first | rfl | (simp [errW_none, errW_some] <;> rfl) | (simp [*, errW_none, errW_some] <;> rfl), by (with_reducible repeat (first | apply Kd.R_alloc | apply Kd.R_drewN | apply Kd.R_drew)); exact HO_5.out, by repeat (first | (with_reducible first | exact HI0.out | apply IsS57.alloc | apply IsS57.drewN | apply IsS57.drew | apply IsS57.set_1) | exact HI0.out), by repeat (first | (with_reducible first | exact HB.out | apply below_alloc | apply pw_below_drewN | apply below_drew1 | refine below_set ?_ (IsS57.ge HI0.out)) | exact HB.out), by repeat (first | (with_reducible first | exact HK.out | apply KeepBut.set_ | apply keep_drewN | apply keep_drew | apply keep_alloc) | exact HK.out)⟩

/-! ### access_valid: function 38 -/
def access_valid.f (a0_0 : Int) (a0_1 : Int) : Option (Bool) := if a0_0 ≥ 0 then (if a0_0 ≤ 100 then (if a0_1 ≥ 0 then (some (decide (a0_1 ≤ 63))) else (some false)) else (some false)) else (some false)
set_option maxHeartbeats 8000000 in
set_option maxRecDepth 100000 in
theorem access_valid.calls (a0_0 : Int) (a0_1 : Int) (r : Bool) (w : World) (h : access_valid.f a0_0 a0_1 = some r) :
    Calls Try.prog 38 #[.agg #[.int .i64 a0_0, .int .i64 a0_1]] w fun e w' => e = .returned (.bool r) ∧ Below w.heap.size w w' := by
 have hu38 := Try.underlying38
 have HB := Aside0.mk (Below.refl w.heap.size w)
 have H : (if a0_0 ≥ 0 then (if a0_0 ≤ 100 then (if a0_1 ≥ 0 then (some (decide (a0_1 ≤ 63))) else (some false)) else (some false)) else (some false)) = some r := h
 clear h
 by_cases c2 : a0_0 ≥ 0
 ·rw [if_pos c2] at H
  have c2b0 : decide (0 ≤ a0_0) = true := decide_eq_true c2
  clear c2
  by_cases c3 : a0_0 ≤ 100
  ·rw [if_pos c3] at H
   have c3b0 : decide (a0_0 ≤ 100) = true := decide_eq_true c3
   clear c3
   by_cases c4 : a0_1 ≥ 0
   ·rw [if_pos c4] at H
    have c4b0 : decide (0 ≤ a0_1) = true := decide_eq_true c4
    clear c4
    obtain rfl := Option.some.inj H
    go_enter Try.func38, Try.ntmps38
    go_wp2_with (first | ((with_reducible refine gate_dst (N := 1) rfl ?_); refine box_event ?hg (N := 1) ?hd (cs := #[.int .i64 a0_0, .int .i64 a0_1]) (t := 38) ?hr ?_; (case hd => rfl); (case hg => rfl); (case hr => first | (go_simp; done) | (go_simp; rfl)); intro gb159 hg w5 hbox hb; have n0_ := Aside0.mk (below_step (by repeat (first | (with_reducible first | exact HB.out | apply below_alloc | apply pw_below_drewN | apply below_drew1) | exact HB.out)) hb); have n1_ := Aside0.mk (hbox); have n2_ := Aside0.mk ((by rw [hg]; exact (below_size (by repeat (first | (with_reducible first | exact HB.out | apply below_alloc | apply pw_below_drewN | apply below_drew1) | exact HB.out))) : w.heap.size ≤ gb159)); have n3_ := Aside0.mk ((by rw [hg]; exact (below_size (by repeat (first | (with_reducible first | exact HB.out | apply below_alloc | apply pw_below_drewN | apply below_drew1) | exact HB.out))) : w.heap.size ≤ gb159)); clear HB; have HB := n0_; have BK159 := n1_; have GW159 := n2_; have GE159 := n3_; clear n0_ n1_ n2_ n3_; clear hb hbox hg; have hcz6_0 : w5.cell? ⟨gb159, 0, none⟩ = some (.int .i64 a0_0) := (blk_cell BK159.out 0).trans rfl; have hcz6_1 : w5.cell? ⟨gb159, 1, none⟩ = some (.int .i64 a0_1) := (blk_cell BK159.out 1).trans rfl; have hfz6_0 := blk_frozen BK159.out 0; have hfz6_1 := blk_frozen BK159.out 1))
    go_ret
    exact ⟨by first | rfl | (simp [errW_none, errW_some] <;> rfl) | (simp [*, errW_none, errW_some] <;> rfl), by repeat (first | (with_reducible first | exact HB.out | apply below_alloc | apply pw_below_drewN | apply below_drew1 | refine below_set ?_ GE159.out) | exact HB.out)⟩
   ·rw [if_neg c4] at H
    have c4b0 : decide (0 ≤ a0_1) = false := decide_eq_false c4
    clear c4
    obtain rfl := Option.some.inj H
    go_enter Try.func38, Try.ntmps38
    go_wp2_with (first | ((with_reducible refine gate_dst (N := 1) rfl ?_); refine box_event ?hg (N := 1) ?hd (cs := #[.int .i64 a0_0, .int .i64 a0_1]) (t := 38) ?hr ?_; (case hd => rfl); (case hg => rfl); (case hr => first | (go_simp; done) | (go_simp; rfl)); intro gb159 hg w7 hbox hb; have n0_ := Aside0.mk (below_step (by repeat (first | (with_reducible first | exact HB.out | apply below_alloc | apply pw_below_drewN | apply below_drew1) | exact HB.out)) hb); have n1_ := Aside0.mk (hbox); have n2_ := Aside0.mk ((by rw [hg]; exact (below_size (by repeat (first | (with_reducible first | exact HB.out | apply below_alloc | apply pw_below_drewN | apply below_drew1) | exact HB.out))) : w.heap.size ≤ gb159)); have n3_ := Aside0.mk ((by rw [hg]; exact (below_size (by repeat (first | (with_reducible first | exact HB.out | apply below_alloc | apply pw_below_drewN | apply below_drew1) | exact HB.out))) : w.heap.size ≤ gb159)); clear HB; have HB := n0_; have BK159 := n1_; have GW159 := n2_; have GE159 := n3_; clear n0_ n1_ n2_ n3_; clear hb hbox hg; have hcz8_0 : w7.cell? ⟨gb159, 0, none⟩ = some (.int .i64 a0_0) := (blk_cell BK159.out 0).trans rfl; have hcz8_1 : w7.cell? ⟨gb159, 1, none⟩ = some (.int .i64 a0_1) := (blk_cell BK159.out 1).trans rfl; have hfz8_0 := blk_frozen BK159.out 0; have hfz8_1 := blk_frozen BK159.out 1))
    go_ret
    exact ⟨by first | rfl | (simp [errW_none, errW_some] <;> rfl) | (simp [*, errW_none, errW_some] <;> rfl), by repeat (first | (with_reducible first | exact HB.out | apply below_alloc | apply pw_below_drewN | apply below_drew1 | refine below_set ?_ GE159.out) | exact HB.out)⟩
  ·rw [if_neg c3] at H
   have c3b0 : decide (a0_0 ≤ 100) = false := decide_eq_false c3
   clear c3
   obtain rfl := Option.some.inj H
   go_enter Try.func38, Try.ntmps38
   go_wp2_with (first | ((with_reducible refine gate_dst (N := 1) rfl ?_); refine box_event ?hg (N := 1) ?hd (cs := #[.int .i64 a0_0, .int .i64 a0_1]) (t := 38) ?hr ?_; (case hd => rfl); (case hg => rfl); (case hr => first | (go_simp; done) | (go_simp; rfl)); intro gb159 hg w9 hbox hb; have n0_ := Aside0.mk (below_step (by repeat (first | (with_reducible first | exact HB.out | apply below_alloc | apply pw_below_drewN | apply below_drew1) | exact HB.out)) hb); have n1_ := Aside0.mk (hbox); have n2_ := Aside0.mk ((by rw [hg]; exact (below_size (by repeat (first | (with_reducible first | exact HB.out | apply below_alloc | apply pw_below_drewN | apply below_drew1) | exact HB.out))) : w.heap.size ≤ gb159)); have n3_ := Aside0.mk ((by rw [hg]; exact (below_size (by repeat (first | (with_reducible first | exact HB.out | apply below_alloc | apply pw_below_drewN | apply below_drew1) | exact HB.out))) : w.heap.size ≤ gb159)); clear HB; have HB := n0_; have BK159 := n1_; have GW159 := n2_; have GE159 := n3_; clear n0_ n1_ n2_ n3_; clear hb hbox hg; have hcz10_0 : w9.cell? ⟨gb159, 0, none⟩ = some (.int .i64 a0_0) := (blk_cell BK159.out 0).trans rfl; have hcz10_1 : w9.cell? ⟨gb159, 1, none⟩ = some (.int .i64 a0_1) := (blk_cell BK159.out 1).trans rfl; have hfz10_0 := blk_frozen BK159.out 0; have hfz10_1 := blk_frozen BK159.out 1))
   go_ret
   exact ⟨by first | rfl | (simp [errW_none, errW_some] <;> rfl) | (simp [*, errW_none, errW_some] <;> rfl), by repeat (first | (with_reducible first | exact HB.out | apply below_alloc | apply pw_below_drewN | apply below_drew1 | refine below_set ?_ GE159.out) | exact HB.out)⟩
 ·rw [if_neg c2] at H
  have c2b0 : decide (0 ≤ a0_0) = false := decide_eq_false c2
  clear c2
  obtain rfl := Option.some.inj H
  go_enter Try.func38, Try.ntmps38
  go_wp2_with (first | ((with_reducible refine gate_dst (N := 1) rfl ?_); refine box_event ?hg (N := 1) ?hd (cs := #[.int .i64 a0_0, .int .i64 a0_1]) (t := 38) ?hr ?_; (case hd => rfl); (case hg => rfl); (case hr => first | (go_simp; done) | (go_simp; rfl)); intro gb159 hg w11 hbox hb; have n0_ := Aside0.mk (below_step (by repeat (first | (with_reducible first | exact HB.out | apply below_alloc | apply pw_below_drewN | apply below_drew1) | exact HB.out)) hb); have n1_ := Aside0.mk (hbox); have n2_ := Aside0.mk ((by rw [hg]; exact (below_size (by repeat (first | (with_reducible first | exact HB.out | apply below_alloc | apply pw_below_drewN | apply below_drew1) | exact HB.out))) : w.heap.size ≤ gb159)); have n3_ := Aside0.mk ((by rw [hg]; exact (below_size (by repeat (first | (with_reducible first | exact HB.out | apply below_alloc | apply pw_below_drewN | apply below_drew1) | exact HB.out))) : w.heap.size ≤ gb159)); clear HB; have HB := n0_; have BK159 := n1_; have GW159 := n2_; have GE159 := n3_; clear n0_ n1_ n2_ n3_; clear hb hbox hg; have hcz12_0 : w11.cell? ⟨gb159, 0, none⟩ = some (.int .i64 a0_0) := (blk_cell BK159.out 0).trans rfl; have hcz12_1 : w11.cell? ⟨gb159, 1, none⟩ = some (.int .i64 a0_1) := (blk_cell BK159.out 1).trans rfl; have hfz12_0 := blk_frozen BK159.out 0; have hfz12_1 := blk_frozen BK159.out 1))
  go_ret
  exact ⟨by first | rfl | (simp [errW_none, errW_some] <;> rfl) | (simp [*, errW_none, errW_some] <;> rfl), by repeat (first | (with_reducible first | exact HB.out | apply below_alloc | apply pw_below_drewN | apply below_drew1 | refine below_set ?_ GE159.out) | exact HB.out)⟩

end Go.Proofs.Ytbgeoadaeihgkaa.Print
