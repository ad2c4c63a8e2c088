-- Printed by a program of this session (wip/own_print.py) out of the translation; Lean checks it.
import Derived.Test.YthbmpjglkbhhgaaShort
import Derived.Test.YthbmpjglkbhhgaaClip
import Derived.Test.YthbmpjglkbhhgaaPrint0
namespace Go.Proofs.Ythbmpjglkbhhgaa.Print
open Go.RowKit Go.Proofs.YthbmpjglkbhhgaaW.PrintWords Go.Proofs.YthbmpjglkbhhgaaW.PrintLast Go.Proofs.YthbmpjglkbhhgaaW.PrintMore
attribute [local go_sem] max2_int min2_int max_two min_two max_three min_three max_four min_four   -- for this text's walks alone
set_option linter.unusedVariables false
set_option linter.unusedSimpArgs false

/-- A state of type 68 at block g of W; what its slices lead to came in by w0. -/
def IsS68 (w0 W : World) (g : Nat) (f0 : List Int) (f1 : Int) : Prop := ∃ A0 c0, W.heap[g]? = some (.cells #[.slice A0 f0.length c0, .int .i64 f1] 68 (0, 0)) ∧ w0.heap.size ≤ g ∧ Kd.C (Kd.int .i64) w0 A0 f0.length f0
theorem IsS68.grown {w0 W : World} {g : Nat} {f0 : List Int} {f1 : Int} {W1 : World} {row : Option Nat} (h : IsS68 w0 W g f0 f1) (hw : W.grownBy W1 row) (hne : some g ≠ row) : IsS68 w0 W1 g f0 f1 := by
  obtain ⟨A0, c0, hb, hg, hr0⟩ := h
  exact ⟨A0, c0, blk_grown hb hw hne, hg, hr0⟩
theorem IsS68.own_neN {w0 W : World} {g : Nat} {f0 : List Int} {f1 : Int} {α : Type} {d : Kd α} {e : Nat} {base : Nat} {ok : Nat → Prop} {v : Value} {xs : List α} (h : IsS68 w0 W g f0 f1) (ho : Kd.N d e W base ok v xs) (ht : e ≠ 68) : some g ≠ v.ownBlock := by
  obtain ⟨A0, c0, hb, hg, hr0⟩ := h
  exact Kd.N_ne ho hb ht
theorem IsS68.fresh {w0 W : World} {g : Nat} {f0 : List Int} {f1 : Int} (h : IsS68 w0 W g f0 f1) : ∀ k, W.heap.size ≤ k → k ≠ g := by
  obtain ⟨A0, c0, hb, hg, hr0⟩ := h
  exact Kd.freshB hb
theorem IsS68.kept {w0 W : World} {g : Nat} {f0 : List Int} {f1 : Int} {W1 : World} {S : Nat → Prop} (h : IsS68 w0 W g f0 f1) (hk : Kept W W1 S) (hne : ¬ S g) : IsS68 w0 W1 g f0 f1 := by
  obtain ⟨A0, c0, hb, hg, hr0⟩ := h
  exact ⟨A0, c0, blk_kept hb hk hne, hg, hr0⟩
theorem IsS68.below {w0 W : World} {g : Nat} {f0 : List Int} {f1 : Int} {W1 : World} (h : IsS68 w0 W g f0 f1) (hw : Below W.heap.size W W1) : IsS68 w0 W1 g f0 f1 := h.grown (grown_of_below hw none) (by simp)
theorem IsS68.alloc {w0 W : World} {g : Nat} {f0 : List Int} {f1 : Int} (h : IsS68 w0 W g f0 f1) (o : Obj) : IsS68 w0 (W.alloc o) g f0 f1 := h.below (below_alloc (Below.refl _ _) o)
theorem IsS68.drewN {w0 W : World} {g : Nat} {f0 : List Int} {f1 : Int} (h : IsS68 w0 W g f0 f1) (m : Nat) : IsS68 w0 (W.drewN m) g f0 f1 := h
theorem IsS68.drew {w0 W : World} {g : Nat} {f0 : List Int} {f1 : Int} (h : IsS68 w0 W g f0 f1) : IsS68 w0 W.drew g f0 f1 := h
theorem IsS68.at_ {w0 W : World} {g : Nat} {f0 : List Int} {f1 : Int} {w' : World} {m : Nat} (hq : W.drewN m = w') (h : IsS68 w0 W g f0 f1) : IsS68 w0 w' g f0 f1 := by subst hq; exact IsS68.drewN h m
theorem IsS68.apart {w0 W : World} {g : Nat} {f0 : List Int} {f1 : Int} {α : Type} {d : Kd α} {e : Nat} {base : Nat} {ok : Nat → Prop} {v : Value} {xs : List α} (h : IsS68 w0 W g f0 f1) (ho : d.R e W base ok v xs) (ht : ∀ q, q ∈ e :: d.E → q ≠ 68) : d.R e W base (fun k => ok k ∧ k ≠ g) v xs := by
  obtain ⟨A0, c0, hb, hg, hr0⟩ := h
  exact Kd.R_types ho hb ht
theorem IsS68.own_ne {w0 W : World} {g : Nat} {f0 : List Int} {f1 : Int} {α : Type} {d : Kd α} {e : Nat} {base : Nat} {ok : Nat → Prop} {v : Value} {xs : List α} (h : IsS68 w0 W g f0 f1) (ho : d.R e W base ok v xs) (ht : e ≠ 68) : some g ≠ v.ownBlock := by
  obtain ⟨A0, c0, hb, hg, hr0⟩ := h
  exact Kd.R_ne ho hb ht
theorem IsS68.apartQ {w0 W : World} {g : Nat} {f0 : List Int} {f1 : Int} {α : Type} {d : Kd α} {e : Nat} {base : Nat} {ok : Nat → Prop} {v : Value} {xs : List α} (h : IsS68 w0 W g f0 f1) (ho : d.Q e W base ok v xs) (ht : ∀ q, q ∈ e :: d.E → q ≠ 68) : d.Q e W base (fun k => ok k ∧ k ≠ g) v xs := by
  obtain ⟨A0, c0, hb, hg, hr0⟩ := h
  exact Kd.Q_types ho hb ht
theorem IsS68.own_neQ {w0 W : World} {g : Nat} {f0 : List Int} {f1 : Int} {α : Type} {d : Kd α} {e : Nat} {base : Nat} {ok : Nat → Prop} {v : Value} {xs : List α} (h : IsS68 w0 W g f0 f1) (ho : d.Q e W base ok v xs) (ht : e ≠ 68) : some g ≠ v.ownBlock := by
  obtain ⟨A0, c0, hb, hg, hr0⟩ := h
  exact Kd.Q_ne ho hb ht
theorem IsS68.apartS {w0 W : World} {g : Nat} {f0 : List Int} {f1 : Int} {α : Type} {d : Kd α} {e : Nat} {base : Nat} {ok : Nat → Prop} {v : Value} {xs : List α} (h : IsS68 w0 W g f0 f1) (ho : d.S e W base ok v xs) (ht : ∀ q, q ∈ e :: d.E → q ≠ 68) : d.S e W base (fun k => ok k ∧ k ≠ g) v xs := by
  obtain ⟨A0, c0, hb, hg, hr0⟩ := h
  exact Kd.S_types ho hb ht
theorem IsS68.own_neS {w0 W : World} {g : Nat} {f0 : List Int} {f1 : Int} {α : Type} {d : Kd α} {e : Nat} {base : Nat} {ok : Nat → Prop} {v : Value} {xs : List α} (h : IsS68 w0 W g f0 f1) (ho : d.S e W base ok v xs) (ht : e ≠ 68) : some g ≠ v.ownBlock := by
  obtain ⟨A0, c0, hb, hg, hr0⟩ := h
  exact Kd.S_ne ho hb ht
theorem IsS68.lt {w0 W : World} {g : Nat} {f0 : List Int} {f1 : Int} (h : IsS68 w0 W g f0 f1) : g < W.heap.size := by
  obtain ⟨A0, c0, hb, hg, hr0⟩ := h
  exact blk_lt hb
theorem IsS68.ge {w0 W : World} {g : Nat} {f0 : List Int} {f1 : Int} (h : IsS68 w0 W g f0 f1) : w0.heap.size ≤ g := by
  obtain ⟨A0, c0, hb, hg, hr0⟩ := h
  exact hg
theorem IsS68.ne_blk {w0 W : World} {g : Nat} {f0 : List Int} {f1 : Int} {a : Nat} {cs : Array Value} {t : TypeId} {fr : Nat × Nat} (h : IsS68 w0 W g f0 f1) (hb2 : W.heap[a]? = some (.cells cs t fr)) (ht : t ≠ 68) : g ≠ a := by
  obtain ⟨A0, c0, hb, hg, hr0⟩ := h
  rintro rfl
  rw [hb] at hb2
  injection hb2 with hb2
  injection hb2 with _ ht2
  exact ht ht2.symm
theorem IsS68.far {w0 W : World} {g : Nat} {f0 : List Int} {f1 : Int} {p : Addr} (h : IsS68 w0 W g f0 f1) (hne : g ≠ p.block) (u : Value) : IsS68 w0 (W.setCell p u) g f0 f1 := by
  obtain ⟨A0, c0, hb, hg, hr0⟩ := h
  exact ⟨A0, c0, blk_far hb hne u, hg, hr0⟩
theorem cellS68_0 {W : World} {g : Nat} {A0 : Option Addr} {c0 : Nat} {f0 : List Int} {f1 : Int} (h : W.heap[g]? = some (.cells #[.slice A0 f0.length c0, .int .i64 f1] 68 (0, 0))) : W.cell? ⟨g, 0, none⟩ = some (.slice A0 f0.length c0) := (blk_cell h 0).trans rfl
theorem cellS68_1 {W : World} {g : Nat} {A0 : Option Addr} {c0 : Nat} {f0 : List Int} {f1 : Int} (h : W.heap[g]? = some (.cells #[.slice A0 f0.length c0, .int .i64 f1] 68 (0, 0))) : W.cell? ⟨g, 1, none⟩ = some (.int .i64 f1) := (blk_cell h 1).trans rfl
theorem IsS68.set_1 {w0 W : World} {g : Nat} {f0 : List Int} {f1 : Int} (h : IsS68 w0 W g f0 f1) (x : Int) : IsS68 w0 (W.setCell ⟨g, 1, none⟩ (.int .i64 x)) g f0 x := by
  obtain ⟨A0, c0, hb, hg, hr0⟩ := h
  exact ⟨A0, c0, by simpa using blk_set hb 1 (.int .i64 x), hg, hr0⟩
theorem IsS68.new (w0 W : World) (A0 : Option Addr) (c0 : Nat) (f0 : List Int) (f1 : Int) (hB : Below w0.heap.size w0 W) (hr0 : Kd.C (Kd.int .i64) w0 A0 f0.length f0) : IsS68 w0 (W.alloc (.cells #[.slice A0 f0.length c0, .int .i64 f1] 68)) W.heap.size f0 f1 := ⟨A0, c0, by simpa using heap_alloc_new W _, hB.size, hr0⟩

/-! ### awardingbodymake_New: function 15 -/
def awardingbodymake_New.f (l0 : List Int) : Option (List Int × Int) := if (l0.length : Int) > 600 then (if 600 ≤ (l0.length : Int) then (some (l0.take 600, 0)) else (none)) else (some (l0, 0))
set_option maxHeartbeats 8000000 in
set_option maxRecDepth 100000 in
theorem awardingbodymake_New.calls (A0 : Option Addr) (c0 : Nat) (l0 : List Int) (r1 : List Int) (r2 : Int) (w0 w : World) (hB : Below w0.heap.size w0 w) (hr0 : Kd.C (Kd.int .i64) w0 A0 l0.length l0) (hc0 : l0.length ≤ c0) (h : awardingbodymake_New.f l0 = some (r1, r2)) :
    Calls Try.prog 15 #[.slice A0 l0.length c0] w fun e w' => ∃ g_ : Nat, e = .returned (.pointer (some ⟨g_, 0, none⟩)) ∧ IsS68 w0 w' g_ r1 r2 ∧ Below w0.heap.size w0 w' ∧ Below w.heap.size w w' := by
 have hu68 := Try.underlying68
 have HR0 := za hr0
 have HC0 := za hc0
 clear hr0 hc0
 have HBW := za (Below.refl w.heap.size w)
 have HW0 := za hB.size
 have HB := za hB
 clear hB
 have H : (if (l0.length : Int) > 600 then (if 600 ≤ (l0.length : Int) then (some (l0.take 600, 0)) else (none)) else (some (l0, 0))) = some (r1, r2) := h
 clear h
 by_cases c2 : (l0.length : Int) > 600
 ·rw [if_pos c2] at H
  have c2b0 : decide (600 < (l0.length : Int)) = true := decide_eq_true c2
  have c2b1 : decide (600 < l0.length) = true := decide_eq_true (by omega)
  clear c2
  by_cases c3 : 600 ≤ (l0.length : Int)
  ·rw [if_pos c3] at H
   have c3b0 := eq_true c3
   have c3b1 : decide (600 ≤ (l0.length : Int)) = true := decide_eq_true c3
   clear c3
   simp only [Option.some.injEq, Prod.mk.injEq] at H
   obtain ⟨rfl, rfl⟩ := H
   obtain ⟨i04, hi04, _, hsz4, _⟩ := info_parts info3
   obtain ⟨hcut4, hA4, hC4⟩ := print_take_of (P := Try.prog) (Value.int .i64) 0 28 3 .i64 Try.underlying28 hi04 hsz4 A0 c0 l0 600 (by omega) (of_decide_eq_true (by first | (with_reducible assumption) | assumption)) HC0.out
   have HR138 := za (Kd.C_of_reads (h1 := fun _ => rfl) (hA4 _ (Kd.reads_of_C HR0.out)))
   have HC138 := za hC4
   clear hA4 hC4 hi04 hsz4
   go_enter Try.func15, Try.ntmps15
   go_wp2_with (first | ((with_reducible refine gate_dst (N := 10) rfl ?_); refine zE 10 #[.slice A0 (l0.take 600).length c0, .int .i64 0] 68 ?_; intro gb139 hg w5 hbox hb; have BK139 := za (hbox); have GW139 := zg HBW hg; have GE139 := za ((Nat.le_trans HW0.out (by rw [hg]; exact (below_size (zm HBW)) : w.heap.size ≤ gb139) : w0.heap.size ≤ gb139)); replace HBW := za (below_step HBW.out hb); replace HB := zs HB hb; clear hb hbox hg))
   go_ret
   exact ⟨_, rfl, (show IsS68 w0 _ gb139 (l0.take 600) 0 from ⟨_, _, by (with_reducible repeat (first | refine blk_drewN ?_ _ | refine blk_drew ?_ | refine blk_alloc ?_ _)); exact BK139.out, GE139.out, HR138.out⟩), zm HB, zm HBW⟩
  ·rw [if_neg c3] at H
   exact absurd H (by simp)
 ·rw [if_neg c2] at H
  have c2b0 : decide (600 < (l0.length : Int)) = false := decide_eq_false c2
  have c2b1 : decide (600 < l0.length) = false := decide_eq_false (by omega)
  clear c2
  simp only [Option.some.injEq, Prod.mk.injEq] at H
  obtain ⟨rfl, rfl⟩ := H
  go_enter Try.func15, Try.ntmps15
  go_wp2_with (first | ((with_reducible refine gate_dst (N := 10) rfl ?_); refine zE 10 #[.slice A0 l0.length c0, .int .i64 0] 68 ?_; intro gb140 hg w6 hbox hb; have BK140 := za (hbox); have GW140 := zg HBW hg; have GE140 := za ((Nat.le_trans HW0.out (by rw [hg]; exact (below_size (zm HBW)) : w.heap.size ≤ gb140) : w0.heap.size ≤ gb140)); replace HBW := za (below_step HBW.out hb); replace HB := zs HB hb; clear hb hbox hg))
  go_ret
  exact ⟨_, rfl, (show IsS68 w0 _ gb140 l0 0 from ⟨_, _, by (with_reducible repeat (first | refine blk_drewN ?_ _ | refine blk_drew ?_ | refine blk_alloc ?_ _)); exact BK140.out, GE140.out, HR0.out⟩), zm HB, zm HBW⟩

/-! ### awardingbodymake_Cut: function 11 -/
def awardingbodymake_Cut.f (a0 : Int) (a1 : Int) : Option (Int) := if a1 < 1 then (some 0) else (if a1 = 0 then (none) else (if (Int.tmod a0 a1) < 0 then (some (wrap64 ((Int.tmod a0 a1) + a1))) else (some (Int.tmod a0 a1))))
set_option maxHeartbeats 8000000 in
set_option maxRecDepth 100000 in
theorem awardingbodymake_Cut.calls (a0 : Int) (a1 : Int) (r : Int) (w : World) (h : awardingbodymake_Cut.f a0 a1 = some r) :
    Calls Try.prog 11 #[.int .i64 a0, .int .i64 a1] w fun e w' => e = .returned (.int .i64 r) ∧ Drawn0 w w' := by
 have H : (if a1 < 1 then (some 0) else (if a1 = 0 then (none) else (if (Int.tmod a0 a1) < 0 then (some (wrap64 ((Int.tmod a0 a1) + a1))) else (some (Int.tmod a0 a1))))) = some r := h
 clear h
 by_cases c3 : a1 < 1
 ·rw [if_pos c3] at H
  have c3b0 : decide (a1 < 1) = true := decide_eq_true c3
  clear c3
  obtain rfl := Option.some.inj H
  go_enter Try.func11, Try.ntmps11
  go_wp2
  go_ret
  exact ⟨by first | rfl | (simp; done) | (simp [*]; done), by repeat (first | exact Drawn0.refl _ | apply Drawn0.step)⟩
 ·rw [if_neg c3] at H
  have c3b0 : decide (a1 < 1) = false := decide_eq_false c3
  clear c3
  by_cases c4 : a1 = 0
  ·rw [if_pos c4] at H
   exact absurd H (by simp)
  ·rw [if_neg c4] at H
   have c4b0 : (a1 == 0) = false := beq_eq_false_iff_ne.mpr c4
   have c4b1 : (a1 != 0) = true := bne_iff_ne.mpr c4
   by_cases c5 : (Int.tmod a0 a1) < 0
   ·rw [if_pos c5] at H
    have c5b0 : decide ((Int.tmod a0 a1) < 0) = true := decide_eq_true c5
    clear c5
    obtain rfl := Option.some.inj H
    go_enter Try.func11, Try.ntmps11
    go_wp2
    go_ret
    exact ⟨by first | rfl | (simp; done) | (simp [*]; done), by repeat (first | exact Drawn0.refl _ | apply Drawn0.step)⟩
   ·rw [if_neg c5] at H
    have c5b0 : decide ((Int.tmod a0 a1) < 0) = false := decide_eq_false c5
    clear c5
    obtain rfl := Option.some.inj H
    go_enter Try.func11, Try.ntmps11
    go_wp2
    go_ret
    exact ⟨by first | rfl | (simp; done) | (simp [*]; done), by repeat (first | exact Drawn0.refl _ | apply Drawn0.step)⟩

/-! ### awardingbodymake_Tape_Raw: function 39 -/
def awardingbodymake_Tape_Raw.f (s0_0 : List Int) (s0_1 : Int) : Option (Int × Int) := if s0_1 ≥ (s0_0.length : Int) then (some (0, s0_1)) else (if 0 ≤ (wrap64 ((wrap64 (s0_1 + 1)) - 1)) then (if (wrap64 ((wrap64 (s0_1 + 1)) - 1)) < (s0_0.length : Int) then (some (rd s0_0 (wrap64 ((wrap64 (s0_1 + 1)) - 1)), wrap64 (s0_1 + 1))) else (none)) else (none))
set_option maxHeartbeats 8000000 in
set_option maxRecDepth 100000 in
theorem awardingbodymake_Tape_Raw.calls (g : Nat) (s0_0 : List Int) (s0_1 : Int) (r1 : Int) (r2 : Int) (w0 w : World) (hI : IsS68 w0 w g s0_0 s0_1) (hB : Below w0.heap.size w0 w) (h : awardingbodymake_Tape_Raw.f s0_0 s0_1 = some (r1, r2)) :
    Calls Try.prog 39 #[.pointer (some ⟨g, 0, none⟩)] w fun e w' => e = .returned (.int .i64 r1) ∧ IsS68 w0 w' g s0_0 r2 ∧ Below w0.heap.size w0 w' ∧ KeepBut w w' g none := by
 have HI0 := za hI
 have HK := za (KeepBut.refl w g none)
 have HL := za hB.size
 clear hI
 have HW0 := za hB.size
 have HB := za hB
 clear hB
 have H : (if s0_1 ≥ (s0_0.length : Int) then (some (0, s0_1)) else (if 0 ≤ (wrap64 ((wrap64 (s0_1 + 1)) - 1)) then (if (wrap64 ((wrap64 (s0_1 + 1)) - 1)) < (s0_0.length : Int) then (some (rd s0_0 (wrap64 ((wrap64 (s0_1 + 1)) - 1)), wrap64 (s0_1 + 1))) else (none)) else (none))) = some (r1, r2) := h
 clear h
 by_cases c2 : s0_1 ≥ (s0_0.length : Int)
 ·rw [if_pos c2] at H
  have c2b0 : decide ((s0_0.length : Int) ≤ s0_1) = true := decide_eq_true c2
  clear c2
  simp only [Option.some.injEq, Prod.mk.injEq] at H
  obtain ⟨rfl, rfl⟩ := H
  obtain ⟨ASz3_0, cSz3_0, HGz3, hgz3, HSz3_0⟩ := HI0.out
  have hcz3_0 := cellS68_0 HGz3
  have hcz3_1 := cellS68_1 HGz3
  have hfz3_1 := blk_frozen HGz3 1
  clear HGz3 hgz3
  go_enter Try.func39, Try.ntmps39
  go_wp2
  repeat (go_quiet (fail); try go_wp2)
  go_ret
  exact ⟨zf, by repeat (first | (with_reducible first | exact HI0.out | apply IsS68.alloc | apply IsS68.drewN | apply IsS68.drew | apply IsS68.set_1) | exact HI0.out), zm HB, by repeat (first | (with_reducible first | exact HK.out | apply KeepBut.set_ | apply keep_drewN | apply keep_drew | apply keep_alloc) | exact HK.out)⟩
 ·rw [if_neg c2] at H
  have c2b0 : decide ((s0_0.length : Int) ≤ s0_1) = false := decide_eq_false c2
  clear c2
  obtain ⟨ji4, hji4⟩ : ∃ j_ : Int, (wrap64 ((wrap64 (s0_1 + 1)) - 1)) = j_ := ⟨_, rfl⟩
  replace H : (if 0 ≤ (ji4) then (if (ji4) < (s0_0.length : Int) then (some (rd s0_0 (ji4), wrap64 (s0_1 + 1))) else (none)) else (none)) = some (r1, r2) := by first | (rw [hji4] at H; exact H) | (simp only [hji4] at H ⊢; exact H)
  have hji4w : (IntKind.i64.wrap ((wrap64 (s0_1 + 1)) - 1)) = ji4 := (i64_w _).trans hji4
  by_cases c5 : 0 ≤ (ji4)
  ·rw [if_pos c5] at H
   have c5b0 : decide (0 ≤ (ji4)) = true := decide_eq_true c5
   clear c5
   by_cases c6 : (ji4) < (s0_0.length : Int)
   ·rw [if_pos c6] at H
    have c6b0 : decide ((ji4) < (s0_0.length : Int)) = true := decide_eq_true c6
    clear c6
    simp only [Option.some.injEq, Prod.mk.injEq] at H
    obtain ⟨rfl, rfl⟩ := H
    obtain ⟨ASz7_0, cSz7_0, HGz7, hgz7, HSz7_0⟩ := HI0.out
    have hcz7_0 := cellS68_0 HGz7
    have hcz7_1 := cellS68_1 HGz7
    have hfz7_1 := blk_frozen HGz7 1
    clear HGz7 hgz7
    have p141 : 0 ≤ ((ji4) : Int) := of_decide_eq_true (by first | (with_reducible assumption) | assumption)
    have q141 : (ji4) < (s0_0.length : Int) := of_decide_eq_true (by first | (with_reducible assumption) | assumption)
    obtain ⟨ad141, e141, hx141_0⟩ := Kd.at_int HSz7_0 (ji4) p141 q141
    cases e141
    have hn141_0 : ad141.block ≠ g := Nat.ne_of_lt (Nat.lt_of_lt_of_le (by have := World.block_lt_of_cell? _ _ hx141_0; first | rwa [add_block] at this | exact this) (IsS68.ge HI0.out))
    replace hx141_0 := pw_cell_below HB.out hx141_0
    replace hx141_0 := (cell_far (p := ⟨g, 1, none⟩) (by first | (rw [add_block]; exact hn141_0) | (show (Addr.add _ _).block ≠ _; rw [add_block]; exact hn141_0) | exact hn141_0) (.int .i64 (wrap64 (s0_1 + 1)))).trans hx141_0
    (try have hy141_0 := fun (n_ : Nat) => (show (((w.drewN n_).setCell ⟨g, 1, none⟩ (.int .i64 (wrap64 (s0_1 + 1))))).cell? _ = some _ from hx141_0))
    clear hn141_0
    replace p141 := eq_true p141
    replace q141 := eq_true q141
    go_enter Try.func39, Try.ntmps39
    go_wp2
    repeat (go_quiet (fail); try go_wp2)
    go_ret
    exact ⟨by first | rfl | (simp [errW_none, errW_some] <;> rfl) | (simp only [← hji4]; first | rfl | (simp [errW_none, errW_some] <;> rfl)) | (simp [*, errW_none, errW_some] <;> rfl), by repeat (first | (with_reducible first | exact HI0.out | apply IsS68.alloc | apply IsS68.drewN | apply IsS68.drew | apply IsS68.set_1) | exact HI0.out), zm HB, by repeat (first | (with_reducible first | exact HK.out | apply KeepBut.set_ | apply keep_drewN | apply keep_drew | apply keep_alloc) | exact HK.out)⟩
   ·rw [if_neg c6] at H
    exact absurd H (by simp)
  ·rw [if_neg c5] at H
   exact absurd H (by simp)

/-! ### awardingbodymake_Tape_Next: function 20 -/
def awardingbodymake_Tape_Next.f (s0_0 : List Int) (s0_1 : Int) (a1 : Int) : Option (Int × Int) := (awardingbodymake_Tape_Raw.f s0_0 s0_1).bind fun bt142 => ((awardingbodymake_Cut.f bt142.1 a1).bind fun t144 => (some (t144, bt142.2)))
set_option maxHeartbeats 8000000 in
set_option maxRecDepth 100000 in
theorem awardingbodymake_Tape_Next.calls (g : Nat) (s0_0 : List Int) (s0_1 : Int) (a1 : Int) (r1 : Int) (r2 : Int) (w0 w : World) (hI : IsS68 w0 w g s0_0 s0_1) (hB : Below w0.heap.size w0 w) (h : awardingbodymake_Tape_Next.f s0_0 s0_1 a1 = some (r1, r2)) :
    Calls Try.prog 20 #[.pointer (some ⟨g, 0, none⟩), .int .i64 a1] w fun e w' => e = .returned (.int .i64 r1) ∧ IsS68 w0 w' g s0_0 r2 ∧ Below w0.heap.size w0 w' ∧ KeepBut w w' g none := by
 have HI0 := za hI
 have HK := za (KeepBut.refl w g none)
 have HL := za hB.size
 clear hI
 have HW0 := za hB.size
 have HB := za hB
 clear hB
 have H : ((awardingbodymake_Tape_Raw.f s0_0 s0_1).bind fun bt142 => ((awardingbodymake_Cut.f bt142.1 a1).bind fun t144 => (some (t144, bt142.2)))) = some (r1, r2) := h
 clear h
 replace H := Option.bind_eq_some_iff.mp H
 obtain ⟨⟨t142, t143⟩, A30, H⟩ := H
 replace H : ((awardingbodymake_Cut.f t142 a1).bind fun t144 => (some (t144, t143))) = some (r1, r2) := H
 have A3 := za A30
 clear A30
 replace H := Option.bind_eq_some_iff.mp H
 obtain ⟨t144, A40, H⟩ := H
 replace H : (some (t144, t143)) = some (r1, r2) := H
 have A4 := za A40
 clear A40
 simp only [Option.some.injEq, Prod.mk.injEq] at H
 obtain ⟨rfl, rfl⟩ := H
 go_enter Try.func20, Try.ntmps20
 go_wp2_with (first | ((with_reducible refine gate_callee (f := 39) rfl ?_); refine zL (some 6) Try.func39 #[.pointer (some ⟨g, 0, none⟩)] ?_; (with_reducible refine (awardingbodymake_Tape_Raw.calls g s0_0 s0_1 t142 t143 w0 _ ?side1 ?side2 A3.out).mono ?_); (case side1 => repeat (first | (with_reducible first | exact HI0.out | apply IsS68.alloc | apply IsS68.drewN | apply IsS68.drew | apply IsS68.set_1) | exact HI0.out)); (case side2 => repeat (first | (with_reducible first | exact HB.out | apply below_alloc | apply pw_below_drewN | apply below_drew1 | refine below_set ?_ (IsS68.ge HI0.out)) | exact HB.out)); rintro e w5 ⟨rfl, hi, hb, hk⟩; refine ⟨_, rfl, ?_⟩; replace HK := zt HK hk; replace HB := za (hb); replace HI0 := za (hi); (try clear hb); (try clear hb2); (try clear hk); (try clear hi)) | ((with_reducible refine gate_callee (f := 11) rfl ?_); refine zL (some 8) Try.func11 #[.int .i64 t142, .int .i64 a1] ?_; (with_reducible refine (awardingbodymake_Cut.calls t142 a1 t144 _ A4.out).mono ?_); rintro e w' ⟨rfl, ⟨nd, rfl⟩⟩; refine ⟨_, rfl, ?_⟩))
 go_ret
 exact ⟨zf, by repeat (first | (with_reducible first | exact HI0.out | apply IsS68.alloc | apply IsS68.drewN | apply IsS68.drew | apply IsS68.set_1) | exact HI0.out), zm HB, by repeat (first | (with_reducible first | exact HK.out | apply KeepBut.set_ | apply keep_drewN | apply keep_drew | apply keep_alloc) | exact HK.out)⟩

/-! ### awardingbodymake_Tape_Range: function 30 -/
def awardingbodymake_Tape_Range.f (s0_0 : List Int) (s0_1 : Int) (a1 : Int) (a2 : Int) : Option (Int × Int) := (awardingbodymake_Tape_Next.f s0_0 s0_1 (wrap64 ((wrap64 (a2 - a1)) + 1))).bind fun bt145 => (some (wrap64 (a1 + bt145.1), bt145.2))
set_option maxHeartbeats 8000000 in
set_option maxRecDepth 100000 in
theorem awardingbodymake_Tape_Range.calls (g : Nat) (s0_0 : List Int) (s0_1 : Int) (a1 : Int) (a2 : Int) (r1 : Int) (r2 : Int) (w0 w : World) (hI : IsS68 w0 w g s0_0 s0_1) (hB : Below w0.heap.size w0 w) (h : awardingbodymake_Tape_Range.f s0_0 s0_1 a1 a2 = some (r1, r2)) :
    Calls Try.prog 30 #[.pointer (some ⟨g, 0, none⟩), .int .i64 a1, .int .i64 a2] w fun e w' => e = .returned (.int .i64 r1) ∧ IsS68 w0 w' g s0_0 r2 ∧ Below w0.heap.size w0 w' ∧ KeepBut w w' g none := by
 have HI0 := za hI
 have HK := za (KeepBut.refl w g none)
 have HL := za hB.size
 clear hI
 have HW0 := za hB.size
 have HB := za hB
 clear hB
 have H : ((awardingbodymake_Tape_Next.f s0_0 s0_1 (wrap64 ((wrap64 (a2 - a1)) + 1))).bind fun bt145 => (some (wrap64 (a1 + bt145.1), bt145.2))) = some (r1, r2) := h
 clear h
 replace H := Option.bind_eq_some_iff.mp H
 obtain ⟨⟨t145, t146⟩, A40, H⟩ := H
 replace H : (some (wrap64 (a1 + t145), t146)) = some (r1, r2) := H
 have A4 := za A40
 clear A40
 simp only [Option.some.injEq, Prod.mk.injEq] at H
 obtain ⟨rfl, rfl⟩ := H
 go_enter Try.func30, Try.ntmps30
 go_wp2_with (first | ((with_reducible refine gate_callee (f := 20) rfl ?_); refine zL (some 13) Try.func20 #[.pointer (some ⟨g, 0, none⟩), .int .i64 (wrap64 ((wrap64 (a2 - a1)) + 1))] ?_; (with_reducible refine (awardingbodymake_Tape_Next.calls g s0_0 s0_1 (wrap64 ((wrap64 (a2 - a1)) + 1)) t145 t146 w0 _ ?side1 ?side2 A4.out).mono ?_); (case side1 => repeat (first | (with_reducible first | exact HI0.out | apply IsS68.alloc | apply IsS68.drewN | apply IsS68.drew | apply IsS68.set_1) | exact HI0.out)); (case side2 => repeat (first | (with_reducible first | exact HB.out | apply below_alloc | apply pw_below_drewN | apply below_drew1 | refine below_set ?_ (IsS68.ge HI0.out)) | exact HB.out)); rintro e w5 ⟨rfl, hi, hb, hk⟩; refine ⟨_, rfl, ?_⟩; replace HK := zt HK hk; replace HB := za (hb); replace HI0 := za (hi); (try clear hb); (try clear hb2); (try clear hk); (try clear hi)))
 go_ret
 exact ⟨zf, by repeat (first | (with_reducible first | exact HI0.out | apply IsS68.alloc | apply IsS68.drewN | apply IsS68.drew | apply IsS68.set_1) | exact HI0.out), zm HB, by repeat (first | (with_reducible first | exact HK.out | apply KeepBut.set_ | apply keep_drewN | apply keep_drew | apply keep_alloc) | exact HK.out)⟩

/-! ### awardingbodymake_Tape_One: function 18 -/
def awardingbodymake_Tape_One.f (s0_0 : List Int) (s0_1 : Int) (a1 : Int) : Option (Bool × Int) := (awardingbodymake_Tape_Next.f s0_0 s0_1 a1).bind fun bt147 => (some ((bt147.1 == (wrap64 (a1 - 1))), bt147.2))
set_option maxHeartbeats 8000000 in
set_option maxRecDepth 100000 in
theorem awardingbodymake_Tape_One.calls (g : Nat) (s0_0 : List Int) (s0_1 : Int) (a1 : Int) (r1 : Bool) (r2 : Int) (w0 w : World) (hI : IsS68 w0 w g s0_0 s0_1) (hB : Below w0.heap.size w0 w) (h : awardingbodymake_Tape_One.f s0_0 s0_1 a1 = some (r1, r2)) :
    Calls Try.prog 18 #[.pointer (some ⟨g, 0, none⟩), .int .i64 a1] w fun e w' => e = .returned (.bool r1) ∧ IsS68 w0 w' g s0_0 r2 ∧ Below w0.heap.size w0 w' ∧ KeepBut w w' g none := by
 have HI0 := za hI
 have HK := za (KeepBut.refl w g none)
 have HL := za hB.size
 clear hI
 have HW0 := za hB.size
 have HB := za hB
 clear hB
 have H : ((awardingbodymake_Tape_Next.f s0_0 s0_1 a1).bind fun bt147 => (some ((bt147.1 == (wrap64 (a1 - 1))), bt147.2))) = some (r1, r2) := h
 clear h
 replace H := Option.bind_eq_some_iff.mp H
 obtain ⟨⟨t147, t148⟩, A30, H⟩ := H
 replace H : (some ((t147 == (wrap64 (a1 - 1))), t148)) = some (r1, r2) := H
 have A3 := za A30
 clear A30
 simp only [Option.some.injEq, Prod.mk.injEq] at H
 obtain ⟨rfl, rfl⟩ := H
 go_enter Try.func18, Try.ntmps18
 go_wp2_with (first | ((with_reducible refine gate_callee (f := 20) rfl ?_); refine zL (some 7) Try.func20 #[.pointer (some ⟨g, 0, none⟩), .int .i64 a1] ?_; (with_reducible refine (awardingbodymake_Tape_Next.calls g s0_0 s0_1 a1 t147 t148 w0 _ ?side1 ?side2 A3.out).mono ?_); (case side1 => repeat (first | (with_reducible first | exact HI0.out | apply IsS68.alloc | apply IsS68.drewN | apply IsS68.drew | apply IsS68.set_1) | exact HI0.out)); (case side2 => repeat (first | (with_reducible first | exact HB.out | apply below_alloc | apply pw_below_drewN | apply below_drew1 | refine below_set ?_ (IsS68.ge HI0.out)) | exact HB.out)); rintro e w4 ⟨rfl, hi, hb, hk⟩; refine ⟨_, rfl, ?_⟩; replace HK := zt HK hk; replace HB := za (hb); replace HI0 := za (hi); (try clear hb); (try clear hb2); (try clear hk); (try clear hi)))
 go_ret
 exact ⟨zf, by repeat (first | (with_reducible first | exact HI0.out | apply IsS68.alloc | apply IsS68.drewN | apply IsS68.drew | apply IsS68.set_1) | exact HI0.out), zm HB, by repeat (first | (with_reducible first | exact HK.out | apply KeepBut.set_ | apply keep_drewN | apply keep_drew | apply keep_alloc) | exact HK.out)⟩

/-! ### awardingbodymake_Tape_Pick: function 19 -/
def awardingbodymake_Tape_Pick.f (s0_0 : List Int) (s0_1 : Int) (l1 : List Int) : Option (Int × Int) := (awardingbodymake_Tape_Next.f s0_0 s0_1 (l1.length : Int)).bind fun bt149 => (if 0 ≤ bt149.1 then (if bt149.1 < (l1.length : Int) then (some (rd l1 bt149.1, bt149.2)) else (none)) else (none))
set_option maxHeartbeats 8000000 in
set_option maxRecDepth 100000 in
theorem awardingbodymake_Tape_Pick.calls (g : Nat) (s0_0 : List Int) (s0_1 : Int) (A1 : Option Addr) (c1 : Nat) (l1 : List Int) (r1 : Int) (r2 : Int) (w0 w : World) (hI : IsS68 w0 w g s0_0 s0_1) (hB : Below w0.heap.size w0 w) (hr1 : Kd.C (Kd.int .i64) w A1 l1.length l1) (hc1 : l1.length ≤ c1) (hf1 : ∀ ad, A1 = some ad → 0 < l1.length → ad.block ≠ g) (h : awardingbodymake_Tape_Pick.f s0_0 s0_1 l1 = some (r1, r2)) :
    Calls Try.prog 19 #[.pointer (some ⟨g, 0, none⟩), .slice A1 l1.length c1] w fun e w' => e = .returned (.int .i64 r1) ∧ IsS68 w0 w' g s0_0 r2 ∧ Below w0.heap.size w0 w' ∧ KeepBut w w' g none := by
 have HR1 := za hr1
 have HC1 := za hc1
 clear hr1 hc1
 have HI0 := za hI
 have HK := za (KeepBut.refl w g none)
 have HL := za hB.size
 clear hI
 have HW0 := za hB.size
 have HB := za hB
 clear hB
 have H : ((awardingbodymake_Tape_Next.f s0_0 s0_1 (l1.length : Int)).bind fun bt149 => (if 0 ≤ bt149.1 then (if bt149.1 < (l1.length : Int) then (some (rd l1 bt149.1, bt149.2)) else (none)) else (none))) = some (r1, r2) := h
 clear h
 replace H := Option.bind_eq_some_iff.mp H
 obtain ⟨⟨t149, t150⟩, A30, H⟩ := H
 replace H : (if 0 ≤ t149 then (if t149 < (l1.length : Int) then (some (rd l1 t149, t150)) else (none)) else (none)) = some (r1, r2) := H
 have A3 := za A30
 clear A30
 by_cases c4 : 0 ≤ t149
 ·rw [if_pos c4] at H
  have c4b0 : decide (0 ≤ t149) = true := decide_eq_true c4
  clear c4
  by_cases c5 : t149 < (l1.length : Int)
  ·rw [if_pos c5] at H
   have c5b0 : decide (t149 < (l1.length : Int)) = true := decide_eq_true c5
   clear c5
   simp only [Option.some.injEq, Prod.mk.injEq] at H
   obtain ⟨rfl, rfl⟩ := H
   go_enter Try.func19, Try.ntmps19
   go_wp2_with (first | ((with_reducible refine gate_callee (f := 20) rfl ?_); refine zL (some 9) Try.func20 #[.pointer (some ⟨g, 0, none⟩), .int .i64 (l1.length : Int)] ?_; (with_reducible refine (awardingbodymake_Tape_Next.calls g s0_0 s0_1 (l1.length : Int) t149 t150 w0 _ ?side1 ?side2 A3.out).mono ?_); (case side1 => repeat (first | (with_reducible first | exact HI0.out | apply IsS68.alloc | apply IsS68.drewN | apply IsS68.drew | apply IsS68.set_1) | exact HI0.out)); (case side2 => repeat (first | (with_reducible first | exact HB.out | apply below_alloc | apply pw_below_drewN | apply below_drew1 | refine below_set ?_ (IsS68.ge HI0.out)) | exact HB.out)); rintro e w6 ⟨rfl, hi, hb, hk⟩; refine ⟨_, rfl, ?_⟩; replace HK := zt HK hk; replace HB := za (hb); replace HI0 := za (hi); (try clear hb); (try clear hb2); (try clear hk); (try clear hi); have p151 : 0 ≤ (t149 : Int) := of_decide_eq_true (by first | (with_reducible assumption) | assumption); have q151 : t149 < (l1.length : Int) := of_decide_eq_true (by first | (with_reducible assumption) | assumption); obtain ⟨ad151, e151, hx151_0⟩ := Kd.at_int HR1.out t149 p151 q151; cases e151; replace hx151_0 := keep_cell HK.out hx151_0 (by first | (rw [add_block]; exact hf1 _ rfl (by omega)) | exact hf1 _ rfl (by omega) | exact hf1 ad151 rfl (by omega)); replace p151 := eq_true p151; replace q151 := eq_true q151))
   go_ret
   exact ⟨zf, by repeat (first | (with_reducible first | exact HI0.out | apply IsS68.alloc | apply IsS68.drewN | apply IsS68.drew | apply IsS68.set_1) | exact HI0.out), zm HB, by repeat (first | (with_reducible first | exact HK.out | apply KeepBut.set_ | apply keep_drewN | apply keep_drew | apply keep_alloc) | exact HK.out)⟩
  ·rw [if_neg c5] at H
   exact absurd H (by simp)
 ·rw [if_neg c4] at H
  exact absurd H (by simp)

/-! ### awardingbodymake_Tape_Wild: function 47 -/
def awardingbodymake_Tape_Wild.f (s0_0 : List Int) (s0_1 : Int) : Option (Int × Int) := (awardingbodymake_Tape_Pick.f s0_0 s0_1 (([(-1), 0, 1, 2, 31, 32, 99, 100, 200, 201, 9999, 10000, 1000000, 1000001, 1152921504606846976, 1152921504606846977, (-1152921504606846976), 9223372036854775807, (-9223372036854775808)] : List Int))).bind fun bt155 => (some (bt155.1, bt155.2))
set_option maxHeartbeats 8000000 in
set_option maxRecDepth 100000 in
theorem awardingbodymake_Tape_Wild.calls (g : Nat) (s0_0 : List Int) (s0_1 : Int) (r1 : Int) (r2 : Int) (w0 w : World) (hI : IsS68 w0 w g s0_0 s0_1) (hB : Below w0.heap.size w0 w) (h : awardingbodymake_Tape_Wild.f s0_0 s0_1 = some (r1, r2)) :
    Calls Try.prog 47 #[.pointer (some ⟨g, 0, none⟩)] w fun e w' => e = .returned (.int .i64 r1) ∧ IsS68 w0 w' g s0_0 r2 ∧ Below w0.heap.size w0 w' ∧ KeepBut w w' g none := by
 have HI0 := za hI
 have HK := za (KeepBut.refl w g none)
 have HL := za hB.size
 clear hI
 have HW0 := za hB.size
 have HB := za hB
 clear hB
 have H : ((awardingbodymake_Tape_Pick.f s0_0 s0_1 (([(-1), 0, 1, 2, 31, 32, 99, 100, 200, 201, 9999, 10000, 1000000, 1000001, 1152921504606846976, 1152921504606846977, (-1152921504606846976), 9223372036854775807, (-9223372036854775808)] : List Int))).bind fun bt155 => (some (bt155.1, bt155.2))) = some (r1, r2) := h
 clear h
 obtain ⟨y152, hy152⟩ : ∃ y_ : List Int, y_ = (([(-1), 0, 1, 2, 31, 32, 99, 100, 200, 201, 9999, 10000, 1000000, 1000001, 1152921504606846976, 1152921504606846977, (-1152921504606846976), 9223372036854775807, (-9223372036854775808)] : List Int)) := ⟨_, rfl⟩
 replace H : ((awardingbodymake_Tape_Pick.f s0_0 s0_1 y152).bind fun bt155 => (some (bt155.1, bt155.2))) = some (r1, r2) := by first | (rw [hy152]; with_reducible exact H) | (have H2_ := (Option.bind_some _ _).symm.trans H; rw [hy152]; with_reducible exact H2_) | (have H2_ := (Option.bind_some _ _).symm.trans H; with_reducible exact H2_) | with_reducible exact H | (rw [hy152]; exact H) | exact H
 have Ny152 := za hy152
 clear hy152
 replace H := Option.bind_eq_some_iff.mp H
 obtain ⟨⟨t155, t156⟩, A20, H⟩ := H
 replace H : (some (t155, t156)) = some (r1, r2) := H
 have A2 := za A20
 clear A20
 simp only [Option.some.injEq, Prod.mk.injEq] at H
 obtain ⟨rfl, rfl⟩ := H
 go_enter Try.func47, Try.ntmps47
 go_wp2_with (first | ((with_reducible refine gate_dst (N := 4) rfl ?_); refine Kd.R_lit (Kd.int .i64) _ 3 ?hg (N := 4) ?hd (xs := ([(-1), 0, 1, 2, 31, 32, 99, 100, 200, 201, 9999, 10000, 1000000, 1000001, 1152921504606846976, 1152921504606846977, (-1152921504606846976), 9223372036854775807, (-9223372036854775808)] : List Int)) (inner := [.int .i64 (-1), .int .i64 0, .int .i64 1, .int .i64 2, .int .i64 31, .int .i64 32, .int .i64 99, .int .i64 100, .int .i64 200, .int .i64 201, .int .i64 9999, .int .i64 10000, .int .i64 1000000, .int .i64 1000001, .int .i64 1152921504606846976, .int .i64 1152921504606846977, .int .i64 (-1152921504606846976), .int .i64 9223372036854775807, .int .i64 (-9223372036854775808)]) (ok := fun _ => True) (okp := fun _ => True) ?hr ?hp (fun _ hk => hk) trivial (Below.refl _ _) (Nat.le_refl _) (by simp) ?_; (case hd => rfl); (case hg => rfl); (case hr => first | (go_simp; done) | (go_simp; rfl)); (case hp => exact (Reps.one (show Kd.M (Kd.int .i64) _ _ _ (-1) [.int .i64 (-1)] from rfl) (Reps.one (show Kd.M (Kd.int .i64) _ _ _ 0 [.int .i64 0] from rfl) (Reps.one (show Kd.M (Kd.int .i64) _ _ _ 1 [.int .i64 1] from rfl) (Reps.one (show Kd.M (Kd.int .i64) _ _ _ 2 [.int .i64 2] from rfl) (Reps.one (show Kd.M (Kd.int .i64) _ _ _ 31 [.int .i64 31] from rfl) (Reps.one (show Kd.M (Kd.int .i64) _ _ _ 32 [.int .i64 32] from rfl) (Reps.one (show Kd.M (Kd.int .i64) _ _ _ 99 [.int .i64 99] from rfl) (Reps.one (show Kd.M (Kd.int .i64) _ _ _ 100 [.int .i64 100] from rfl) (Reps.one (show Kd.M (Kd.int .i64) _ _ _ 200 [.int .i64 200] from rfl) (Reps.one (show Kd.M (Kd.int .i64) _ _ _ 201 [.int .i64 201] from rfl) (Reps.one (show Kd.M (Kd.int .i64) _ _ _ 9999 [.int .i64 9999] from rfl) (Reps.one (show Kd.M (Kd.int .i64) _ _ _ 10000 [.int .i64 10000] from rfl) (Reps.one (show Kd.M (Kd.int .i64) _ _ _ 1000000 [.int .i64 1000000] from rfl) (Reps.one (show Kd.M (Kd.int .i64) _ _ _ 1000001 [.int .i64 1000001] from rfl) (Reps.one (show Kd.M (Kd.int .i64) _ _ _ 1152921504606846976 [.int .i64 1152921504606846976] from rfl) (Reps.one (show Kd.M (Kd.int .i64) _ _ _ 1152921504606846977 [.int .i64 1152921504606846977] from rfl) (Reps.one (show Kd.M (Kd.int .i64) _ _ _ (-1152921504606846976) [.int .i64 (-1152921504606846976)] from rfl) (Reps.one (show Kd.M (Kd.int .i64) _ _ _ 9223372036854775807 [.int .i64 9223372036854775807] from rfl) (Reps.one (show Kd.M (Kd.int .i64) _ _ _ (-9223372036854775808) [.int .i64 (-9223372036854775808)] from rfl) (Reps.none _ _))))))))))))))))))))); intro v153 w3 ho4 hb hg_ hnew_; clear hg_ hnew_; (first | rw [← Ny152.out] at ho4 | (simp only [Int.reduceToNat] at ho4; rw [← Ny152.out] at ho4)); have HO154 := za (Kd.R_lower ho4 (keep_size (w := w) (g := g) (row := none) (by repeat (first | (with_reducible first | exact HK.out | apply KeepBut.set_ | apply keep_drewN | apply keep_drew | apply keep_alloc) | exact HK.out)))); replace HI0 := za (IsS68.below (by repeat (first | (with_reducible first | exact HI0.out | apply IsS68.alloc | apply IsS68.drewN | apply IsS68.drew | apply IsS68.set_1) | exact HI0.out)) hb); replace HK := zu HK hb; replace HB := zs HB hb; clear hb ho4; obtain ⟨Ao5, co5, eo5⟩ := Kd.R_slice HO154.out; subst eo5) | ((with_reducible refine gate_callee (f := 19) rfl ?_); refine zL (some 5) Try.func19 #[.pointer (some ⟨g, 0, none⟩), .slice Ao5 y152.length co5] ?_; (with_reducible refine (awardingbodymake_Tape_Pick.calls g s0_0 s0_1 _ _ y152 t155 t156 w0 _ ?side1 ?side2 ?side3 ?side4 ?side5 A2.out).mono ?_); (case side1 => repeat (first | (with_reducible first | exact HI0.out | apply IsS68.alloc | apply IsS68.drewN | apply IsS68.drew | apply IsS68.set_1) | exact HI0.out)); (case side2 => repeat (first | (with_reducible first | exact HB.out | apply below_alloc | apply pw_below_drewN | apply below_drew1 | refine below_set ?_ (IsS68.ge HI0.out)) | exact HB.out)); (case side3 => exact zD HO154); (case side4 => exact (Kd.R_reads' HO154.out).2.1); (case side5 => exact far_slice (IsS68.own_ne HI0.out HO154.out (by decide))); rintro e w6 ⟨rfl, hi, hb, hk⟩; refine ⟨_, rfl, ?_⟩; replace HO154 := za (Kd.R_mono (Kd.R_keep (IsS68.apart (show IsS68 w0 _ g s0_0 s0_1 from by repeat (first | (with_reducible first | exact HI0.out | apply IsS68.alloc | apply IsS68.drewN | apply IsS68.drew | apply IsS68.set_1) | exact HI0.out)) (by (with_reducible repeat (first | apply Kd.R_alloc | apply Kd.R_drewN | apply Kd.R_drew)); exact HO154.out) (by decide)) hk (fun _ h => h.2)) (fun _ h => h.1)); replace HK := zt HK hk; replace HB := za (hb); replace HI0 := za (hi); (try clear hb); (try clear hb2); (try clear hk); (try clear hi)))
 go_ret
 exact ⟨zf, by repeat (first | (with_reducible first | exact HI0.out | apply IsS68.alloc | apply IsS68.drewN | apply IsS68.drew | apply IsS68.set_1) | exact HI0.out), zm HB, by repeat (first | (with_reducible first | exact HK.out | apply KeepBut.set_ | apply keep_drewN | apply keep_drew | apply keep_alloc) | exact HK.out)⟩

/-! ### awardingbodymake_Tape_Spoil: function 38 -/
def awardingbodymake_Tape_Spoil.f (s0_0 : List Int) (s0_1 : Int) (a1 : Int) (a2 : Int) : Option (Int × Int) := if a2 > 0 then ((awardingbodymake_Tape_One.f s0_0 s0_1 a2).bind fun bt157 => (if bt157.1 = true then ((awardingbodymake_Tape_Wild.f s0_0 bt157.2).bind fun bt159 => (some (bt159.1, bt159.2))) else (some (a1, bt157.2)))) else (some (a1, s0_1))
set_option maxHeartbeats 8000000 in
set_option maxRecDepth 100000 in
theorem awardingbodymake_Tape_Spoil.calls (g : Nat) (s0_0 : List Int) (s0_1 : Int) (a1 : Int) (a2 : Int) (r1 : Int) (r2 : Int) (w0 w : World) (hI : IsS68 w0 w g s0_0 s0_1) (hB : Below w0.heap.size w0 w) (h : awardingbodymake_Tape_Spoil.f s0_0 s0_1 a1 a2 = some (r1, r2)) :
    Calls Try.prog 38 #[.pointer (some ⟨g, 0, none⟩), .int .i64 a1, .int .i64 a2] w fun e w' => e = .returned (.int .i64 r1) ∧ IsS68 w0 w' g s0_0 r2 ∧ Below w0.heap.size w0 w' ∧ KeepBut w w' g none := by
 have HI0 := za hI
 have HK := za (KeepBut.refl w g none)
 have HL := za hB.size
 clear hI
 have HW0 := za hB.size
 have HB := za hB
 clear hB
 have H : (if a2 > 0 then ((awardingbodymake_Tape_One.f s0_0 s0_1 a2).bind fun bt157 => (if bt157.1 = true then ((awardingbodymake_Tape_Wild.f s0_0 bt157.2).bind fun bt159 => (some (bt159.1, bt159.2))) else (some (a1, bt157.2)))) else (some (a1, s0_1))) = some (r1, r2) := h
 clear h
 by_cases c4 : a2 > 0
 ·rw [if_pos c4] at H
  have c4b0 : decide (0 < a2) = true := decide_eq_true c4
  clear c4
  replace H := Option.bind_eq_some_iff.mp H
  obtain ⟨⟨t157, t158⟩, A50, H⟩ := H
  replace H : (if t157 = true then ((awardingbodymake_Tape_Wild.f s0_0 t158).bind fun bt159 => (some (bt159.1, bt159.2))) else (some (a1, t158))) = some (r1, r2) := H
  have A5 := za A50
  clear A50
  by_cases c6 : t157 = true
  ·subst c6
   have H1 : ((awardingbodymake_Tape_Wild.f s0_0 t158).bind fun bt159 => (some (bt159.1, bt159.2))) = some (r1, r2) := by rw [if_pos rfl] at H; exact H
   clear H
   have H := H1
   clear H1
   replace H := Option.bind_eq_some_iff.mp H
   obtain ⟨⟨t159, t160⟩, A70, H⟩ := H
   replace H : (some (t159, t160)) = some (r1, r2) := H
   have A7 := za A70
   clear A70
   simp only [Option.some.injEq, Prod.mk.injEq] at H
   obtain ⟨rfl, rfl⟩ := H
   go_enter Try.func38, Try.ntmps38
   go_wp2_with (first | (go_at_call 18; (with_reducible refine (awardingbodymake_Tape_One.calls g s0_0 s0_1 a2 true t158 w0 _ ?side1 ?side2 A5.out).mono ?_); (case side1 => repeat (first | (with_reducible first | exact HI0.out | apply IsS68.alloc | apply IsS68.drewN | apply IsS68.drew | apply IsS68.set_1) | exact HI0.out)); (case side2 => repeat (first | (with_reducible first | exact HB.out | apply below_alloc | apply pw_below_drewN | apply below_drew1 | refine below_set ?_ (IsS68.ge HI0.out)) | exact HB.out)); rintro e w8 ⟨rfl, hi, hb, hk⟩; replace HK := zt HK hk; replace HB := za (hb); replace HI0 := za (hi); (try clear hb); (try clear hb2); (try clear hk); (try clear hi)) | ((with_reducible refine gate_callee (f := 47) rfl ?_); refine zL (some 15) Try.func47 #[.pointer (some ⟨g, 0, none⟩)] ?_; (with_reducible refine (awardingbodymake_Tape_Wild.calls g s0_0 t158 t159 t160 w0 _ ?side1 ?side2 A7.out).mono ?_); (case side1 => repeat (first | (with_reducible first | exact HI0.out | apply IsS68.alloc | apply IsS68.drewN | apply IsS68.drew | apply IsS68.set_1) | exact HI0.out)); (case side2 => repeat (first | (with_reducible first | exact HB.out | apply below_alloc | apply pw_below_drewN | apply below_drew1 | refine below_set ?_ (IsS68.ge HI0.out)) | exact HB.out)); rintro e w9 ⟨rfl, hi, hb, hk⟩; refine ⟨_, rfl, ?_⟩; replace HK := zt HK hk; replace HB := za (hb); replace HI0 := za (hi); (try clear hb); (try clear hb2); (try clear hk); (try clear hi)))
   go_ret
   exact ⟨zf, by repeat (first | (with_reducible first | exact HI0.out | apply IsS68.alloc | apply IsS68.drewN | apply IsS68.drew | apply IsS68.set_1) | exact HI0.out), zm HB, by repeat (first | (with_reducible first | exact HK.out | apply KeepBut.set_ | apply keep_drewN | apply keep_drew | apply keep_alloc) | exact HK.out)⟩
  ·replace c6 := Bool.eq_false_iff.mpr c6
   subst c6
   have H1 : (some (a1, t158)) = some (r1, r2) := by rw [if_neg (show ¬ (false = true) by decide)] at H; exact H
   clear H
   have H := H1
   clear H1
   simp only [Option.some.injEq, Prod.mk.injEq] at H
   obtain ⟨rfl, rfl⟩ := H
   go_enter Try.func38, Try.ntmps38
   go_wp2_with (first | (go_at_call 18; (with_reducible refine (awardingbodymake_Tape_One.calls g s0_0 s0_1 a2 false t158 w0 _ ?side1 ?side2 A5.out).mono ?_); (case side1 => repeat (first | (with_reducible first | exact HI0.out | apply IsS68.alloc | apply IsS68.drewN | apply IsS68.drew | apply IsS68.set_1) | exact HI0.out)); (case side2 => repeat (first | (with_reducible first | exact HB.out | apply below_alloc | apply pw_below_drewN | apply below_drew1 | refine below_set ?_ (IsS68.ge HI0.out)) | exact HB.out)); rintro e w10 ⟨rfl, hi, hb, hk⟩; replace HK := zt HK hk; replace HB := za (hb); replace HI0 := za (hi); (try clear hb); (try clear hb2); (try clear hk); (try clear hi)))
   go_ret
   exact ⟨zf, by repeat (first | (with_reducible first | exact HI0.out | apply IsS68.alloc | apply IsS68.drewN | apply IsS68.drew | apply IsS68.set_1) | exact HI0.out), zm HB, by repeat (first | (with_reducible first | exact HK.out | apply KeepBut.set_ | apply keep_drewN | apply keep_drew | apply keep_alloc) | exact HK.out)⟩
 ·rw [if_neg c4] at H
  have c4b0 : decide (0 < a2) = false := decide_eq_false c4
  clear c4
  simp only [Option.some.injEq, Prod.mk.injEq] at H
  obtain ⟨rfl, rfl⟩ := H
  go_enter Try.func38, Try.ntmps38
  go_wp2
  go_ret
  exact ⟨zf, by repeat (first | (with_reducible first | exact HI0.out | apply IsS68.alloc | apply IsS68.drewN | apply IsS68.drew | apply IsS68.set_1) | exact HI0.out), zm HB, by repeat (first | (with_reducible first | exact HK.out | apply KeepBut.set_ | apply keep_drewN | apply keep_drew | apply keep_alloc) | exact HK.out)⟩

/-! ### awardingbodymake_Tape_Threshold: function 16 -/
def awardingbodymake_Tape_Threshold.f (s0_0 : List Int) (s0_1 : Int) (a1 : Int) : Option (Int × Int × Int × Int) := (awardingbodymake_Tape_Range.f s0_0 s0_1 3 8).bind fun bt162 => ((awardingbodymake_Tape_Spoil.f s0_0 bt162.2 bt162.1 a1).bind fun bt164 => ((awardingbodymake_Tape_Range.f s0_0 bt164.2 1 bt162.1).bind fun bt166 => ((awardingbodymake_Tape_Spoil.f s0_0 bt166.2 bt166.1 a1).bind fun bt168 => ((awardingbodymake_Tape_Range.f s0_0 bt168.2 1 4).bind fun bt170 => ((awardingbodymake_Tape_Spoil.f s0_0 bt170.2 bt170.1 a1).bind fun bt172 => (some (bt164.1, bt168.1, bt172.1, bt172.2)))))))
set_option maxHeartbeats 8000000 in
set_option maxRecDepth 100000 in
theorem awardingbodymake_Tape_Threshold.calls (g : Nat) (s0_0 : List Int) (s0_1 : Int) (a1 : Int) (r1 : Int) (r2 : Int) (r3 : Int) (r4 : Int) (w0 w : World) (hI : IsS68 w0 w g s0_0 s0_1) (hB : Below w0.heap.size w0 w) (h : awardingbodymake_Tape_Threshold.f s0_0 s0_1 a1 = some (r1, r2, r3, r4)) :
    Calls Try.prog 16 #[.pointer (some ⟨g, 0, none⟩), .int .i64 a1] w fun e w' => e = .returned (.agg #[.int .i64 r1, .int .i64 r2, .int .i64 r3]) ∧ IsS68 w0 w' g s0_0 r4 ∧ Below w0.heap.size w0 w' ∧ KeepBut w w' g none := by
 have hu23 := Try.underlying23
 have HI0 := za hI
 have HK := za (KeepBut.refl w g none)
 have HL := za hB.size
 clear hI
 have HW0 := za hB.size
 have HB := za hB
 clear hB
 have H : ((awardingbodymake_Tape_Range.f s0_0 s0_1 3 8).bind fun bt162 => ((awardingbodymake_Tape_Spoil.f s0_0 bt162.2 bt162.1 a1).bind fun bt164 => ((awardingbodymake_Tape_Range.f s0_0 bt164.2 1 bt162.1).bind fun bt166 => ((awardingbodymake_Tape_Spoil.f s0_0 bt166.2 bt166.1 a1).bind fun bt168 => ((awardingbodymake_Tape_Range.f s0_0 bt168.2 1 4).bind fun bt170 => ((awardingbodymake_Tape_Spoil.f s0_0 bt170.2 bt170.1 a1).bind fun bt172 => (some (bt164.1, bt168.1, bt172.1, bt172.2)))))))) = some (r1, r2, r3, r4) := h
 clear h
 replace H := Option.bind_eq_some_iff.mp H
 obtain ⟨⟨t162, t163⟩, A30, H⟩ := H
 replace H : ((awardingbodymake_Tape_Spoil.f s0_0 t163 t162 a1).bind fun bt164 => ((awardingbodymake_Tape_Range.f s0_0 bt164.2 1 t162).bind fun bt166 => ((awardingbodymake_Tape_Spoil.f s0_0 bt166.2 bt166.1 a1).bind fun bt168 => ((awardingbodymake_Tape_Range.f s0_0 bt168.2 1 4).bind fun bt170 => ((awardingbodymake_Tape_Spoil.f s0_0 bt170.2 bt170.1 a1).bind fun bt172 => (some (bt164.1, bt168.1, bt172.1, bt172.2))))))) = some (r1, r2, r3, r4) := H
 have A3 := za A30
 clear A30
 replace H := Option.bind_eq_some_iff.mp H
 obtain ⟨⟨t164, t165⟩, A40, H⟩ := H
 replace H : ((awardingbodymake_Tape_Range.f s0_0 t165 1 t162).bind fun bt166 => ((awardingbodymake_Tape_Spoil.f s0_0 bt166.2 bt166.1 a1).bind fun bt168 => ((awardingbodymake_Tape_Range.f s0_0 bt168.2 1 4).bind fun bt170 => ((awardingbodymake_Tape_Spoil.f s0_0 bt170.2 bt170.1 a1).bind fun bt172 => (some (t164, bt168.1, bt172.1, bt172.2)))))) = some (r1, r2, r3, r4) := H
 have A4 := za A40
 clear A40
 replace H := Option.bind_eq_some_iff.mp H
 obtain ⟨⟨t166, t167⟩, A50, H⟩ := H
 replace H : ((awardingbodymake_Tape_Spoil.f s0_0 t167 t166 a1).bind fun bt168 => ((awardingbodymake_Tape_Range.f s0_0 bt168.2 1 4).bind fun bt170 => ((awardingbodymake_Tape_Spoil.f s0_0 bt170.2 bt170.1 a1).bind fun bt172 => (some (t164, bt168.1, bt172.1, bt172.2))))) = some (r1, r2, r3, r4) := H
 have A5 := za A50
 clear A50
 replace H := Option.bind_eq_some_iff.mp H
 obtain ⟨⟨t168, t169⟩, A60, H⟩ := H
 replace H : ((awardingbodymake_Tape_Range.f s0_0 t169 1 4).bind fun bt170 => ((awardingbodymake_Tape_Spoil.f s0_0 bt170.2 bt170.1 a1).bind fun bt172 => (some (t164, t168, bt172.1, bt172.2)))) = some (r1, r2, r3, r4) := H
 have A6 := za A60
 clear A60
 replace H := Option.bind_eq_some_iff.mp H
 obtain ⟨⟨t170, t171⟩, A70, H⟩ := H
 replace H : ((awardingbodymake_Tape_Spoil.f s0_0 t171 t170 a1).bind fun bt172 => (some (t164, t168, bt172.1, bt172.2))) = some (r1, r2, r3, r4) := H
 have A7 := za A70
 clear A70
 replace H := Option.bind_eq_some_iff.mp H
 obtain ⟨⟨t172, t173⟩, A80, H⟩ := H
 replace H : (some (t164, t168, t172, t173)) = some (r1, r2, r3, r4) := H
 have A8 := za A80
 clear A80
 simp only [Option.some.injEq, Prod.mk.injEq] at H
 obtain ⟨rfl, rfl, rfl, rfl⟩ := H
 go_enter Try.func16, Try.ntmps16
 go_wp2_with (first | ((with_reducible refine gate_dst (N := 4) rfl ?_); refine zE 4 #[.int .i64 0, .int .i64 0, .int .i64 0] 23 ?_; intro gb161 hg w9 hbox hb; have BK161 := za (hbox); have GW161 := za ((by rw [hg]; exact (keep_size (w := w) (g := g) (row := none) (by repeat (first | (with_reducible first | exact HK.out | apply KeepBut.set_ | apply keep_drewN | apply keep_drew | apply keep_alloc) | exact HK.out))) : w.heap.size ≤ gb161)); have GE161 := za ((Nat.le_trans HW0.out (by rw [hg]; exact (keep_size (w := w) (g := g) (row := none) (by repeat (first | (with_reducible first | exact HK.out | apply KeepBut.set_ | apply keep_drewN | apply keep_drew | apply keep_alloc) | exact HK.out))) : w.heap.size ≤ gb161) : w0.heap.size ≤ gb161)); have NB0_161 := za ((by rw [hg]; exact Nat.ne_of_lt (IsS68.lt (show IsS68 w0 _ g s0_0 s0_1 from by repeat (first | (with_reducible first | exact HI0.out | apply IsS68.alloc | apply IsS68.drewN | apply IsS68.drew | apply IsS68.set_1) | exact HI0.out))) : g ≠ gb161)); have NB161_0 := za ((by rw [hg]; exact Nat.ne_of_gt (IsS68.lt (show IsS68 w0 _ g s0_0 s0_1 from by repeat (first | (with_reducible first | exact HI0.out | apply IsS68.alloc | apply IsS68.drewN | apply IsS68.drew | apply IsS68.set_1) | exact HI0.out))) : gb161 ≠ g)); replace HI0 := za (IsS68.below (by repeat (first | (with_reducible first | exact HI0.out | apply IsS68.alloc | apply IsS68.drewN | apply IsS68.drew | apply IsS68.set_1) | exact HI0.out)) hb); replace HK := zu HK hb; replace HB := zs HB hb; clear hb hbox hg) | ((with_reducible refine gate_callee (f := 30) rfl ?_); refine zL (some 7) Try.func30 #[.pointer (some ⟨g, 0, none⟩), .int .i64 3, .int .i64 8] ?_; (with_reducible refine (awardingbodymake_Tape_Range.calls g s0_0 s0_1 3 8 t162 t163 w0 _ ?side1 ?side2 A3.out).mono ?_); (case side1 => repeat (first | (with_reducible first | exact HI0.out | apply IsS68.alloc | apply IsS68.drewN | apply IsS68.drew | apply IsS68.set_1 | refine IsS68.far ?_ NB0_161.out _) | exact HI0.out)); (case side2 => repeat (first | (with_reducible first | exact HB.out | apply below_alloc | apply pw_below_drewN | apply below_drew1 | refine below_set ?_ (IsS68.ge HI0.out) | refine below_set ?_ GE161.out) | exact HB.out)); rintro e w10 ⟨rfl, hi, hb, hk⟩; refine ⟨_, rfl, ?_⟩; replace BK161 := zk hk BK161 NB161_0; replace HK := zt HK hk; replace HB := za (hb); replace HI0 := za (hi); (try clear hb); (try clear hb2); (try clear hk); (try clear hi)) | ((with_reducible refine gate_callee (f := 38) rfl ?_); refine zL (some 11) Try.func38 #[.pointer (some ⟨g, 0, none⟩), .int .i64 t162, .int .i64 a1] ?_; (with_reducible refine (awardingbodymake_Tape_Spoil.calls g s0_0 t163 t162 a1 t164 t165 w0 _ ?side1 ?side2 A4.out).mono ?_); (case side1 => repeat (first | (with_reducible first | exact HI0.out | apply IsS68.alloc | apply IsS68.drewN | apply IsS68.drew | apply IsS68.set_1 | refine IsS68.far ?_ NB0_161.out _) | exact HI0.out)); (case side2 => repeat (first | (with_reducible first | exact HB.out | apply below_alloc | apply pw_below_drewN | apply below_drew1 | refine below_set ?_ (IsS68.ge HI0.out) | refine below_set ?_ GE161.out) | exact HB.out)); rintro e w11 ⟨rfl, hi, hb, hk⟩; refine ⟨_, rfl, ?_⟩; replace BK161 := zk hk BK161 NB161_0; replace HK := zt HK hk; replace HB := za (hb); replace HI0 := za (hi); (try clear hb); (try clear hb2); (try clear hk); (try clear hi)) | ((with_reducible refine gate_callee (f := 30) rfl ?_); refine zL (some 15) Try.func30 #[.pointer (some ⟨g, 0, none⟩), .int .i64 1, .int .i64 t162] ?_; (with_reducible refine (awardingbodymake_Tape_Range.calls g s0_0 t165 1 t162 t166 t167 w0 _ ?side1 ?side2 A5.out).mono ?_); (case side1 => repeat (first | (with_reducible first | exact HI0.out | apply IsS68.alloc | apply IsS68.drewN | apply IsS68.drew | apply IsS68.set_1 | refine IsS68.far ?_ NB0_161.out _) | exact HI0.out)); (case side2 => repeat (first | (with_reducible first | exact HB.out | apply below_alloc | apply pw_below_drewN | apply below_drew1 | refine below_set ?_ (IsS68.ge HI0.out) | refine below_set ?_ GE161.out) | exact HB.out)); rintro e w12 ⟨rfl, hi, hb, hk⟩; refine ⟨_, rfl, ?_⟩; replace BK161 := zk hk BK161 NB161_0; replace HK := zt HK hk; replace HB := za (hb); replace HI0 := za (hi); (try clear hb); (try clear hb2); (try clear hk); (try clear hi)) | ((with_reducible refine gate_callee (f := 38) rfl ?_); refine zL (some 17) Try.func38 #[.pointer (some ⟨g, 0, none⟩), .int .i64 t166, .int .i64 a1] ?_; (with_reducible refine (awardingbodymake_Tape_Spoil.calls g s0_0 t167 t166 a1 t168 t169 w0 _ ?side1 ?side2 A6.out).mono ?_); (case side1 => repeat (first | (with_reducible first | exact HI0.out | apply IsS68.alloc | apply IsS68.drewN | apply IsS68.drew | apply IsS68.set_1 | refine IsS68.far ?_ NB0_161.out _) | exact HI0.out)); (case side2 => repeat (first | (with_reducible first | exact HB.out | apply below_alloc | apply pw_below_drewN | apply below_drew1 | refine below_set ?_ (IsS68.ge HI0.out) | refine below_set ?_ GE161.out) | exact HB.out)); rintro e w13 ⟨rfl, hi, hb, hk⟩; refine ⟨_, rfl, ?_⟩; replace BK161 := zk hk BK161 NB161_0; replace HK := zt HK hk; replace HB := za (hb); replace HI0 := za (hi); (try clear hb); (try clear hb2); (try clear hk); (try clear hi)) | ((with_reducible refine gate_callee (f := 30) rfl ?_); refine zL (some 20) Try.func30 #[.pointer (some ⟨g, 0, none⟩), .int .i64 1, .int .i64 4] ?_; (with_reducible refine (awardingbodymake_Tape_Range.calls g s0_0 t169 1 4 t170 t171 w0 _ ?side1 ?side2 A7.out).mono ?_); (case side1 => repeat (first | (with_reducible first | exact HI0.out | apply IsS68.alloc | apply IsS68.drewN | apply IsS68.drew | apply IsS68.set_1 | refine IsS68.far ?_ NB0_161.out _) | exact HI0.out)); (case side2 => repeat (first | (with_reducible first | exact HB.out | apply below_alloc | apply pw_below_drewN | apply below_drew1 | refine below_set ?_ (IsS68.ge HI0.out) | refine below_set ?_ GE161.out) | exact HB.out)); rintro e w14 ⟨rfl, hi, hb, hk⟩; refine ⟨_, rfl, ?_⟩; replace BK161 := zk hk BK161 NB161_0; replace HK := zt HK hk; replace HB := za (hb); replace HI0 := za (hi); (try clear hb); (try clear hb2); (try clear hk); (try clear hi)) | ((with_reducible refine gate_callee (f := 38) rfl ?_); refine zL (some 22) Try.func38 #[.pointer (some ⟨g, 0, none⟩), .int .i64 t170, .int .i64 a1] ?_; (with_reducible refine (awardingbodymake_Tape_Spoil.calls g s0_0 t171 t170 a1 t172 t173 w0 _ ?side1 ?side2 A8.out).mono ?_); (case side1 => repeat (first | (with_reducible first | exact HI0.out | apply IsS68.alloc | apply IsS68.drewN | apply IsS68.drew | apply IsS68.set_1 | refine IsS68.far ?_ NB0_161.out _) | exact HI0.out)); (case side2 => repeat (first | (with_reducible first | exact HB.out | apply below_alloc | apply pw_below_drewN | apply below_drew1 | refine below_set ?_ (IsS68.ge HI0.out) | refine below_set ?_ GE161.out) | exact HB.out)); rintro e w15 ⟨rfl, hi, hb, hk⟩; refine ⟨_, rfl, ?_⟩; replace BK161 := zk hk BK161 NB161_0; replace HK := zt HK hk; replace HB := za (hb); replace HI0 := za (hi); (try clear hb); (try clear hb2); (try clear hk); (try clear hi); have hnb16 := NB161_0.out; have hnc16 := NB0_161.out; obtain ⟨hcz17_0, hcz17_1, hcz17_2, hfz17_0, hfz17_1, hfz17_2⟩ := z3 BK161))
 refine bodyPost_ret (results_cell_row rfl _ _ gb161 23 #[.int .i64 t164, .int .i64 t168, .int .i64 t172] (0, 0) _ rfl (by (with_reducible repeat (first | refine blk_drewN ?_ _ | refine blk_drew ?_ | refine blk_alloc ?_ _)); refine blk_put (cs := #[.int .i64 t164, .int .i64 t168, .int .i64 0]) ?_ 2 _ rfl; (with_reducible repeat (first | refine blk_drewN ?_ _ | refine blk_drew ?_ | refine blk_alloc ?_ _)); refine blk_put (cs := #[.int .i64 t164, .int .i64 0, .int .i64 0]) ?_ 1 _ rfl; (with_reducible repeat (first | refine blk_drewN ?_ _ | refine blk_drew ?_ | refine blk_alloc ?_ _)); refine blk_put (cs := #[.int .i64 0, .int .i64 0, .int .i64 0]) ?_ 0 _ rfl; (with_reducible repeat (first | refine blk_drewN ?_ _ | refine blk_drew ?_ | refine blk_alloc ?_ _)); exact BK161.out) Try.underlying23 rfl (by kernel_rfl)) rfl ?_
 exact ⟨zf, by repeat (first | (with_reducible first | exact HI0.out | apply IsS68.alloc | apply IsS68.drewN | apply IsS68.drew | apply IsS68.set_1 | refine IsS68.far ?_ NB0_161.out _) | exact HI0.out), zm HB, by repeat (first | (with_reducible first | exact HK.out | apply KeepBut.set_ | apply keep_drewN | apply keep_drew | apply keep_alloc | refine keep_far ?_ GW161.out _) | exact HK.out)⟩

/-! ### slices_Clone_int_int: function 46 -/
def slices_Clone_int_int.f (l0 : List Int) : Option (List Int) := (some (([] : List Int) : List Int)).bind fun y174 => (if y174.length + l0.length < 17592186044416 then (some (y174 ++ l0)) else (none))
theorem slices_Clone_int_int.isnil {P : Program} (w : World) {t e : TypeId} (n c : Nat) (ht : P.underlying t = some (.slice e)) : (binOp .eql t (.slice none n c) (.slice none 0 0)).run P w = .ok (.bool true) w := by
  have h : ∀ d : Nat, (Op.equalIn (d + 1) t (.slice none n c) (.slice none 0 0)).run P w = .ok true w := fun d => by
    simp [Op.equalIn, run_underlying ht]
  simp only [binOp]
  simp [Op.equal, Op.maxDepth, h 9999]
theorem slices_Clone_int_int.nonil {P : Program} (w : World) {t e : TypeId} (a : Addr) (n c : Nat) (ht : P.underlying t = some (.slice e)) : (binOp .eql t (.slice (some a) n c) (.slice none 0 0)).run P w = .ok (.bool false) w := by
  have h : ∀ d : Nat, (Op.equalIn (d + 1) t (.slice (some a) n c) (.slice none 0 0)).run P w = .ok false w := fun d => by
    simp [Op.equalIn, run_underlying ht]
  simp only [binOp]
  simp [Op.equal, Op.maxDepth, h 9999]
set_option maxHeartbeats 8000000 in
set_option maxRecDepth 100000 in
theorem slices_Clone_int_int.calls (A0 : Option Addr) (c0 : Nat) (l0 : List Int) (r : List Int) (w : World) (hr0 : Kd.C (Kd.int .i64) w A0 l0.length l0) (hc0 : l0.length ≤ c0) (h : slices_Clone_int_int.f l0 = some r) :
    Calls Try.prog 46 #[.slice A0 l0.length c0] w fun e w' => ∃ v0_ : Value, e = .returned (v0_) ∧ Kd.R (Kd.int .i64) 3 w' w.heap.size (fun _ => True) v0_ r ∧ Below w.heap.size w w' := by
 by_cases hn_ : A0 = none
 ·subst hn_
  have hz_ : l0 = [] := by
   cases l0 with
   | nil => rfl
   | cons x xs => obtain ⟨ad, h_, _⟩ := hr0.2.2 (by simp); cases h_
  subst hz_
  have hr_ : ([] : List Int) = r := by simpa [slices_Clone_int_int.f] using h
  subst hr_
  have he_ := fun W n => slices_Clone_int_int.isnil (P := Try.prog) W n c0 Try.underlying28
  clear h hr0 hc0
  go_enter Try.func46, Try.ntmps46
  go_wp2
  go_ret
  exact ⟨_, rfl, Kd.R_nil _ _ _ _ _, Below.refl _ _⟩
 have he_ : ∀ W, (binOp .eql 28 (.slice A0 l0.length c0) (.slice none 0 0)).run Try.prog W = .ok (.bool false) W := by
  obtain ⟨ad_, rfl⟩ := Option.ne_none_iff_exists'.1 hn_
  exact fun W => slices_Clone_int_int.nonil W ad_ _ _ Try.underlying28
 clear hn_
 have HR0 := za hr0
 have HC0 := za hc0
 clear hr0 hc0
 have HB := za (Below.refl w.heap.size w)
 have H : ((some (([] : List Int) : List Int)).bind fun y174 => (if y174.length + l0.length < 17592186044416 then (some (y174 ++ l0)) else (none))) = some r := h
 clear h
 obtain ⟨y174, hy174⟩ : ∃ y_ : List Int, y_ = (([] : List Int)) := ⟨_, rfl⟩
 replace H : (if y174.length + l0.length < 17592186044416 then (some (y174 ++ l0)) else (none)) = some r := by first | (rw [hy174]; with_reducible exact H) | (have H2_ := (Option.bind_some _ _).symm.trans H; rw [hy174]; with_reducible exact H2_) | (have H2_ := (Option.bind_some _ _).symm.trans H; with_reducible exact H2_) | with_reducible exact H | (rw [hy174]; exact H) | exact H
 have Ny174 := za hy174
 clear hy174
 by_cases c2 : y174.length + l0.length < 17592186044416
 ·rw [if_pos c2] at H
  have LMc2 := za c2
  clear c2
  obtain ⟨y177, hy177⟩ : ∃ y_ : List Int, y_ = (y174 ++ l0) := ⟨_, rfl⟩
  replace H : (some y177) = some r := by first | (rw [hy177]; with_reducible exact H) | (have H2_ := (Option.bind_some _ _).symm.trans H; rw [hy177]; with_reducible exact H2_) | (have H2_ := (Option.bind_some _ _).symm.trans H; with_reducible exact H2_) | with_reducible exact H | (rw [hy177]; exact H) | exact H
  have Ny177 := za hy177
  clear hy177
  obtain rfl := Option.some.inj H
  go_enter Try.func46, Try.ntmps46
  go_wp2_with (first | ((with_reducible refine gate_dst (N := 5) rfl ?_); refine Kd.R_lit (Kd.int .i64) _ 3 ?hg (N := 5) ?hd (xs := ([] : List Int)) (inner := []) (ok := fun _ => True) (okp := fun _ => True) ?hr ?hp (fun _ hk => hk) trivial (Below.refl _ _) (Nat.le_refl _) (by simp) ?_; (case hd => rfl); (case hg => rfl); (case hr => first | (go_simp; done) | (go_simp; rfl)); (case hp => exact (Reps.none _ _)); intro v175 w3 ho4 hb hg_ hnew_; clear hg_ hnew_; (first | rw [← Ny174.out] at ho4 | (simp only [Int.reduceToNat] at ho4; rw [← Ny174.out] at ho4)); have HO176 := za (Kd.R_lower ho4 (below_size (zm HB))); replace HB := zs HB hb; clear hb ho4) | ((with_reducible refine gate_builtin (b := .append) (xs := #[.tmp 5, .tmp 6]) rfl ?_); at_builtin; refine Kd.R_append_rows (Kd.int .i64) (w0 := w) w.heap.size rfl (.tmp 5) (.tmp 6) 28 3 (.int .i64 0) 8 rfl Try.underlying28 info3 rfl (by decide) (by omega) v175 y174 l0 _ _ _ (fun _ => True) (fun _ => False) rfl rfl ?aO ?aR (fun _ _ h => h) (fun _ h => h.elim) ?aF ?aB ?aS ?aL ?_; (case aR => exact zC HR0 HB); (case aB => exact (zm HB)); (case aF => exact (fun _ _ => trivial)); (case aO => exact (by (with_reducible repeat (first | apply Kd.R_alloc | apply Kd.R_drewN | apply Kd.R_drew)); exact HO176.out)); (case aS => exact (below_size (zm HB))); (case aL => have := LMc2.out; omega); intro v178 w5 ho hb hg hat; rw [← Ny177.out] at ho; have HO179 := za (ho); replace HB := za (hb); clear HO176 ho hb hg hat))
  go_ret
  exact ⟨_, zf, by (with_reducible repeat (first | apply Kd.R_alloc | apply Kd.R_drewN | apply Kd.R_drew)); exact HO179.out, zm HB⟩
 ·rw [if_neg c2] at H
  exact absurd H (by simp)

/-! ### bubble_Split: function 25 -/
def bubble_Split.l0 : Nat → List (S46) → List Int → List (List Int) → Int → Int → Int → Option ((List (List Int)) × Int)
  | 0, _, _, _, _, _, _ => none
  | k + 1, x0, x6, x7, x8, x19, x20 => if x20 < x19 then (if (wrap64 (x20 + 1)) = (x0.length : Int) then (if 0 ≤ x8 then (if x8 ≤ (wrap64 (x20 + 1)) then (if (wrap64 (x20 + 1)) ≤ (x6.length : Int) then (if x7.length < 5864062014805 then (bubble_Split.l0 k x0 x6 (x7 ++ [((x6.take ((wrap64 (x20 + 1)) : Int).toNat).drop (x8 : Int).toNat)]) (wrap64 (x20 + 1)) x19 (wrap64 (x20 + 1))) else (none)) else (none)) else (none)) else (none)) else (if 0 ≤ (wrap64 (x20 + 1)) then (if (wrap64 (x20 + 1)) < (x0.length : Int) then (if 0 ≤ x20 then (if x20 < (x0.length : Int) then (if ((rd_T46 x0 (wrap64 (x20 + 1))).f0) = ((rd_T46 x0 x20).f0) then (bubble_Split.l0 k x0 x6 x7 x8 x19 (wrap64 (x20 + 1))) else (if 0 ≤ x8 then (if x8 ≤ (wrap64 (x20 + 1)) then (if (wrap64 (x20 + 1)) ≤ (x6.length : Int) then (if x7.length < 5864062014805 then (bubble_Split.l0 k x0 x6 (x7 ++ [((x6.take ((wrap64 (x20 + 1)) : Int).toNat).drop (x8 : Int).toNat)]) (wrap64 (x20 + 1)) x19 (wrap64 (x20 + 1))) else (none)) else (none)) else (none)) else (none))) else (none)) else (none)) else (none)) else (none))) else (some (x7, 0))
def bubble_Split.f (k : Nat) (l0 : List (S46)) (l1 : List Int) : Option ((List (List Int)) × Int) := if (l0.length : Int) = (l1.length : Int) then ((slices_Clone_int_int.f l1).bind fun t180 => (bubble_Split.l0 k l0 t180 ([] : List (List Int)) 0 (l0.length : Int) 0)) else (some (([] : List (List Int)), 1))
theorem bubble_Split.mono_l : ∀ k, (∀ y0 y1 y2 y3 y4 y5, LeO (bubble_Split.l0 k y0 y1 y2 y3 y4 y5) (bubble_Split.l0 (k + 1) y0 y1 y2 y3 y4 y5))
  | 0 => fun _ _ _ _ _ _ r h => by simp [bubble_Split.l0] at h
  | k + 1 => by
    have ih0 := bubble_Split.mono_l k
    · intro y0 y1 y2 y3 y4 y5
      unfold bubble_Split.l0
      repeat' first
      | (with_reducible exact ih0 _ _ _ _ _ _)
      | (with_reducible exact LeO.refl _)
      | (with_reducible exact LeO.none _)
      | (with_reducible refine LeO.ite ?_ ?_)
      | (with_reducible refine LeO.bind ?_ (fun _ => ?_))
      | exact ih0 _ _ _ _ _ _
      | exact LeO.none _
      | refine LeO.ite ?_ ?_
      | refine LeO.bind ?_ (fun _ => ?_)
theorem bubble_Split.mono : ∀ a0 a1 k, LeO (bubble_Split.f k a0 a1) (bubble_Split.f (k + 1) a0 a1) := by
  intro a0 a1 k
  have ih0 := bubble_Split.mono_l k
  unfold bubble_Split.f
  repeat' first
      | (with_reducible exact ih0 _ _ _ _ _ _)
      | (with_reducible exact LeO.refl _)
      | (with_reducible exact LeO.none _)
      | (with_reducible refine LeO.ite ?_ ?_)
      | (with_reducible refine LeO.bind ?_ (fun _ => ?_))
      | exact ih0 _ _ _ _ _ _
      | exact LeO.none _
      | refine LeO.ite ?_ ?_
      | refine LeO.bind ?_ (fun _ => ?_)
set_option maxHeartbeats 8000000 in
set_option maxRecDepth 100000 in
theorem bubble_Split.calls (k : Nat) (A0 : Option Addr) (c0 : Nat) (l0 : List (S46)) (A1 : Option Addr) (c1 : Nat) (l1 : List Int) (r1 : List (List Int)) (r2 : Int) (w : World) (hr0 : Kd.C k46 w A0 l0.length l0) (hc0 : l0.length ≤ c0) (hr1 : Kd.C (Kd.int .i64) w A1 l1.length l1) (hc1 : l1.length ≤ c1) (h : bubble_Split.f k l0 l1 = some (r1, r2)) :
    Calls Try.prog 25 #[.slice A0 l0.length c0, .slice A1 l1.length c1] w fun e w' => ∃ v0_ : Value, e = .returned (.tuple #[v0_, .int .i64 r2]) ∧ Kd.N (Kd.slice 3 (Kd.int .i64)) 28 w' w.heap.size (fun k_ => (w.heap.size ≤ k_)) v0_ r1 ∧ Below w.heap.size w w' := by
 have HR0 := za hr0
 have HC0 := za hc0
 clear hr0 hc0
 have HR1 := za hr1
 have HC1 := za hc1
 clear hr1 hc1
 have HB := za (Below.refl w.heap.size w)
 have H : (if (l0.length : Int) = (l1.length : Int) then ((slices_Clone_int_int.f l1).bind fun t180 => (bubble_Split.l0 k l0 t180 ([] : List (List Int)) 0 (l0.length : Int) 0)) else (some (([] : List (List Int)), 1))) = some (r1, r2) := h
 clear h
 by_cases c3 : (l0.length : Int) = (l1.length : Int)
 ·rw [if_pos c3] at H
  have c3b0 : ((l0.length : Int) == (l1.length : Int)) = true := beq_iff_eq.mpr c3
  have c3b1 : ((l0.length : Int) != (l1.length : Int)) = false := bne_eq_false_iff_eq.mpr c3
  have c3b2 : (l0.length == l1.length) = true := by first | simpa using c3 | (simp at c3 ⊢; omega)
  clear c3
  replace H := Option.bind_eq_some_iff.mp H
  obtain ⟨t180, A40, H⟩ := H
  replace H : (bubble_Split.l0 k l0 t180 ([] : List (List Int)) 0 (l0.length : Int) 0) = some (r1, r2) := H
  have A4 := za A40
  clear A40
  have H' := za H
  clear H
  go_enter Try.func25, Try.ntmps25
  go_wp2_with (first | (go_at_call 46; (with_reducible refine (slices_Clone_int_int.calls _ _ l1 t180 _ ?side1 ?side2 A4.out).mono ?_); (case side1 => repeat (first | exact HR1.out | (with_reducible refine Kd.C_alloc ?_ _) | (with_reducible refine Kd.C_drewN ?_ _) | (with_reducible refine Kd.C_drew ?_))); (case side2 => exact HC1.out); rintro e w5 ⟨v181, rfl, ho0, hb⟩; have HO182 := za (Kd.R_lower (Kd.R_newM (M := fun k_ => (w.heap.size ≤ k_)) ho0 (below_size (zm HB)) (fun k_ h_ => h_)) (below_size (zm HB))); replace HB := zs HB hb; (try clear hb); (try clear hb2); (try clear hk); (try clear hi); (try clear ho0)))
  repeat (go_quiet (first | (go_at_call 46; (with_reducible refine (slices_Clone_int_int.calls _ _ l1 t180 _ ?side1 ?side2 A4.out).mono ?_); (case side1 => repeat (first | exact HR1.out | (with_reducible refine Kd.C_alloc ?_ _) | (with_reducible refine Kd.C_drewN ?_ _) | (with_reducible refine Kd.C_drew ?_))); (case side2 => exact HC1.out); rintro e w5 ⟨v181, rfl, ho0, hb⟩; have HO182 := za (Kd.R_lower (Kd.R_newM (M := fun k_ => (w.heap.size ≤ k_)) ho0 (below_size (zm HB)) (fun k_ h_ => h_)) (below_size (zm HB))); replace HB := zs HB hb; (try clear hb); (try clear hb2); (try clear hk); (try clear hi); (try clear ho0))); try go_wp2_with (first | (go_at_call 46; (with_reducible refine (slices_Clone_int_int.calls _ _ l1 t180 _ ?side1 ?side2 A4.out).mono ?_); (case side1 => repeat (first | exact HR1.out | (with_reducible refine Kd.C_alloc ?_ _) | (with_reducible refine Kd.C_drewN ?_ _) | (with_reducible refine Kd.C_drew ?_))); (case side2 => exact HC1.out); rintro e w5 ⟨v181, rfl, ho0, hb⟩; have HO182 := za (Kd.R_lower (Kd.R_newM (M := fun k_ => (w.heap.size ≤ k_)) ho0 (below_size (zm HB)) (fun k_ h_ => h_)) (below_size (zm HB))); replace HB := zs HB hb; (try clear hb); (try clear hb2); (try clear hk); (try clear hi); (try clear ho0))))
  go_loopg [7, 8, 20] k (fun kq v7 v8 v20 w' => ∃ (x7_1 : List (List Int)) (x8_1 : Int) (x20_1 : Int), v8 = .int .i64 x8_1 ∧ v20 = .int .i64 x20_1 ∧ Aside0 (bubble_Split.l0 kq l0 t180 x7_1 x8_1 (l0.length : Int) x20_1 = some (r1, r2)) ∧ Aside0 (kq ≤ k) ∧ Aside0 (Kd.R (Kd.int .i64) 3 w' w.heap.size (fun k_ => (w.heap.size ≤ k_)) v181 t180) ∧ Aside0 (Kd.N (Kd.slice 3 (Kd.int .i64)) 28 w' w.heap.size (fun k_ => (w.heap.size ≤ k_)) v7 x7_1) ∧ Aside0 (Below w.heap.size w w'))
  case atStart => exact ⟨(([] : List (List Int))), (0), (0), (by first | rfl | (simp; done) | (simp [*]; done)), (by first | rfl | (simp; done) | (simp [*]; done)), H', ⟨Nat.le_refl _⟩, ⟨by (with_reducible repeat (first | apply Kd.R_alloc | apply Kd.R_drewN | apply Kd.R_drew)); exact Kd.R_mono HO182.out (fun _ hk => hk.1)⟩, ⟨by first | exact Kd.S_nil _ _ _ _ _ | exact Kd.N_nil _ _ _ _ _ | exact Kd.V_nil _ _ _ _ _ | exact Kd.Q_nil _ _ _ _ _ | exact Kd.R_nil _ _ _ _ _⟩, ⟨zm HB⟩⟩
  case round =>
   clear H'
   try clear c1
   try clear c2
   try clear p2
   try clear c3
   try clear c3b0
   try clear c3b1
   try clear c3b2
   obtain ⟨x7_1, x8_1, x20_1, rfl, rfl, HA, HK1, HO_6, HO_7, HB⟩ := hrel
   cases gk with
   | zero => exact absurd HA.out (by simp [bubble_Split.l0])
   | succ k1 =>
    have H := HA.out
    clear HA
    simp only [bubble_Split.l0] at H
    by_cases c6 : x20_1 < (l0.length : Int)
    ·rw [if_pos c6] at H
     have c6b0 : decide (x20_1 < (l0.length : Int)) = true := decide_eq_true c6
     clear c6
     by_cases c7 : (wrap64 (x20_1 + 1)) = (l0.length : Int)
     ·rw [if_pos c7] at H
      have c7b0 : ((wrap64 (x20_1 + 1)) == (l0.length : Int)) = true := beq_iff_eq.mpr c7
      have c7b1 : ((wrap64 (x20_1 + 1)) != (l0.length : Int)) = false := bne_eq_false_iff_eq.mpr c7
      clear c7
      by_cases c8 : 0 ≤ x8_1
      ·rw [if_pos c8] at H
       have c8b0 := eq_true c8
       have c8b1 : decide (0 ≤ x8_1) = true := decide_eq_true c8
       clear c8
       by_cases c9 : x8_1 ≤ (wrap64 (x20_1 + 1))
       ·rw [if_pos c9] at H
        have c9b0 := eq_true c9
        have c9b1 : decide (x8_1 ≤ (wrap64 (x20_1 + 1))) = true := decide_eq_true c9
        by_cases c10 : (wrap64 (x20_1 + 1)) ≤ (t180.length : Int)
        ·rw [if_pos c10] at H
         have c10b0 := eq_true c10
         have c10b1 : decide ((wrap64 (x20_1 + 1)) ≤ (t180.length : Int)) = true := decide_eq_true c10
         obtain ⟨y183, hy183⟩ : ∃ y_ : List Int, y_ = ((t180.take ((wrap64 (x20_1 + 1)) : Int).toNat).drop (x8_1 : Int).toNat) := ⟨_, rfl⟩
         replace H : (if x7_1.length < 5864062014805 then (bubble_Split.l0 k1 l0 t180 (x7_1 ++ [y183]) (wrap64 (x20_1 + 1)) (l0.length : Int) (wrap64 (x20_1 + 1))) else (none)) = some (r1, r2) := by first | (rw [hy183]; with_reducible exact H) | (have H2_ := (Option.bind_some _ _).symm.trans H; rw [hy183]; with_reducible exact H2_) | (have H2_ := (Option.bind_some _ _).symm.trans H; with_reducible exact H2_) | with_reducible exact H | (rw [hy183]; exact H) | exact H
         have Ny183 := za hy183
         clear hy183
         by_cases c11 : x7_1.length < 5864062014805
         ·rw [if_pos c11] at H
          have LMc11 := za c11
          clear c11
          obtain ⟨y188, hy188⟩ : ∃ y_ : List (List Int), y_ = (x7_1 ++ [y183]) := ⟨_, rfl⟩
          replace H : (bubble_Split.l0 k1 l0 t180 y188 (wrap64 (x20_1 + 1)) (l0.length : Int) (wrap64 (x20_1 + 1))) = some (r1, r2) := by first | (rw [hy188]; with_reducible exact H) | (have H2_ := (Option.bind_some _ _).symm.trans H; rw [hy188]; with_reducible exact H2_) | (have H2_ := (Option.bind_some _ _).symm.trans H; with_reducible exact H2_) | with_reducible exact H | (rw [hy188]; exact H) | exact H
          have Ny188 := za hy188
          clear hy188
          have H' := za H
          clear H
          obtain ⟨Ao13, co13, eo13⟩ := Kd.R_slice HO_6.out
          subst eo13
          have q12 : ((wrap64 (x20_1 + 1)) : Int) ≤ ((t180.length : Int) : Int) := of_decide_eq_true (by first | (with_reducible assumption) | assumption)
          obtain ⟨i012, hi012, _, hsz12, _⟩ := info_parts info3
          have hroom12 : t180.length ≤ co13 := (Kd.R_reads' HO_6.out).2.1
          have hC12 : Kd.F (Kd.int .i64) _ _ Ao13 t180.length t180 := (Kd.V_at (base := w.heap.size) (Kd.R_V (Kd.R_apart' (HO_6.out) (Kd.N_typed HO_7.out) (by decide)))).2.2
          have ql12 : (x8_1 : Int) ≤ ((wrap64 (x20_1 + 1)) : Int) := of_decide_eq_true (by first | (with_reducible assumption) | assumption)
          have q012 : (0 : Int) ≤ (x8_1 : Int) := of_decide_eq_true (by first | (with_reducible assumption) | assumption)
          have hcut12 := clip_mid (P := Try.prog) 28 3 .i64 .i64 .i64 Try.underlying28 hi012 1 hsz12 Ao13 t180.length co13 x8_1 (wrap64 (x20_1 + 1)) q012 ql12 q12 hroom12
          have hr12 := Kd.F_clip (lo := (x8_1 : Int).toNat) (hi := ((wrap64 (x20_1 + 1)) : Int).toNat) hC12 (by omega) (by omega)
          obtain ⟨A12, hA12⟩ : ∃ A1, A1 = (if ((wrap64 (x20_1 + 1)) : Int).toNat = (x8_1 : Int).toNat then Ao13 else (Ao13 : Option Addr).map (·.add ((x8_1 : Int).toNat * 1))) := ⟨_, rfl⟩
          have hy12 : y183.length = ((wrap64 (x20_1 + 1)) : Int).toNat - (x8_1 : Int).toNat := (by rw [Ny183.out, List.length_drop, List.length_take] <;> omega)
          rw [show ((t180).take ((wrap64 (x20_1 + 1)) : Int).toNat).drop (x8_1 : Int).toNat = y183 from Ny183.out.symm] at hr12
          replace hr12 : Kd.F (Kd.int .i64) _ _ A12 y183.length y183 := (by rw [hA12]; exact hr12)
          rw [← hy12, ← hA12] at hcut12
          have HO187 := za (show Kd.V (Kd.int .i64) 3 _ w.heap.size _ (.slice A12 y183.length y183.length) y183 from Kd.V_mk (Nat.le_refl _) hr12)
          have HC187 := za (Nat.le_refl y183.length)
          clear hr12 hC12 hroom12 hi012 hsz12
          have KY12 := za hy12
          have KA12 := za hA12
          clear hy12 hA12
          replace q12 := eq_true q12
          go_wp2_with (first | ((with_reducible refine gate_builtin (b := .append) (xs := #[.tmp 42, .tmp 48]) rfl ?_); at_builtin; refine Kd.N_append (Kd.slice 3 (Kd.int .i64)) (w0 := w) w.heap.size rfl (.tmp 42) (.tmp 48) 47 28 (.slice none 0 0) 24 rfl Try.underlying47 info28 rfl (by decide) (by omega) u7 x7_1 y183 [.slice A12 y183.length y183.length] (fun k_ => (w.heap.size ≤ k_)) (fun k_ => ((fun k_ => (w.heap.size ≤ k_))) k_ ∧ some k_ ≠ (u7 : Value).ownBlock) rfl rfl ?aP (fun _ hk => hk) ?aF ?aO ?aB ?aS ?aL ?_; (case aP => exact (Kd.FK_slice_mk (Kd.V_reads' (Kd.V_mono (ok' := (fun k_ => ((fun k_ => (w.heap.size ≤ k_))) k_ ∧ some k_ ≠ (u7 : Value).ownBlock)) (HO187.out) (fun k_ hk => ⟨hk.1, hk.2⟩))).2.1 (Kd.V_F (Kd.V_mono (ok' := (fun k_ => ((fun k_ => (w.heap.size ≤ k_))) k_ ∧ some k_ ≠ (u7 : Value).ownBlock)) (HO187.out) (fun k_ hk => ⟨hk.1, hk.2⟩))))); (case aB => exact (zm HB)); (case aF => exact (fun k_ hk => (Nat.le_trans (below_size (zm HB)) hk))); (case aO => exact (by (with_reducible repeat (first | apply Kd.N_alloc | apply Kd.N_drewN | apply Kd.N_drew)); exact HO_7.out)); (case aS => exact (below_size (zm HB))); (case aL => have := LMc11.out; omega); intro v189 w14 ho hb hg hat; rw [← Ny188.out] at ho; have HO190 := za (ho); replace HO_6 := za (Kd.R_over' (by (with_reducible repeat (first | apply Kd.R_alloc | apply Kd.R_drewN | apply Kd.R_drew)); exact HO_6.out) (Kd.N_typed (by (with_reducible repeat (first | apply Kd.N_alloc | apply Kd.N_drewN | apply Kd.N_drew)); exact HO_7.out)) (by decide) hg); replace HO187 := za (Kd.V_afterv (ok := (fun k_ => (w.heap.size ≤ k_))) (by (with_reducible repeat (first | apply Kd.V_alloc | apply Kd.V_drewN | apply Kd.V_drew)); exact HO187.out) hg hat); replace HB := za (hb); clear HO_7 ho hb hg hat))
          go_quiet (fail)
          go_wp2_with (first | ((with_reducible refine gate_builtin (b := .append) (xs := #[.tmp 42, .tmp 48]) rfl ?_); at_builtin; refine Kd.N_append (Kd.slice 3 (Kd.int .i64)) (w0 := w) w.heap.size rfl (.tmp 42) (.tmp 48) 47 28 (.slice none 0 0) 24 rfl Try.underlying47 info28 rfl (by decide) (by omega) u7 x7_1 y183 [.slice A12 y183.length y183.length] (fun k_ => (w.heap.size ≤ k_)) (fun k_ => ((fun k_ => (w.heap.size ≤ k_))) k_ ∧ some k_ ≠ (u7 : Value).ownBlock) rfl rfl ?aP (fun _ hk => hk) ?aF ?aO ?aB ?aS ?aL ?_; (case aP => exact (Kd.FK_slice_mk (Kd.V_reads' (Kd.V_mono (ok' := (fun k_ => ((fun k_ => (w.heap.size ≤ k_))) k_ ∧ some k_ ≠ (u7 : Value).ownBlock)) (HO187.out) (fun k_ hk => ⟨hk.1, hk.2⟩))).2.1 (Kd.V_F (Kd.V_mono (ok' := (fun k_ => ((fun k_ => (w.heap.size ≤ k_))) k_ ∧ some k_ ≠ (u7 : Value).ownBlock)) (Kd.V_drewN HO187.out _) (fun k_ hk => ⟨hk.1, hk.2⟩))))); (case aB => exact (zm HB)); (case aF => exact (fun k_ hk => (Nat.le_trans (below_size (zm HB)) hk))); (case aO => exact (by (with_reducible repeat (first | apply Kd.N_alloc | apply Kd.N_drewN | apply Kd.N_drew)); exact HO_7.out)); (case aS => exact (below_size (zm HB))); (case aL => have := LMc11.out; omega); intro v189 w14 ho hb hg hat; rw [← Ny188.out] at ho; have HO190 := za (ho); replace HO_6 := za (Kd.R_over' (by (with_reducible repeat (first | apply Kd.R_alloc | apply Kd.R_drewN | apply Kd.R_drew)); exact HO_6.out) (Kd.N_typed (by (with_reducible repeat (first | apply Kd.N_alloc | apply Kd.N_drewN | apply Kd.N_drew)); exact HO_7.out)) (by decide) hg); replace HO187 := za (Kd.V_afterv (ok := (fun k_ => (w.heap.size ≤ k_))) (by (with_reducible repeat (first | apply Kd.V_alloc | apply Kd.V_drewN | apply Kd.V_drew)); exact HO187.out) hg hat); replace HB := za (hb); clear HO_7 ho hb hg hat))
          go_roundg k1
          case measure => have := HK1.out; omega
          case rel => exact ⟨(y188), (wrap64 (x20_1 + 1)), (wrap64 (x20_1 + 1)), (by first | rfl | (simp; done) | (simp [*]; done)), (by first | rfl | (simp; done) | (simp [*]; done)), H', ⟨by have := HK1.out; omega⟩, ⟨by (with_reducible repeat (first | apply Kd.R_alloc | apply Kd.R_drewN | apply Kd.R_drew)); exact HO_6.out⟩, ⟨by (with_reducible repeat (first | apply Kd.N_alloc | apply Kd.N_drewN | apply Kd.N_drew)); exact HO190.out⟩, ⟨zm HB⟩⟩
         ·rw [if_neg c11] at H
          exact absurd H (by simp)
        ·rw [if_neg c10] at H
         exact absurd H (by simp)
       ·rw [if_neg c9] at H
        exact absurd H (by simp)
      ·rw [if_neg c8] at H
       exact absurd H (by simp)
     ·rw [if_neg c7] at H
      have c7b0 : ((wrap64 (x20_1 + 1)) == (l0.length : Int)) = false := beq_eq_false_iff_ne.mpr c7
      have c7b1 : ((wrap64 (x20_1 + 1)) != (l0.length : Int)) = true := bne_iff_ne.mpr c7
      obtain ⟨ji15, hji15⟩ : ∃ j_ : Int, (wrap64 (x20_1 + 1)) = j_ := ⟨_, rfl⟩
      replace H : (if 0 ≤ (ji15) then (if (ji15) < (l0.length : Int) then (if 0 ≤ x20_1 then (if x20_1 < (l0.length : Int) then (if ((rd_T46 l0 (ji15)).f0) = ((rd_T46 l0 x20_1).f0) then (bubble_Split.l0 k1 l0 t180 x7_1 x8_1 (l0.length : Int) ji15) else (if 0 ≤ x8_1 then (if x8_1 ≤ (ji15) then (if (ji15) ≤ (t180.length : Int) then (if x7_1.length < 5864062014805 then (bubble_Split.l0 k1 l0 t180 (x7_1 ++ [((t180.take ((ji15) : Int).toNat).drop (x8_1 : Int).toNat)]) ji15 (l0.length : Int) ji15) else (none)) else (none)) else (none)) else (none))) else (none)) else (none)) else (none)) else (none)) = some (r1, r2) := by first | (rw [hji15] at H; exact H) | (simp only [hji15] at H ⊢; exact H)
      (try rw [hji15] at c7b0)
      (try rw [hji15] at c7b1)
      have hji15w : (IntKind.i64.wrap (x20_1 + 1)) = ji15 := (i64_w _).trans hji15
      by_cases c16 : 0 ≤ (ji15)
      ·rw [if_pos c16] at H
       have c16b0 : decide (0 ≤ (ji15)) = true := decide_eq_true c16
       clear c16
       by_cases c17 : (ji15) < (l0.length : Int)
       ·rw [if_pos c17] at H
        have c17b0 : decide ((ji15) < (l0.length : Int)) = true := decide_eq_true c17
        clear c17
        by_cases c18 : 0 ≤ x20_1
        ·rw [if_pos c18] at H
         have c18b0 : decide (0 ≤ x20_1) = true := decide_eq_true c18
         clear c18
         by_cases c19 : x20_1 < (l0.length : Int)
         ·rw [if_pos c19] at H
          have c19b0 : decide (x20_1 < (l0.length : Int)) = true := decide_eq_true c19
          clear c19
          by_cases c20 : ((rd_T46 l0 (ji15)).f0) = ((rd_T46 l0 x20_1).f0)
          ·rw [if_pos c20] at H
           have c20b0 : (((rd_T46 l0 (ji15)).f0) == ((rd_T46 l0 x20_1).f0)) = true := beq_iff_eq.mpr c20
           have c20b1 : (((rd_T46 l0 (ji15)).f0) != ((rd_T46 l0 x20_1).f0)) = false := bne_eq_false_iff_eq.mpr c20
           clear c20
           have H' := za H
           clear H
           have p191 : 0 ≤ ((ji15) : Int) := of_decide_eq_true (by first | (with_reducible assumption) | assumption)
           have q191 : (ji15) < (l0.length : Int) := of_decide_eq_true (by first | (with_reducible assumption) | assumption)
           obtain ⟨ad191, e191, hx191_0, hx191_1⟩ := at_T46 HR0.out (ji15) p191 q191
           cases e191
           replace hx191_0 := zx HB hx191_0
           replace hx191_1 := zx HB hx191_1
           replace p191 := eq_true p191
           replace q191 := eq_true q191
           have p192 : 0 ≤ (x20_1 : Int) := of_decide_eq_true (by first | (with_reducible assumption) | assumption)
           have q192 : x20_1 < (l0.length : Int) := of_decide_eq_true (by first | (with_reducible assumption) | assumption)
           obtain ⟨ad192, e192, hx192_0, hx192_1⟩ := at_T46 HR0.out x20_1 p192 q192
           obtain rfl : ad191 = ad192 := (by injection e192)
           replace hx192_0 := zx HB hx192_0
           replace hx192_1 := zx HB hx192_1
           replace p192 := eq_true p192
           replace q192 := eq_true q192
           go_wp2
           repeat (go_quiet (fail); try go_wp2)
           go_roundg k1
           case measure => have := HK1.out; omega
           case rel => exact ⟨(x7_1), (x8_1), (ji15), (by first | rfl | (simp; done) | (simp [*]; done)), (by first | rfl | (simp; done) | (simp only [← hji15] <;> (first | rfl | simp)) | (simp [*]; done)), H', ⟨by have := HK1.out; omega⟩, ⟨by (with_reducible repeat (first | apply Kd.R_alloc | apply Kd.R_drewN | apply Kd.R_drew)); exact HO_6.out⟩, ⟨by (with_reducible repeat (first | apply Kd.N_alloc | apply Kd.N_drewN | apply Kd.N_drew)); exact HO_7.out⟩, ⟨zm HB⟩⟩
          ·rw [if_neg c20] at H
           have c20b0 : (((rd_T46 l0 (ji15)).f0) == ((rd_T46 l0 x20_1).f0)) = false := beq_eq_false_iff_ne.mpr c20
           have c20b1 : (((rd_T46 l0 (ji15)).f0) != ((rd_T46 l0 x20_1).f0)) = true := bne_iff_ne.mpr c20
           by_cases c21 : 0 ≤ x8_1
           ·rw [if_pos c21] at H
            have c21b0 := eq_true c21
            have c21b1 : decide (0 ≤ x8_1) = true := decide_eq_true c21
            clear c21
            by_cases c22 : x8_1 ≤ (ji15)
            ·rw [if_pos c22] at H
             have c22b0 := eq_true c22
             have c22b1 : decide (x8_1 ≤ (ji15)) = true := decide_eq_true c22
             clear c22
             by_cases c23 : (ji15) ≤ (t180.length : Int)
             ·rw [if_pos c23] at H
              have c23b0 := eq_true c23
              have c23b1 : decide ((ji15) ≤ (t180.length : Int)) = true := decide_eq_true c23
              clear c23
              obtain ⟨y193, hy193⟩ : ∃ y_ : List Int, y_ = ((t180.take ((ji15) : Int).toNat).drop (x8_1 : Int).toNat) := ⟨_, rfl⟩
              replace H : (if x7_1.length < 5864062014805 then (bubble_Split.l0 k1 l0 t180 (x7_1 ++ [y193]) ji15 (l0.length : Int) ji15) else (none)) = some (r1, r2) := by first | (rw [hy193]; with_reducible exact H) | (have H2_ := (Option.bind_some _ _).symm.trans H; rw [hy193]; with_reducible exact H2_) | (have H2_ := (Option.bind_some _ _).symm.trans H; with_reducible exact H2_) | with_reducible exact H | (rw [hy193]; exact H) | exact H
              have Ny193 := za hy193
              clear hy193
              by_cases c24 : x7_1.length < 5864062014805
              ·rw [if_pos c24] at H
               have LMc24 := za c24
               clear c24
               obtain ⟨y198, hy198⟩ : ∃ y_ : List (List Int), y_ = (x7_1 ++ [y193]) := ⟨_, rfl⟩
               replace H : (bubble_Split.l0 k1 l0 t180 y198 ji15 (l0.length : Int) ji15) = some (r1, r2) := by first | (rw [hy198]; with_reducible exact H) | (have H2_ := (Option.bind_some _ _).symm.trans H; rw [hy198]; with_reducible exact H2_) | (have H2_ := (Option.bind_some _ _).symm.trans H; with_reducible exact H2_) | with_reducible exact H | (rw [hy198]; exact H) | exact H
               have Ny198 := za hy198
               clear hy198
               have H' := za H
               clear H
               have p191 : 0 ≤ ((ji15) : Int) := of_decide_eq_true (by first | (with_reducible assumption) | assumption)
               have q191 : (ji15) < (l0.length : Int) := of_decide_eq_true (by first | (with_reducible assumption) | assumption)
               obtain ⟨ad191, e191, hx191_0, hx191_1⟩ := at_T46 HR0.out (ji15) p191 q191
               cases e191
               replace hx191_0 := zx HB hx191_0
               replace hx191_1 := zx HB hx191_1
               replace p191 := eq_true p191
               replace q191 := eq_true q191
               have p192 : 0 ≤ (x20_1 : Int) := of_decide_eq_true (by first | (with_reducible assumption) | assumption)
               have q192 : x20_1 < (l0.length : Int) := of_decide_eq_true (by first | (with_reducible assumption) | assumption)
               obtain ⟨ad192, e192, hx192_0, hx192_1⟩ := at_T46 HR0.out x20_1 p192 q192
               obtain rfl : ad191 = ad192 := (by injection e192)
               replace hx192_0 := zx HB hx192_0
               replace hx192_1 := zx HB hx192_1
               replace p192 := eq_true p192
               replace q192 := eq_true q192
               obtain ⟨Ao26, co26, eo26⟩ := Kd.R_slice HO_6.out
               subst eo26
               have q25 : ((ji15) : Int) ≤ ((t180.length : Int) : Int) := of_decide_eq_true (by first | (with_reducible assumption) | assumption)
               obtain ⟨i025, hi025, _, hsz25, _⟩ := info_parts info3
               have hroom25 : t180.length ≤ co26 := (Kd.R_reads' HO_6.out).2.1
               have hC25 : Kd.F (Kd.int .i64) _ _ Ao26 t180.length t180 := (Kd.V_at (base := w.heap.size) (Kd.R_V (Kd.R_apart' (HO_6.out) (Kd.N_typed HO_7.out) (by decide)))).2.2
               have ql25 : (x8_1 : Int) ≤ ((ji15) : Int) := of_decide_eq_true (by first | (with_reducible assumption) | assumption)
               have q025 : (0 : Int) ≤ (x8_1 : Int) := of_decide_eq_true (by first | (with_reducible assumption) | assumption)
               have hcut25 := clip_mid (P := Try.prog) 28 3 .i64 .i64 .i64 Try.underlying28 hi025 1 hsz25 Ao26 t180.length co26 x8_1 (ji15) q025 ql25 q25 hroom25
               have hr25 := Kd.F_clip (lo := (x8_1 : Int).toNat) (hi := ((ji15) : Int).toNat) hC25 (by omega) (by omega)
               obtain ⟨A25, hA25⟩ : ∃ A1, A1 = (if ((ji15) : Int).toNat = (x8_1 : Int).toNat then Ao26 else (Ao26 : Option Addr).map (·.add ((x8_1 : Int).toNat * 1))) := ⟨_, rfl⟩
               have hy25 : y193.length = ((ji15) : Int).toNat - (x8_1 : Int).toNat := (by rw [Ny193.out, List.length_drop, List.length_take] <;> omega)
               rw [show ((t180).take ((ji15) : Int).toNat).drop (x8_1 : Int).toNat = y193 from Ny193.out.symm] at hr25
               replace hr25 : Kd.F (Kd.int .i64) _ _ A25 y193.length y193 := (by rw [hA25]; exact hr25)
               rw [← hy25, ← hA25] at hcut25
               have HO197 := za (show Kd.V (Kd.int .i64) 3 _ w.heap.size _ (.slice A25 y193.length y193.length) y193 from Kd.V_mk (Nat.le_refl _) hr25)
               have HC197 := za (Nat.le_refl y193.length)
               clear hr25 hC25 hroom25 hi025 hsz25
               have KY25 := za hy25
               have KA25 := za hA25
               clear hy25 hA25
               replace q25 := eq_true q25
               go_wp2_with (first | ((with_reducible refine gate_builtin (b := .append) (xs := #[.tmp 42, .tmp 48]) rfl ?_); at_builtin; refine Kd.N_append (Kd.slice 3 (Kd.int .i64)) (w0 := w) w.heap.size rfl (.tmp 42) (.tmp 48) 47 28 (.slice none 0 0) 24 rfl Try.underlying47 info28 rfl (by decide) (by omega) u7 x7_1 y193 [.slice A25 y193.length y193.length] (fun k_ => (w.heap.size ≤ k_)) (fun k_ => ((fun k_ => (w.heap.size ≤ k_))) k_ ∧ some k_ ≠ (u7 : Value).ownBlock) rfl rfl ?aP (fun _ hk => hk) ?aF ?aO ?aB ?aS ?aL ?_; (case aP => exact (Kd.FK_slice_mk (Kd.V_reads' (Kd.V_mono (ok' := (fun k_ => ((fun k_ => (w.heap.size ≤ k_))) k_ ∧ some k_ ≠ (u7 : Value).ownBlock)) (HO197.out) (fun k_ hk => ⟨hk.1, hk.2⟩))).2.1 (Kd.V_F (Kd.V_mono (ok' := (fun k_ => ((fun k_ => (w.heap.size ≤ k_))) k_ ∧ some k_ ≠ (u7 : Value).ownBlock)) (HO197.out) (fun k_ hk => ⟨hk.1, hk.2⟩))))); (case aB => exact (zm HB)); (case aF => exact (fun k_ hk => (Nat.le_trans (below_size (zm HB)) hk))); (case aO => exact (by (with_reducible repeat (first | apply Kd.N_alloc | apply Kd.N_drewN | apply Kd.N_drew)); exact HO_7.out)); (case aS => exact (below_size (zm HB))); (case aL => have := LMc24.out; omega); intro v199 w27 ho hb hg hat; rw [← Ny198.out] at ho; have HO200 := za (ho); replace HO_6 := za (Kd.R_over' (by (with_reducible repeat (first | apply Kd.R_alloc | apply Kd.R_drewN | apply Kd.R_drew)); exact HO_6.out) (Kd.N_typed (by (with_reducible repeat (first | apply Kd.N_alloc | apply Kd.N_drewN | apply Kd.N_drew)); exact HO_7.out)) (by decide) hg); replace HO197 := za (Kd.V_afterv (ok := (fun k_ => (w.heap.size ≤ k_))) (by (with_reducible repeat (first | apply Kd.V_alloc | apply Kd.V_drewN | apply Kd.V_drew)); exact HO197.out) hg hat); replace HB := za (hb); clear HO_7 ho hb hg hat))
               go_quiet (fail)
               go_wp2_with (first | ((with_reducible refine gate_builtin (b := .append) (xs := #[.tmp 42, .tmp 48]) rfl ?_); at_builtin; refine Kd.N_append (Kd.slice 3 (Kd.int .i64)) (w0 := w) w.heap.size rfl (.tmp 42) (.tmp 48) 47 28 (.slice none 0 0) 24 rfl Try.underlying47 info28 rfl (by decide) (by omega) u7 x7_1 y193 [.slice A25 y193.length y193.length] (fun k_ => (w.heap.size ≤ k_)) (fun k_ => ((fun k_ => (w.heap.size ≤ k_))) k_ ∧ some k_ ≠ (u7 : Value).ownBlock) rfl rfl ?aP (fun _ hk => hk) ?aF ?aO ?aB ?aS ?aL ?_; (case aP => exact (Kd.FK_slice_mk (Kd.V_reads' (Kd.V_mono (ok' := (fun k_ => ((fun k_ => (w.heap.size ≤ k_))) k_ ∧ some k_ ≠ (u7 : Value).ownBlock)) (HO197.out) (fun k_ hk => ⟨hk.1, hk.2⟩))).2.1 (Kd.V_F (Kd.V_mono (ok' := (fun k_ => ((fun k_ => (w.heap.size ≤ k_))) k_ ∧ some k_ ≠ (u7 : Value).ownBlock)) (Kd.V_drewN HO197.out _) (fun k_ hk => ⟨hk.1, hk.2⟩))))); (case aB => exact (zm HB)); (case aF => exact (fun k_ hk => (Nat.le_trans (below_size (zm HB)) hk))); (case aO => exact (by (with_reducible repeat (first | apply Kd.N_alloc | apply Kd.N_drewN | apply Kd.N_drew)); exact HO_7.out)); (case aS => exact (below_size (zm HB))); (case aL => have := LMc24.out; omega); intro v199 w27 ho hb hg hat; rw [← Ny198.out] at ho; have HO200 := za (ho); replace HO_6 := za (Kd.R_over' (by (with_reducible repeat (first | apply Kd.R_alloc | apply Kd.R_drewN | apply Kd.R_drew)); exact HO_6.out) (Kd.N_typed (by (with_reducible repeat (first | apply Kd.N_alloc | apply Kd.N_drewN | apply Kd.N_drew)); exact HO_7.out)) (by decide) hg); replace HO197 := za (Kd.V_afterv (ok := (fun k_ => (w.heap.size ≤ k_))) (by (with_reducible repeat (first | apply Kd.V_alloc | apply Kd.V_drewN | apply Kd.V_drew)); exact HO197.out) hg hat); replace HB := za (hb); clear HO_7 ho hb hg hat))
               go_roundg k1
               case measure => have := HK1.out; omega
               case rel => exact ⟨(y198), (ji15), (ji15), (by first | rfl | (simp; done) | (simp only [← hji15] <;> (first | rfl | simp)) | (simp [*]; done)), (by first | rfl | (simp; done) | (simp only [← hji15] <;> (first | rfl | simp)) | (simp [*]; done)), H', ⟨by have := HK1.out; omega⟩, ⟨by (with_reducible repeat (first | apply Kd.R_alloc | apply Kd.R_drewN | apply Kd.R_drew)); exact HO_6.out⟩, ⟨by (with_reducible repeat (first | apply Kd.N_alloc | apply Kd.N_drewN | apply Kd.N_drew)); exact HO200.out⟩, ⟨zm HB⟩⟩
              ·rw [if_neg c24] at H
               exact absurd H (by simp)
             ·rw [if_neg c23] at H
              exact absurd H (by simp)
            ·rw [if_neg c22] at H
             exact absurd H (by simp)
           ·rw [if_neg c21] at H
            exact absurd H (by simp)
         ·rw [if_neg c19] at H
          exact absurd H (by simp)
        ·rw [if_neg c18] at H
         exact absurd H (by simp)
       ·rw [if_neg c17] at H
        exact absurd H (by simp)
      ·rw [if_neg c16] at H
       exact absurd H (by simp)
    ·rw [if_neg c6] at H
     have c6b0 : decide (x20_1 < (l0.length : Int)) = false := decide_eq_false c6
     clear c6
     simp only [Option.some.injEq, Prod.mk.injEq] at H
     obtain ⟨rfl, rfl⟩ := H
     go_wp2
     repeat (go_quiet (fail); try go_wp2)
     go_ret2
     exact ⟨_, zf, by (with_reducible repeat (first | apply Kd.N_alloc | apply Kd.N_drewN | apply Kd.N_drew)); exact HO_7.out, zm HB⟩
 ·rw [if_neg c3] at H
  have c3b0 : ((l0.length : Int) == (l1.length : Int)) = false := beq_eq_false_iff_ne.mpr c3
  have c3b1 : ((l0.length : Int) != (l1.length : Int)) = true := bne_iff_ne.mpr c3
  have c3b2 : (l0.length == l1.length) = false := by first | simpa using c3 | (simp at c3 ⊢; omega)
  simp only [Option.some.injEq, Prod.mk.injEq] at H
  obtain ⟨rfl, rfl⟩ := H
  go_enter Try.func25, Try.ntmps25
  go_wp2
  repeat (go_quiet (fail); try go_wp2)
  go_ret2
  exact ⟨_, zf, by first | exact Kd.S_nil _ _ _ _ _ | exact Kd.N_nil _ _ _ _ _ | exact Kd.V_nil _ _ _ _ _ | exact Kd.Q_nil _ _ _ _ _ | exact Kd.R_nil _ _ _ _ _, zm HB⟩

/-! ### item_in: function 61 -/
def item_in.f (a0 : Int) (a1 : Int) (a2 : Int) : Option (Bool) := if a0 ≥ a1 then (some (decide (a0 ≤ a2))) else (some false)
set_option maxHeartbeats 8000000 in
set_option maxRecDepth 100000 in
theorem item_in.calls (a0 : Int) (a1 : Int) (a2 : Int) (r : Bool) (w : World) (h : item_in.f a0 a1 a2 = some r) :
    Calls Try.prog 61 #[.int .i64 a0, .int .i64 a1, .int .i64 a2] w fun e w' => e = .returned (.bool r) ∧ Drawn0 w w' := by
 have H : (if a0 ≥ a1 then (some (decide (a0 ≤ a2))) else (some false)) = some r := h
 clear h
 by_cases c4 : a0 ≥ a1
 ·rw [if_pos c4] at H
  have c4b0 : decide (a1 ≤ a0) = true := decide_eq_true c4
  clear c4
  obtain rfl := Option.some.inj H
  go_enter Try.func61, Try.ntmps61
  go_wp2
  go_ret
  exact ⟨by first | rfl | (simp; done) | (simp [*]; done), by repeat (first | exact Drawn0.refl _ | apply Drawn0.step)⟩
 ·rw [if_neg c4] at H
  have c4b0 : decide (a1 ≤ a0) = false := decide_eq_false c4
  clear c4
  obtain rfl := Option.some.inj H
  go_enter Try.func61, Try.ntmps61
  go_wp2
  go_ret
  exact ⟨by first | rfl | (simp; done) | (simp [*]; done), by repeat (first | exact Drawn0.refl _ | apply Drawn0.step)⟩

-- NOT PRINTED: function 67 (api_Part_67)

-- NOT PRINTED: function 62 (api_Part_62)

/-! ### item_ValidPart: function 66 -/
def item_ValidPart.j0 : Nat → Bool → Int → Int → Int → Int → Int → Int → Option (Bool)
  | 0, _, _, _, _, _, _, _ => none
  | k + 1, x18, x202000, x202001, x202002, x202003, x202004, x202005 => if x18 = true then (some false) else (if x202000 = 1 then (if x202004 = 0 then (some (x202005 == 0)) else (some false)) else (if x202000 = 2 then ((item_in.f x202004 2 5).bind fun t205 => (if t205 = true then ((item_in.f x202005 0 (wrap64 (x202004 - 1))).bind fun t206 => (some t206)) else (some false))) else (some false)))
def item_ValidPart.f (k : Nat) (a0_0 : Int) (a0_1 : Int) (a0_2 : Int) (a0_3 : Int) (a0_4 : Int) (a0_5 : Int) : Option (Bool) := (item_in.f a0_1 1 40).bind fun t202 => (if t202 = true then ((item_in.f a0_2 0 15).bind fun t203 => (if t203 = true then ((item_in.f a0_3 0 5).bind fun t204 => (item_ValidPart.j0 k (!t204) a0_0 a0_1 a0_2 a0_3 a0_4 a0_5)) else (item_ValidPart.j0 k true a0_0 a0_1 a0_2 a0_3 a0_4 a0_5))) else (item_ValidPart.j0 k true a0_0 a0_1 a0_2 a0_3 a0_4 a0_5))
theorem item_ValidPart.mono_l : ∀ k, (∀ y0 y1 y2 y3 y4 y5 y6, LeO (item_ValidPart.j0 k y0 y1 y2 y3 y4 y5 y6) (item_ValidPart.j0 (k + 1) y0 y1 y2 y3 y4 y5 y6))
  | 0 => fun _ _ _ _ _ _ _ r h => by simp [item_ValidPart.j0] at h
  | k + 1 => by
    have ih0 := item_ValidPart.mono_l k
    · intro y0 y1 y2 y3 y4 y5 y6
      unfold item_ValidPart.j0
      repeat' first
      | (with_reducible exact ih0 _ _ _ _ _ _ _)
      | (with_reducible exact LeO.refl _)
      | (with_reducible exact LeO.none _)
      | (with_reducible refine LeO.ite ?_ ?_)
      | (with_reducible refine LeO.bind ?_ (fun _ => ?_))
      | exact ih0 _ _ _ _ _ _ _
      | exact LeO.none _
      | refine LeO.ite ?_ ?_
      | refine LeO.bind ?_ (fun _ => ?_)
theorem item_ValidPart.mono : ∀ a0 a1 a2 a3 a4 a5 k, LeO (item_ValidPart.f k a0 a1 a2 a3 a4 a5) (item_ValidPart.f (k + 1) a0 a1 a2 a3 a4 a5) := by
  intro a0 a1 a2 a3 a4 a5 k
  have ih0 := item_ValidPart.mono_l k
  unfold item_ValidPart.f
  repeat' first
      | (with_reducible exact ih0 _ _ _ _ _ _ _)
      | (with_reducible exact LeO.refl _)
      | (with_reducible exact LeO.none _)
      | (with_reducible refine LeO.ite ?_ ?_)
      | (with_reducible refine LeO.bind ?_ (fun _ => ?_))
      | exact ih0 _ _ _ _ _ _ _
      | exact LeO.none _
      | refine LeO.ite ?_ ?_
      | refine LeO.bind ?_ (fun _ => ?_)
set_option maxHeartbeats 8000000 in
set_option maxRecDepth 100000 in
theorem item_ValidPart.calls (k : Nat) (a0_0 : Int) (a0_1 : Int) (a0_2 : Int) (a0_3 : Int) (a0_4 : Int) (a0_5 : Int) (r : Bool) (w : World) (h : item_ValidPart.f k a0_0 a0_1 a0_2 a0_3 a0_4 a0_5 = some r) :
    Calls Try.prog 66 #[.agg #[.int .i64 a0_0, .int .i64 a0_1, .int .i64 a0_2, .int .i64 a0_3, .int .i64 a0_4, .int .i64 a0_5]] w fun e w' => e = .returned (.bool r) ∧ Below w.heap.size w w' := by
 have hu65 := Try.underlying65
 have HB := za (Below.refl w.heap.size w)
 have H : ((item_in.f a0_1 1 40).bind fun t202 => (if t202 = true then ((item_in.f a0_2 0 15).bind fun t203 => (if t203 = true then ((item_in.f a0_3 0 5).bind fun t204 => (item_ValidPart.j0 k (!t204) a0_0 a0_1 a0_2 a0_3 a0_4 a0_5)) else (item_ValidPart.j0 k true a0_0 a0_1 a0_2 a0_3 a0_4 a0_5))) else (item_ValidPart.j0 k true a0_0 a0_1 a0_2 a0_3 a0_4 a0_5))) = some r := h
 clear h
 have HC2 := za H
 clear H
 go_enter Try.func66, Try.ntmps66
 go_upto_region 1 with (first | ((with_reducible refine gate_dst (N := 1) rfl ?_); refine zE 1 #[.int .i64 a0_0, .int .i64 a0_1, .int .i64 a0_2, .int .i64 a0_3, .int .i64 a0_4, .int .i64 a0_5] 65 ?_; intro gb201 hg w3 hbox hb; have BK201 := za (hbox); have GW201 := zg HB hg; have GE201 := zg HB hg; replace HB := zs HB hb; clear hb hbox hg))
 (try simp only [Act.put, List.setIfInBounds_toArray, List.set_cons_zero, List.set_cons_succ])
 go_cut [18] (fun v18 wc => ∃ (kq : Nat) (x18_1 : Bool), v18 = .bool x18_1 ∧ Aside0 (item_ValidPart.j0 kq x18_1 a0_0 a0_1 a0_2 a0_3 a0_4 a0_5 = some r) ∧ Aside0 (kq ≤ k) ∧ Aside0 (wc.heap[gb201]? = some (.cells #[.int .i64 a0_0, .int .i64 a0_1, .int .i64 a0_2, .int .i64 a0_3, .int .i64 a0_4, .int .i64 a0_5] 65 (0, 0))) ∧ Aside0 (Below w.heap.size w wc))
 case first =>
  have H := HC2.out
  clear HC2
  replace H := Option.bind_eq_some_iff.mp H
  obtain ⟨t202, A40, H⟩ := H
  replace H : (if t202 = true then ((item_in.f a0_2 0 15).bind fun t203 => (if t203 = true then ((item_in.f a0_3 0 5).bind fun t204 => (item_ValidPart.j0 k (!t204) a0_0 a0_1 a0_2 a0_3 a0_4 a0_5)) else (item_ValidPart.j0 k true a0_0 a0_1 a0_2 a0_3 a0_4 a0_5))) else (item_ValidPart.j0 k true a0_0 a0_1 a0_2 a0_3 a0_4 a0_5)) = some r := H
  have A4 := za A40
  clear A40
  by_cases c5 : t202 = true
  ·subst c5
   have H1 : ((item_in.f a0_2 0 15).bind fun t203 => (if t203 = true then ((item_in.f a0_3 0 5).bind fun t204 => (item_ValidPart.j0 k (!t204) a0_0 a0_1 a0_2 a0_3 a0_4 a0_5)) else (item_ValidPart.j0 k true a0_0 a0_1 a0_2 a0_3 a0_4 a0_5))) = some r := by rw [if_pos rfl] at H; exact H
   clear H
   have H := H1
   clear H1
   replace H := Option.bind_eq_some_iff.mp H
   obtain ⟨t203, A60, H⟩ := H
   replace H : (if t203 = true then ((item_in.f a0_3 0 5).bind fun t204 => (item_ValidPart.j0 k (!t204) a0_0 a0_1 a0_2 a0_3 a0_4 a0_5)) else (item_ValidPart.j0 k true a0_0 a0_1 a0_2 a0_3 a0_4 a0_5)) = some r := H
   have A6 := za A60
   clear A60
   by_cases c7 : t203 = true
   ·subst c7
    have H1 : ((item_in.f a0_3 0 5).bind fun t204 => (item_ValidPart.j0 k (!t204) a0_0 a0_1 a0_2 a0_3 a0_4 a0_5)) = some r := by rw [if_pos rfl] at H; exact H
    clear H
    have H := H1
    clear H1
    replace H := Option.bind_eq_some_iff.mp H
    obtain ⟨t204, A80, H⟩ := H
    replace H : (item_ValidPart.j0 k (!t204) a0_0 a0_1 a0_2 a0_3 a0_4 a0_5) = some r := H
    have A8 := za A80
    clear A80
    have H' := za H
    clear H
    obtain ⟨hcz9_0, hcz9_1, hcz9_2, hcz9_3, hcz9_4, hcz9_5, hfz9_0, hfz9_1, hfz9_2, hfz9_3, hfz9_4, hfz9_5⟩ := z6 BK201
    go_wp2_with (first | ((with_reducible refine gate_callee (f := 61) rfl ?_); refine zL (some 5) Try.func61 #[.int .i64 a0_1, .int .i64 1, .int .i64 40] ?_; (with_reducible refine (item_in.calls a0_1 1 40 true _ A4.out).mono ?_); rintro e w' ⟨rfl, ⟨nd, rfl⟩⟩; refine ⟨_, rfl, ?_⟩) | (go_at_call 61; (with_reducible refine (item_in.calls a0_2 0 15 true _ A6.out).mono ?_); rintro e w' ⟨rfl, ⟨nd, rfl⟩⟩) | (go_at_call 61; (with_reducible refine (item_in.calls a0_3 0 5 t204 _ A8.out).mono ?_); rintro e w' ⟨rfl, ⟨nd, rfl⟩⟩))
    go_meet
    case rel => exact ⟨_, (!t204), (by first | rfl | (simp; done) | (simp [*]; done)), H', ⟨by first | omega | exact Nat.le_refl _⟩, ⟨by (with_reducible repeat (first | refine blk_drewN ?_ _ | refine blk_drew ?_ | refine blk_alloc ?_ _)); exact BK201.out⟩, ⟨zm HB⟩⟩
   ·replace c7 := Bool.eq_false_iff.mpr c7
    subst c7
    have H1 : (item_ValidPart.j0 k true a0_0 a0_1 a0_2 a0_3 a0_4 a0_5) = some r := by rw [if_neg (show ¬ (false = true) by decide)] at H; exact H
    clear H
    have H := H1
    clear H1
    have H' := za H
    clear H
    obtain ⟨hcz10_0, hcz10_1, hcz10_2, hcz10_3, hcz10_4, hcz10_5, hfz10_0, hfz10_1, hfz10_2, hfz10_3, hfz10_4, hfz10_5⟩ := z6 BK201
    go_wp2_with (first | ((with_reducible refine gate_callee (f := 61) rfl ?_); refine zL (some 5) Try.func61 #[.int .i64 a0_1, .int .i64 1, .int .i64 40] ?_; (with_reducible refine (item_in.calls a0_1 1 40 true _ A4.out).mono ?_); rintro e w' ⟨rfl, ⟨nd, rfl⟩⟩; refine ⟨_, rfl, ?_⟩) | (go_at_call 61; (with_reducible refine (item_in.calls a0_2 0 15 false _ A6.out).mono ?_); rintro e w' ⟨rfl, ⟨nd, rfl⟩⟩))
    go_meet
    case rel => exact ⟨_, (true), (by first | rfl | (simp; done) | (simp [*]; done)), H', ⟨by first | omega | exact Nat.le_refl _⟩, ⟨by (with_reducible repeat (first | refine blk_drewN ?_ _ | refine blk_drew ?_ | refine blk_alloc ?_ _)); exact BK201.out⟩, ⟨zm HB⟩⟩
  ·replace c5 := Bool.eq_false_iff.mpr c5
   subst c5
   have H1 : (item_ValidPart.j0 k true a0_0 a0_1 a0_2 a0_3 a0_4 a0_5) = some r := by rw [if_neg (show ¬ (false = true) by decide)] at H; exact H
   clear H
   have H := H1
   clear H1
   have H' := za H
   clear H
   obtain ⟨hcz11_0, hcz11_1, hcz11_2, hcz11_3, hcz11_4, hcz11_5, hfz11_0, hfz11_1, hfz11_2, hfz11_3, hfz11_4, hfz11_5⟩ := z6 BK201
   go_wp2_with (first | ((with_reducible refine gate_callee (f := 61) rfl ?_); refine zL (some 5) Try.func61 #[.int .i64 a0_1, .int .i64 1, .int .i64 40] ?_; (with_reducible refine (item_in.calls a0_1 1 40 false _ A4.out).mono ?_); rintro e w' ⟨rfl, ⟨nd, rfl⟩⟩; refine ⟨_, rfl, ?_⟩))
   go_meet
   case rel => exact ⟨_, (true), (by first | rfl | (simp; done) | (simp [*]; done)), H', ⟨by first | omega | exact Nat.le_refl _⟩, ⟨by (with_reducible repeat (first | refine blk_drewN ?_ _ | refine blk_drew ?_ | refine blk_alloc ?_ _)); exact BK201.out⟩, ⟨zm HB⟩⟩
 case rest =>
  clear HC2
  try clear p2
  try clear c5
  try clear c6
  try clear c7
  try clear hcz10_0
  try clear hcz10_1
  try clear hcz10_2
  try clear hcz10_3
  try clear hcz10_4
  try clear hcz10_5
  try clear hcz11_0
  try clear hcz11_1
  try clear hcz11_2
  try clear hcz11_3
  try clear hcz11_4
  try clear hcz11_5
  try clear hcz9_0
  try clear hcz9_1
  try clear hcz9_2
  try clear hcz9_3
  try clear hcz9_4
  try clear hcz9_5
  try clear hfz10_0
  try clear hfz10_1
  try clear hfz10_2
  try clear hfz10_3
  try clear hfz10_4
  try clear hfz10_5
  try clear hfz11_0
  try clear hfz11_1
  try clear hfz11_2
  try clear hfz11_3
  try clear hfz11_4
  try clear hfz11_5
  try clear hfz9_0
  try clear hfz9_1
  try clear hfz9_2
  try clear hfz9_3
  try clear hfz9_4
  try clear hfz9_5
  obtain ⟨kq, x18_1, rfl, HA, HJ1, BK201, HB⟩ := hcut
  cases kq with
  | zero => exact absurd HA.out (by simp [item_ValidPart.j0])
  | succ kj1 =>
   have H := HA.out
   clear HA
   simp only [item_ValidPart.j0] at H
   by_cases c12 : x18_1 = true
   ·subst c12
    have H1 : (some false) = some r := by rw [if_pos rfl] at H; exact H
    clear H
    have H := H1
    clear H1
    obtain rfl := Option.some.inj H
    go_wp2
    go_ret
    exact ⟨zf, zm HB⟩
   ·replace c12 := Bool.eq_false_iff.mpr c12
    subst c12
    have H1 : (if a0_0 = 1 then (if a0_4 = 0 then (some (a0_5 == 0)) else (some false)) else (if a0_0 = 2 then ((item_in.f a0_4 2 5).bind fun t205 => (if t205 = true then ((item_in.f a0_5 0 (wrap64 (a0_4 - 1))).bind fun t206 => (some t206)) else (some false))) else (some false))) = some r := by rw [if_neg (show ¬ (false = true) by decide)] at H; exact H
    clear H
    have H := H1
    clear H1
    by_cases c13 : a0_0 = 1
    ·rw [if_pos c13] at H
     have c13b0 : (a0_0 == 1) = true := beq_iff_eq.mpr c13
     have c13b1 : (a0_0 != 1) = false := bne_eq_false_iff_eq.mpr c13
     clear c13
     by_cases c14 : a0_4 = 0
     ·rw [if_pos c14] at H
      have c14b0 : (a0_4 == 0) = true := beq_iff_eq.mpr c14
      have c14b1 : (a0_4 != 0) = false := bne_eq_false_iff_eq.mpr c14
      clear c14
      obtain rfl := Option.some.inj H
      obtain ⟨hcz15_0, hcz15_1, hcz15_2, hcz15_3, hcz15_4, hcz15_5, hfz15_0, hfz15_1, hfz15_2, hfz15_3, hfz15_4, hfz15_5⟩ := z6 BK201
      go_wp2
      go_ret
      exact ⟨zf, zm HB⟩
     ·rw [if_neg c14] at H
      have c14b0 : (a0_4 == 0) = false := beq_eq_false_iff_ne.mpr c14
      have c14b1 : (a0_4 != 0) = true := bne_iff_ne.mpr c14
      obtain rfl := Option.some.inj H
      obtain ⟨hcz16_0, hcz16_1, hcz16_2, hcz16_3, hcz16_4, hcz16_5, hfz16_0, hfz16_1, hfz16_2, hfz16_3, hfz16_4, hfz16_5⟩ := z6 BK201
      go_wp2
      go_ret
      exact ⟨zf, zm HB⟩
    ·rw [if_neg c13] at H
     have c13b0 : (a0_0 == 1) = false := beq_eq_false_iff_ne.mpr c13
     have c13b1 : (a0_0 != 1) = true := bne_iff_ne.mpr c13
     by_cases c17 : a0_0 = 2
     ·rw [if_pos c17] at H
      have c17b0 : (a0_0 == 2) = true := beq_iff_eq.mpr c17
      have c17b1 : (a0_0 != 2) = false := bne_eq_false_iff_eq.mpr c17
      clear c17
      replace H := Option.bind_eq_some_iff.mp H
      obtain ⟨t205, A180, H⟩ := H
      replace H : (if t205 = true then ((item_in.f a0_5 0 (wrap64 (a0_4 - 1))).bind fun t206 => (some t206)) else (some false)) = some r := H
      have A18 := za A180
      clear A180
      by_cases c19 : t205 = true
      ·subst c19
       have H1 : ((item_in.f a0_5 0 (wrap64 (a0_4 - 1))).bind fun t206 => (some t206)) = some r := by rw [if_pos rfl] at H; exact H
       clear H
       have H := H1
       clear H1
       replace H := Option.bind_eq_some_iff.mp H
       obtain ⟨t206, A200, H⟩ := H
       replace H : (some t206) = some r := H
       have A20 := za A200
       clear A200
       obtain rfl := Option.some.inj H
       obtain ⟨hcz21_0, hcz21_1, hcz21_2, hcz21_3, hcz21_4, hcz21_5, hfz21_0, hfz21_1, hfz21_2, hfz21_3, hfz21_4, hfz21_5⟩ := z6 BK201
       go_wp2_with (first | ((with_reducible refine gate_callee (f := 61) rfl ?_); refine zL (some 35) Try.func61 #[.int .i64 a0_4, .int .i64 2, .int .i64 5] ?_; (with_reducible refine (item_in.calls a0_4 2 5 true _ A18.out).mono ?_); rintro e w' ⟨rfl, ⟨nd, rfl⟩⟩; refine ⟨_, rfl, ?_⟩) | (go_at_call 61; (with_reducible refine (item_in.calls a0_5 0 (wrap64 (a0_4 - 1)) t206 _ A20.out).mono ?_); rintro e w' ⟨rfl, ⟨nd, rfl⟩⟩))
       go_ret
       exact ⟨zf, zm HB⟩
      ·replace c19 := Bool.eq_false_iff.mpr c19
       subst c19
       have H1 : (some false) = some r := by rw [if_neg (show ¬ (false = true) by decide)] at H; exact H
       clear H
       have H := H1
       clear H1
       obtain rfl := Option.some.inj H
       obtain ⟨hcz22_0, hcz22_1, hcz22_2, hcz22_3, hcz22_4, hcz22_5, hfz22_0, hfz22_1, hfz22_2, hfz22_3, hfz22_4, hfz22_5⟩ := z6 BK201
       go_wp2_with (first | ((with_reducible refine gate_callee (f := 61) rfl ?_); refine zL (some 35) Try.func61 #[.int .i64 a0_4, .int .i64 2, .int .i64 5] ?_; (with_reducible refine (item_in.calls a0_4 2 5 false _ A18.out).mono ?_); rintro e w' ⟨rfl, ⟨nd, rfl⟩⟩; refine ⟨_, rfl, ?_⟩))
       go_ret
       exact ⟨zf, zm HB⟩
     ·rw [if_neg c17] at H
      have c17b0 : (a0_0 == 2) = false := beq_eq_false_iff_ne.mpr c17
      have c17b1 : (a0_0 != 2) = true := bne_iff_ne.mpr c17
      obtain rfl := Option.some.inj H
      obtain ⟨hcz23_0, hcz23_1, hcz23_2, hcz23_3, hcz23_4, hcz23_5, hfz23_0, hfz23_1, hfz23_2, hfz23_3, hfz23_4, hfz23_5⟩ := z6 BK201
      go_wp2
      go_ret
      exact ⟨zf, zm HB⟩

/-! ### item_bad: function 63 -/
def item_bad.f (k : Nat) (a0_0 : Int) (a0_1 : Int) (a0_2 : Int) (a0_3 : Int) (a0_4 : Int) (a0_5 : Int) : Option (Bool) := (item_ValidPart.f k a0_0 a0_1 a0_2 a0_3 a0_4 a0_5).bind fun t208 => (some (!t208))
theorem item_bad.mono : ∀ a0 a1 a2 a3 a4 a5 k, LeO (item_bad.f k a0 a1 a2 a3 a4 a5) (item_bad.f (k + 1) a0 a1 a2 a3 a4 a5) := by
  intro a0 a1 a2 a3 a4 a5 k
  unfold item_bad.f
  repeat' first
      | (with_reducible exact item_ValidPart.mono _ _ _ _ _ _ _)
      | (with_reducible exact LeO.refl _)
      | (with_reducible exact LeO.none _)
      | (with_reducible refine LeO.ite ?_ ?_)
      | (with_reducible refine LeO.bind ?_ (fun _ => ?_))
      | exact item_ValidPart.mono _ _ _ _ _ _ _
      | exact LeO.none _
      | refine LeO.ite ?_ ?_
      | refine LeO.bind ?_ (fun _ => ?_)
set_option maxHeartbeats 8000000 in
set_option maxRecDepth 100000 in
theorem item_bad.calls (k : Nat) (a0_0 : Int) (a0_1 : Int) (a0_2 : Int) (a0_3 : Int) (a0_4 : Int) (a0_5 : Int) (r : Bool) (w : World) (h : item_bad.f k a0_0 a0_1 a0_2 a0_3 a0_4 a0_5 = some r) :
    Calls Try.prog 63 #[.agg #[.int .i64 a0_0, .int .i64 a0_1, .int .i64 a0_2, .int .i64 a0_3, .int .i64 a0_4, .int .i64 a0_5]] w fun e w' => e = .returned (.bool r) ∧ Below w.heap.size w w' := by
 have hu65 := Try.underlying65
 have HB := za (Below.refl w.heap.size w)
 have H : ((item_ValidPart.f k a0_0 a0_1 a0_2 a0_3 a0_4 a0_5).bind fun t208 => (some (!t208))) = some r := h
 clear h
 replace H := Option.bind_eq_some_iff.mp H
 obtain ⟨t208, A20, H⟩ := H
 replace H : (some (!t208)) = some r := H
 have A2 := za A20
 clear A20
 obtain rfl := Option.some.inj H
 go_enter Try.func63, Try.ntmps63
 go_wp2_with (first | ((with_reducible refine gate_dst (N := 1) rfl ?_); refine zE 1 #[.int .i64 a0_0, .int .i64 a0_1, .int .i64 a0_2, .int .i64 a0_3, .int .i64 a0_4, .int .i64 a0_5] 65 ?_; intro gb207 hg w3 hbox hb; have BK207 := za (hbox); have GW207 := zg HB hg; have GE207 := zg HB hg; replace HB := zs HB hb; clear hb hbox hg; obtain ⟨hcz4_0, hcz4_1, hcz4_2, hcz4_3, hcz4_4, hcz4_5, hfz4_0, hfz4_1, hfz4_2, hfz4_3, hfz4_4, hfz4_5⟩ := z6 BK207) | ((with_reducible refine gate_callee (f := 66) rfl ?_); refine zL (some 4) Try.func66 #[.agg #[.int .i64 a0_0, .int .i64 a0_1, .int .i64 a0_2, .int .i64 a0_3, .int .i64 a0_4, .int .i64 a0_5]] ?_; (with_reducible refine (item_ValidPart.calls k a0_0 a0_1 a0_2 a0_3 a0_4 a0_5 t208 _ A2.out).mono ?_); rintro e w5 ⟨rfl, hb⟩; refine ⟨_, rfl, ?_⟩; replace BK207 := zb BK207 hb; replace HB := zs HB hb; (try clear hb); (try clear hb2); (try clear hk); (try clear hi)))
 go_ret
 exact ⟨zf, zm HB⟩

/-! ### item_sum: function 64 -/
def item_sum.l0 : Nat → Int → List (S65) → Int → Int → Option (Int)
  | 0, _, _, _, _ => none
  | k + 1, x3, x6, x7, x8 => if x8 < x7 then (if 0 ≤ x8 then (if x8 < (x6.length : Int) then (item_sum.l0 k (wrap64 (x3 + ((rd_T65 x6 x8).f1))) x6 x7 (wrap64 (x8 + 1))) else (none)) else (none)) else (some x3)
def item_sum.f (k : Nat) (l0 : List (S65)) : Option (Int) := item_sum.l0 k 0 l0 (l0.length : Int) 0
theorem item_sum.mono_l : ∀ k, (∀ y0 y1 y2 y3, LeO (item_sum.l0 k y0 y1 y2 y3) (item_sum.l0 (k + 1) y0 y1 y2 y3))
  | 0 => fun _ _ _ _ r h => by simp [item_sum.l0] at h
  | k + 1 => by
    have ih0 := item_sum.mono_l k
    · intro y0 y1 y2 y3
      unfold item_sum.l0
      repeat' first
      | (with_reducible exact ih0 _ _ _ _)
      | (with_reducible exact LeO.refl _)
      | (with_reducible exact LeO.none _)
      | (with_reducible refine LeO.ite ?_ ?_)
      | (with_reducible refine LeO.bind ?_ (fun _ => ?_))
      | exact ih0 _ _ _ _
      | exact LeO.none _
      | refine LeO.ite ?_ ?_
      | refine LeO.bind ?_ (fun _ => ?_)
theorem item_sum.mono : ∀ a0 k, LeO (item_sum.f k a0) (item_sum.f (k + 1) a0) := by
  intro a0 k
  have ih0 := item_sum.mono_l k
  unfold item_sum.f
  repeat' first
      | (with_reducible exact ih0 _ _ _ _)
      | (with_reducible exact LeO.refl _)
      | (with_reducible exact LeO.none _)
      | (with_reducible refine LeO.ite ?_ ?_)
      | (with_reducible refine LeO.bind ?_ (fun _ => ?_))
      | exact ih0 _ _ _ _
      | exact LeO.none _
      | refine LeO.ite ?_ ?_
      | refine LeO.bind ?_ (fun _ => ?_)
set_option maxHeartbeats 8000000 in
set_option maxRecDepth 100000 in
theorem item_sum.calls (k : Nat) (A0 : Option Addr) (c0 : Nat) (l0 : List (S65)) (r : Int) (w : World) (hr0 : Kd.C k65 w A0 l0.length l0) (hc0 : l0.length ≤ c0) (h : item_sum.f k l0 = some r) :
    Calls Try.prog 64 #[.slice A0 l0.length c0] w fun e w' => e = .returned (.int .i64 r) ∧ Below w.heap.size w w' := by
 have hu65 := Try.underlying65
 have HR0 := za hr0
 have HC0 := za hc0
 clear hr0 hc0
 have HB := za (Below.refl w.heap.size w)
 have H : (item_sum.l0 k 0 l0 (l0.length : Int) 0) = some r := h
 clear h
 have H' := za H
 clear H
 go_enter Try.func64, Try.ntmps64
 go_wp2
 go_loopg [3, 8] k (fun kq v3 v8 w' => ∃ (x3_1 : Int) (x8_1 : Int), v3 = .int .i64 x3_1 ∧ v8 = .int .i64 x8_1 ∧ Aside0 (item_sum.l0 kq x3_1 l0 (l0.length : Int) x8_1 = some r) ∧ Aside0 (kq ≤ k) ∧ Aside0 (Below w.heap.size w w'))
 case atStart => exact ⟨(0), (0), (by first | rfl | (simp; done) | (simp [*]; done)), (by first | rfl | (simp; done) | (simp [*]; done)), H', ⟨Nat.le_refl _⟩, ⟨zm HB⟩⟩
 case round =>
  clear H'
  obtain ⟨x3_1, x8_1, rfl, rfl, HA, HK1, HB⟩ := hrel
  cases gk with
  | zero => exact absurd HA.out (by simp [item_sum.l0])
  | succ k1 =>
   have H := HA.out
   clear HA
   simp only [item_sum.l0] at H
   by_cases c2 : x8_1 < (l0.length : Int)
   ·rw [if_pos c2] at H
    have c2b0 : decide (x8_1 < (l0.length : Int)) = true := decide_eq_true c2
    clear c2
    by_cases c3 : 0 ≤ x8_1
    ·rw [if_pos c3] at H
     have c3b0 : decide (0 ≤ x8_1) = true := decide_eq_true c3
     clear c3
     by_cases c4 : x8_1 < (l0.length : Int)
     ·rw [if_pos c4] at H
      have c4b0 : decide (x8_1 < (l0.length : Int)) = true := decide_eq_true c4
      clear c4
      have H' := za H
      clear H
      have p209 : 0 ≤ (x8_1 : Int) := of_decide_eq_true (by first | (with_reducible assumption) | assumption)
      have q209 : x8_1 < (l0.length : Int) := of_decide_eq_true (by first | (with_reducible assumption) | assumption)
      obtain ⟨ad209, e209, hx209_0, hx209_1, hx209_2, hx209_3, hx209_4, hx209_5⟩ := at_T65 HR0.out x8_1 p209 q209
      cases e209
      replace hx209_0 := zx HB hx209_0
      replace hx209_1 := zx HB hx209_1
      replace hx209_2 := zx HB hx209_2
      replace hx209_3 := zx HB hx209_3
      replace hx209_4 := zx HB hx209_4
      replace hx209_5 := zx HB hx209_5
      replace p209 := eq_true p209
      replace q209 := eq_true q209
      go_wp2_with (first | ((with_reducible refine gate_dst (N := 5) rfl ?_); refine zE 5 #[.int .i64 0, .int .i64 0, .int .i64 0, .int .i64 0, .int .i64 0, .int .i64 0] 65 ?_; intro gb210 hg w5 hbox hb; have BK210 := za (hbox); have GW210 := zg HB hg; have GE210 := zg HB hg; replace HB := zs HB hb; clear hb hbox hg; obtain ⟨hcz6_0, hcz6_1, hcz6_2, hcz6_3, hcz6_4, hcz6_5, hfz6_0, hfz6_1, hfz6_2, hfz6_3, hfz6_4, hfz6_5⟩ := z6 BK210))
      go_roundg k1
      case measure => have := HK1.out; omega
      case rel => exact ⟨(wrap64 (x3_1 + ((rd_T65 l0 x8_1).f1))), (wrap64 (x8_1 + 1)), (by first | rfl | (simp; done) | (simp [*]; done)), (by first | rfl | (simp; done) | (simp [*]; done)), H', ⟨by have := HK1.out; omega⟩, ⟨zm HB⟩⟩
     ·rw [if_neg c4] at H
      exact absurd H (by simp)
    ·rw [if_neg c3] at H
     exact absurd H (by simp)
   ·rw [if_neg c2] at H
    have c2b0 : decide (x8_1 < (l0.length : Int)) = false := decide_eq_false c2
    clear c2
    obtain rfl := Option.some.inj H
    go_wp2
    go_ret
    exact ⟨zf, zm HB⟩

/-! ### api_Part_bad_s67: function 67 -/
def api_Part_bad_s67.l0 : Nat → List (S65) → Int → Int → Option (Int)
  | 0, _, _, _ => none
  | k + 1, x0, x7, x8 => if x8 < x7 then (if 0 ≤ x8 then (if x8 < (x0.length : Int) then ((item_bad.f k ((rd_T65 x0 x8).f0) ((rd_T65 x0 x8).f1) ((rd_T65 x0 x8).f2) ((rd_T65 x0 x8).f3) ((rd_T65 x0 x8).f4) ((rd_T65 x0 x8).f5)).bind fun t212 => (if t212 = true then (some x8) else (api_Part_bad_s67.l0 k x0 x7 (wrap64 (x8 + 1))))) else (none)) else (none)) else (some (-1))
def api_Part_bad_s67.f (k : Nat) (l0 : List (S65))  : Option (Int) := api_Part_bad_s67.l0 k l0 (l0.length : Int) 0
theorem api_Part_bad_s67.mono_l : ∀ k, (∀ y0 y1 y2, LeO (api_Part_bad_s67.l0 k y0 y1 y2) (api_Part_bad_s67.l0 (k + 1) y0 y1 y2))
  | 0 => fun _ _ _ r h => by simp [api_Part_bad_s67.l0] at h
  | k + 1 => by
    have ih0 := api_Part_bad_s67.mono_l k
    · intro y0 y1 y2
      unfold api_Part_bad_s67.l0
      repeat' first
      | (with_reducible exact ih0 _ _ _)
      | (with_reducible exact item_bad.mono _ _ _ _ _ _ _)
      | (with_reducible exact LeO.refl _)
      | (with_reducible exact LeO.none _)
      | (with_reducible refine LeO.ite ?_ ?_)
      | (with_reducible refine LeO.bind ?_ (fun _ => ?_))
      | exact ih0 _ _ _
      | exact item_bad.mono _ _ _ _ _ _ _
      | exact LeO.none _
      | refine LeO.ite ?_ ?_
      | refine LeO.bind ?_ (fun _ => ?_)
theorem api_Part_bad_s67.mono : ∀ a0 k, LeO (api_Part_bad_s67.f k a0) (api_Part_bad_s67.f (k + 1) a0) := by
  intro a0 k
  have ih0 := api_Part_bad_s67.mono_l k
  unfold api_Part_bad_s67.f
  repeat' first
      | (with_reducible exact ih0 _ _ _)
      | (with_reducible exact item_bad.mono _ _ _ _ _ _ _)
      | (with_reducible exact LeO.refl _)
      | (with_reducible exact LeO.none _)
      | (with_reducible refine LeO.ite ?_ ?_)
      | (with_reducible refine LeO.bind ?_ (fun _ => ?_))
      | exact ih0 _ _ _
      | exact item_bad.mono _ _ _ _ _ _ _
      | exact LeO.none _
      | refine LeO.ite ?_ ?_
      | refine LeO.bind ?_ (fun _ => ?_)
set_option maxHeartbeats 8000000 in
set_option maxRecDepth 100000 in
theorem api_Part_bad_s67.calls (k : Nat) (A0 : Option Addr) (c0 : Nat) (l0 : List (S65))  (r : Int) (w : World) (hr0 : Kd.C k65 w A0 l0.length l0) (hc0 : l0.length ≤ c0) (h : api_Part_bad_s67.f k l0 = some r) :
    Calls Try.prog 67 #[.slice A0 l0.length c0, .func (.func 63) #[] #[]] w fun e w' => e = .returned (.int .i64 r) ∧ Below w.heap.size w w' := by
 have hu65 := Try.underlying65
 have HR0 := za hr0
 have HC0 := za hc0
 clear hr0 hc0
 have HB := za (Below.refl w.heap.size w)
 have H : (api_Part_bad_s67.l0 k l0 (l0.length : Int) 0) = some r := h
 clear h
 have H' := za H
 clear H
 go_enter Try.func67, Try.ntmps67
 go_wp2
 go_loopg [8] k (fun kq v8 w' => ∃ (x8_1 : Int), v8 = .int .i64 x8_1 ∧ Aside0 (api_Part_bad_s67.l0 kq l0 (l0.length : Int) x8_1 = some r) ∧ Aside0 (kq ≤ k) ∧ Aside0 (Below w.heap.size w w'))
 case atStart => exact ⟨(0), (by first | rfl | (simp; done) | (simp [*]; done)), H', ⟨Nat.le_refl _⟩, ⟨zm HB⟩⟩
 case round =>
  clear H'
  try clear p2
  obtain ⟨x8_1, rfl, HA, HK1, HB⟩ := hrel
  cases gk with
  | zero => exact absurd HA.out (by simp [api_Part_bad_s67.l0])
  | succ k1 =>
   have H := HA.out
   clear HA
   simp only [api_Part_bad_s67.l0] at H
   by_cases c3 : x8_1 < (l0.length : Int)
   ·rw [if_pos c3] at H
    have c3b0 : decide (x8_1 < (l0.length : Int)) = true := decide_eq_true c3
    clear c3
    by_cases c4 : 0 ≤ x8_1
    ·rw [if_pos c4] at H
     have c4b0 : decide (0 ≤ x8_1) = true := decide_eq_true c4
     clear c4
     by_cases c5 : x8_1 < (l0.length : Int)
     ·rw [if_pos c5] at H
      have c5b0 : decide (x8_1 < (l0.length : Int)) = true := decide_eq_true c5
      clear c5
      replace H := Option.bind_eq_some_iff.mp H
      obtain ⟨t212, A60, H⟩ := H
      replace H : (if t212 = true then (some x8_1) else (api_Part_bad_s67.l0 k1 l0 (l0.length : Int) (wrap64 (x8_1 + 1)))) = some r := H
      have A6 := za A60
      clear A60
      by_cases c7 : t212 = true
      ·subst c7
       have H1 : (some x8_1) = some r := by rw [if_pos rfl] at H; exact H
       clear H
       have H := H1
       clear H1
       obtain rfl := Option.some.inj H
       have p211 : 0 ≤ (x8_1 : Int) := of_decide_eq_true (by first | (with_reducible assumption) | assumption)
       have q211 : x8_1 < (l0.length : Int) := of_decide_eq_true (by first | (with_reducible assumption) | assumption)
       obtain ⟨ad211, e211, hx211_0, hx211_1, hx211_2, hx211_3, hx211_4, hx211_5⟩ := at_T65 HR0.out x8_1 p211 q211
       cases e211
       replace hx211_0 := zx HB hx211_0
       replace hx211_1 := zx HB hx211_1
       replace hx211_2 := zx HB hx211_2
       replace hx211_3 := zx HB hx211_3
       replace hx211_4 := zx HB hx211_4
       replace hx211_5 := zx HB hx211_5
       replace p211 := eq_true p211
       replace q211 := eq_true q211
       go_wp2_with (first | (go_at_call 63; (with_reducible refine (item_bad.calls k1 ((rd_T65 l0 x8_1).f0) ((rd_T65 l0 x8_1).f1) ((rd_T65 l0 x8_1).f2) ((rd_T65 l0 x8_1).f3) ((rd_T65 l0 x8_1).f4) ((rd_T65 l0 x8_1).f5) true _ A6.out).mono ?_); rintro e w8 ⟨rfl, hb⟩; replace HB := zs HB hb; (try clear hb); (try clear hb2); (try clear hk); (try clear hi)))
       go_ret
       exact ⟨zf, zm HB⟩
      ·replace c7 := Bool.eq_false_iff.mpr c7
       subst c7
       have H1 : (api_Part_bad_s67.l0 k1 l0 (l0.length : Int) (wrap64 (x8_1 + 1))) = some r := by rw [if_neg (show ¬ (false = true) by decide)] at H; exact H
       clear H
       have H := H1
       clear H1
       have H' := za H
       clear H
       have p211 : 0 ≤ (x8_1 : Int) := of_decide_eq_true (by first | (with_reducible assumption) | assumption)
       have q211 : x8_1 < (l0.length : Int) := of_decide_eq_true (by first | (with_reducible assumption) | assumption)
       obtain ⟨ad211, e211, hx211_0, hx211_1, hx211_2, hx211_3, hx211_4, hx211_5⟩ := at_T65 HR0.out x8_1 p211 q211
       cases e211
       replace hx211_0 := zx HB hx211_0
       replace hx211_1 := zx HB hx211_1
       replace hx211_2 := zx HB hx211_2
       replace hx211_3 := zx HB hx211_3
       replace hx211_4 := zx HB hx211_4
       replace hx211_5 := zx HB hx211_5
       replace p211 := eq_true p211
       replace q211 := eq_true q211
       go_wp2_with (first | (go_at_call 63; (with_reducible refine (item_bad.calls k1 ((rd_T65 l0 x8_1).f0) ((rd_T65 l0 x8_1).f1) ((rd_T65 l0 x8_1).f2) ((rd_T65 l0 x8_1).f3) ((rd_T65 l0 x8_1).f4) ((rd_T65 l0 x8_1).f5) false _ A6.out).mono ?_); rintro e w9 ⟨rfl, hb⟩; replace HB := zs HB hb; (try clear hb); (try clear hb2); (try clear hk); (try clear hi)))
       go_roundg k1
       case measure => have := HK1.out; omega
       case rel => exact ⟨(wrap64 (x8_1 + 1)), (by first | rfl | (simp; done) | (simp [*]; done)), H', ⟨by have := HK1.out; omega⟩, ⟨zm HB⟩⟩
     ·rw [if_neg c5] at H
      exact absurd H (by simp)
    ·rw [if_neg c4] at H
     exact absurd H (by simp)
   ·rw [if_neg c3] at H
    have c3b0 : decide (x8_1 < (l0.length : Int)) = false := decide_eq_false c3
    clear c3
    obtain rfl := Option.some.inj H
    go_wp2
    go_ret
    exact ⟨zf, zm HB⟩

/-! ### api_Part_bad_s62: function 62 -/
def api_Part_bad_s62.f (k : Nat) (l0 : List (S65))  : Option (Bool) := (api_Part_bad_s67.f k l0).bind fun t213 => (some (decide (t213 ≥ 0)))
theorem api_Part_bad_s62.mono : ∀ a0 k, LeO (api_Part_bad_s62.f k a0) (api_Part_bad_s62.f (k + 1) a0) := by
  intro a0 k
  unfold api_Part_bad_s62.f
  repeat' first
      | (with_reducible exact api_Part_bad_s67.mono _ _)
      | (with_reducible exact LeO.refl _)
      | (with_reducible exact LeO.none _)
      | (with_reducible refine LeO.ite ?_ ?_)
      | (with_reducible refine LeO.bind ?_ (fun _ => ?_))
      | exact api_Part_bad_s67.mono _ _
      | exact LeO.none _
      | refine LeO.ite ?_ ?_
      | refine LeO.bind ?_ (fun _ => ?_)
set_option maxHeartbeats 8000000 in
set_option maxRecDepth 100000 in
theorem api_Part_bad_s62.calls (k : Nat) (A0 : Option Addr) (c0 : Nat) (l0 : List (S65))  (r : Bool) (w : World) (hr0 : Kd.C k65 w A0 l0.length l0) (hc0 : l0.length ≤ c0) (h : api_Part_bad_s62.f k l0 = some r) :
    Calls Try.prog 62 #[.slice A0 l0.length c0, .func (.func 63) #[] #[]] w fun e w' => e = .returned (.bool r) ∧ Below w.heap.size w w' := by
 have HR0 := za hr0
 have HC0 := za hc0
 clear hr0 hc0
 have HB := za (Below.refl w.heap.size w)
 have H : ((api_Part_bad_s67.f k l0).bind fun t213 => (some (decide (t213 ≥ 0)))) = some r := h
 clear h
 replace H := Option.bind_eq_some_iff.mp H
 obtain ⟨t213, A30, H⟩ := H
 replace H : (some (decide (t213 ≥ 0))) = some r := H
 have A3 := za A30
 clear A30
 obtain rfl := Option.some.inj H
 go_enter Try.func62, Try.ntmps62
 go_wp2_with (first | (go_at_call 67; (with_reducible refine (api_Part_bad_s67.calls k _ _ l0 t213 _ ?side1 ?side2 A3.out).mono ?_); (case side1 => repeat (first | exact HR0.out | (with_reducible refine Kd.C_alloc ?_ _) | (with_reducible refine Kd.C_drewN ?_ _) | (with_reducible refine Kd.C_drew ?_))); (case side2 => exact HC0.out); rintro e w4 ⟨rfl, hb⟩; replace HB := zs HB hb; (try clear hb); (try clear hb2); (try clear hk); (try clear hi)))
 go_ret
 exact ⟨zf, zm HB⟩

/-! ### item_ValidPaper: function 52 -/
def item_ValidPaper.f (k : Nat) (a0_0 : Int) (a0_1 : Int) (l0_2 : List (S65)) : Option (Bool) := (item_in.f a0_0 0 31).bind fun t215 => (if t215 = true then ((item_in.f a0_1 0 3).bind fun t216 => (if t216 = true then ((item_in.f (l0_2.length : Int) 1 24).bind fun t217 => (if t217 = true then ((api_Part_bad_s62.f k l0_2).bind fun t218 => (if t218 = true then (some false) else ((item_sum.f k l0_2).bind fun t219 => (some (decide (t219 ≤ 200)))))) else (some false))) else (some false))) else (some false))
theorem item_ValidPaper.mono : ∀ a0 a1 a2 k, LeO (item_ValidPaper.f k a0 a1 a2) (item_ValidPaper.f (k + 1) a0 a1 a2) := by
  intro a0 a1 a2 k
  unfold item_ValidPaper.f
  repeat' first
      | (with_reducible exact api_Part_bad_s62.mono _ _)
      | (with_reducible exact item_sum.mono _ _)
      | (with_reducible exact LeO.refl _)
      | (with_reducible exact LeO.none _)
      | (with_reducible refine LeO.ite ?_ ?_)
      | (with_reducible refine LeO.bind ?_ (fun _ => ?_))
      | exact api_Part_bad_s62.mono _ _
      | exact item_sum.mono _ _
      | exact LeO.none _
      | refine LeO.ite ?_ ?_
      | refine LeO.bind ?_ (fun _ => ?_)
set_option maxHeartbeats 8000000 in
set_option maxRecDepth 100000 in
theorem item_ValidPaper.calls (k : Nat) (a0_0 : Int) (a0_1 : Int) (A0_2 : Option Addr) (c0_2 : Nat) (l0_2 : List (S65)) (r : Bool) (w : World) (hr0_2 : Kd.C k65 w A0_2 l0_2.length l0_2) (hc0_2 : l0_2.length ≤ c0_2) (h : item_ValidPaper.f k a0_0 a0_1 l0_2 = some r) :
    Calls Try.prog 52 #[.agg #[.int .i64 a0_0, .int .i64 a0_1, .slice A0_2 l0_2.length c0_2]] w fun e w' => e = .returned (.bool r) ∧ Below w.heap.size w w' := by
 have hu53 := Try.underlying53
 have HR0_2 := za hr0_2
 have HC0_2 := za hc0_2
 clear hr0_2 hc0_2
 have HB := za (Below.refl w.heap.size w)
 have H : ((item_in.f a0_0 0 31).bind fun t215 => (if t215 = true then ((item_in.f a0_1 0 3).bind fun t216 => (if t216 = true then ((item_in.f (l0_2.length : Int) 1 24).bind fun t217 => (if t217 = true then ((api_Part_bad_s62.f k l0_2).bind fun t218 => (if t218 = true then (some false) else ((item_sum.f k l0_2).bind fun t219 => (some (decide (t219 ≤ 200)))))) else (some false))) else (some false))) else (some false))) = some r := h
 clear h
 replace H := Option.bind_eq_some_iff.mp H
 obtain ⟨t215, A20, H⟩ := H
 replace H : (if t215 = true then ((item_in.f a0_1 0 3).bind fun t216 => (if t216 = true then ((item_in.f (l0_2.length : Int) 1 24).bind fun t217 => (if t217 = true then ((api_Part_bad_s62.f k l0_2).bind fun t218 => (if t218 = true then (some false) else ((item_sum.f k l0_2).bind fun t219 => (some (decide (t219 ≤ 200)))))) else (some false))) else (some false))) else (some false)) = some r := H
 have A2 := za A20
 clear A20
 by_cases c3 : t215 = true
 ·subst c3
  have H1 : ((item_in.f a0_1 0 3).bind fun t216 => (if t216 = true then ((item_in.f (l0_2.length : Int) 1 24).bind fun t217 => (if t217 = true then ((api_Part_bad_s62.f k l0_2).bind fun t218 => (if t218 = true then (some false) else ((item_sum.f k l0_2).bind fun t219 => (some (decide (t219 ≤ 200)))))) else (some false))) else (some false))) = some r := by rw [if_pos rfl] at H; exact H
  clear H
  have H := H1
  clear H1
  replace H := Option.bind_eq_some_iff.mp H
  obtain ⟨t216, A40, H⟩ := H
  replace H : (if t216 = true then ((item_in.f (l0_2.length : Int) 1 24).bind fun t217 => (if t217 = true then ((api_Part_bad_s62.f k l0_2).bind fun t218 => (if t218 = true then (some false) else ((item_sum.f k l0_2).bind fun t219 => (some (decide (t219 ≤ 200)))))) else (some false))) else (some false)) = some r := H
  have A4 := za A40
  clear A40
  by_cases c5 : t216 = true
  ·subst c5
   have H1 : ((item_in.f (l0_2.length : Int) 1 24).bind fun t217 => (if t217 = true then ((api_Part_bad_s62.f k l0_2).bind fun t218 => (if t218 = true then (some false) else ((item_sum.f k l0_2).bind fun t219 => (some (decide (t219 ≤ 200)))))) else (some false))) = some r := by rw [if_pos rfl] at H; exact H
   clear H
   have H := H1
   clear H1
   replace H := Option.bind_eq_some_iff.mp H
   obtain ⟨t217, A60, H⟩ := H
   replace H : (if t217 = true then ((api_Part_bad_s62.f k l0_2).bind fun t218 => (if t218 = true then (some false) else ((item_sum.f k l0_2).bind fun t219 => (some (decide (t219 ≤ 200)))))) else (some false)) = some r := H
   have A6 := za A60
   clear A60
   by_cases c7 : t217 = true
   ·subst c7
    have H1 : ((api_Part_bad_s62.f k l0_2).bind fun t218 => (if t218 = true then (some false) else ((item_sum.f k l0_2).bind fun t219 => (some (decide (t219 ≤ 200)))))) = some r := by rw [if_pos rfl] at H; exact H
    clear H
    have H := H1
    clear H1
    replace H := Option.bind_eq_some_iff.mp H
    obtain ⟨t218, A80, H⟩ := H
    replace H : (if t218 = true then (some false) else ((item_sum.f k l0_2).bind fun t219 => (some (decide (t219 ≤ 200))))) = some r := H
    have A8 := za A80
    clear A80
    by_cases c9 : t218 = true
    ·subst c9
     have H1 : (some false) = some r := by rw [if_pos rfl] at H; exact H
     clear H
     have H := H1
     clear H1
     obtain rfl := Option.some.inj H
     go_enter Try.func52, Try.ntmps52
     go_wp2_with (first | ((with_reducible refine gate_dst (N := 1) rfl ?_); (try (refine gate_guard (by rfl) ?_; dsimp only)); refine zE 1 #[.int .i64 a0_0, .int .i64 a0_1, .slice A0_2 l0_2.length c0_2] 53 ?_; intro gb214 hg w10 hbox hb; have BK214 := za (hbox); have GW214 := zg HB hg; have GE214 := zg HB hg; replace HB := zs HB hb; clear hb hbox hg; obtain ⟨hcz11_0, hcz11_1, hcz11_2, hfz11_0, hfz11_1, hfz11_2⟩ := z3 BK214) | ((with_reducible refine gate_callee (f := 61) rfl ?_); refine zL (some 5) Try.func61 #[.int .i64 a0_0, .int .i64 0, .int .i64 31] ?_; (with_reducible refine (item_in.calls a0_0 0 31 true _ A2.out).mono ?_); rintro e w' ⟨rfl, ⟨nd, rfl⟩⟩; refine ⟨_, rfl, ?_⟩) | (go_at_call 61; (with_reducible refine (item_in.calls a0_1 0 3 true _ A4.out).mono ?_); rintro e w' ⟨rfl, ⟨nd, rfl⟩⟩) | (go_at_call 61; (with_reducible refine (item_in.calls (l0_2.length : Int) 1 24 true _ A6.out).mono ?_); rintro e w' ⟨rfl, ⟨nd, rfl⟩⟩) | (go_at_call 62; (with_reducible refine (api_Part_bad_s62.calls k _ _ l0_2 true _ ?side1 ?side2 A8.out).mono ?_); (case side1 => repeat (first | exact (Kd.C_below HR0_2.out (zm HB)) | (with_reducible refine Kd.C_alloc ?_ _) | (with_reducible refine Kd.C_drewN ?_ _) | (with_reducible refine Kd.C_drew ?_))); (case side2 => exact HC0_2.out); rintro e w12 ⟨rfl, hb⟩; replace BK214 := zb BK214 hb; replace HB := zs HB hb; (try clear hb); (try clear hb2); (try clear hk); (try clear hi)))
     go_ret
     exact ⟨zf, zm HB⟩
    ·replace c9 := Bool.eq_false_iff.mpr c9
     subst c9
     have H1 : ((item_sum.f k l0_2).bind fun t219 => (some (decide (t219 ≤ 200)))) = some r := by rw [if_neg (show ¬ (false = true) by decide)] at H; exact H
     clear H
     have H := H1
     clear H1
     replace H := Option.bind_eq_some_iff.mp H
     obtain ⟨t219, A130, H⟩ := H
     replace H : (some (decide (t219 ≤ 200))) = some r := H
     have A13 := za A130
     clear A130
     obtain rfl := Option.some.inj H
     go_enter Try.func52, Try.ntmps52
     go_wp2_with (first | ((with_reducible refine gate_dst (N := 1) rfl ?_); (try (refine gate_guard (by rfl) ?_; dsimp only)); refine zE 1 #[.int .i64 a0_0, .int .i64 a0_1, .slice A0_2 l0_2.length c0_2] 53 ?_; intro gb214 hg w14 hbox hb; have BK214 := za (hbox); have GW214 := zg HB hg; have GE214 := zg HB hg; replace HB := zs HB hb; clear hb hbox hg; obtain ⟨hcz15_0, hcz15_1, hcz15_2, hfz15_0, hfz15_1, hfz15_2⟩ := z3 BK214) | ((with_reducible refine gate_callee (f := 61) rfl ?_); refine zL (some 5) Try.func61 #[.int .i64 a0_0, .int .i64 0, .int .i64 31] ?_; (with_reducible refine (item_in.calls a0_0 0 31 true _ A2.out).mono ?_); rintro e w' ⟨rfl, ⟨nd, rfl⟩⟩; refine ⟨_, rfl, ?_⟩) | (go_at_call 61; (with_reducible refine (item_in.calls a0_1 0 3 true _ A4.out).mono ?_); rintro e w' ⟨rfl, ⟨nd, rfl⟩⟩) | (go_at_call 61; (with_reducible refine (item_in.calls (l0_2.length : Int) 1 24 true _ A6.out).mono ?_); rintro e w' ⟨rfl, ⟨nd, rfl⟩⟩) | (go_at_call 62; (with_reducible refine (api_Part_bad_s62.calls k _ _ l0_2 false _ ?side1 ?side2 A8.out).mono ?_); (case side1 => repeat (first | exact (Kd.C_below HR0_2.out (zm HB)) | (with_reducible refine Kd.C_alloc ?_ _) | (with_reducible refine Kd.C_drewN ?_ _) | (with_reducible refine Kd.C_drew ?_))); (case side2 => exact HC0_2.out); rintro e w16 ⟨rfl, hb⟩; replace BK214 := zb BK214 hb; replace HB := zs HB hb; (try clear hb); (try clear hb2); (try clear hk); (try clear hi); obtain ⟨hcz17_0, hcz17_1, hcz17_2, hfz17_0, hfz17_1, hfz17_2⟩ := z3 BK214) | (go_at_call 64; (with_reducible refine (item_sum.calls k _ _ l0_2 t219 _ ?side1 ?side2 A13.out).mono ?_); (case side1 => exact zC HR0_2 HB); (case side2 => exact HC0_2.out); rintro e w18 ⟨rfl, hb⟩; replace BK214 := zb BK214 hb; replace HB := zs HB hb; (try clear hb); (try clear hb2); (try clear hk); (try clear hi)))
     go_ret
     exact ⟨zf, zm HB⟩
   ·replace c7 := Bool.eq_false_iff.mpr c7
    subst c7
    have H1 : (some false) = some r := by rw [if_neg (show ¬ (false = true) by decide)] at H; exact H
    clear H
    have H := H1
    clear H1
    obtain rfl := Option.some.inj H
    go_enter Try.func52, Try.ntmps52
    go_wp2_with (first | ((with_reducible refine gate_dst (N := 1) rfl ?_); (try (refine gate_guard (by rfl) ?_; dsimp only)); refine zE 1 #[.int .i64 a0_0, .int .i64 a0_1, .slice A0_2 l0_2.length c0_2] 53 ?_; intro gb214 hg w19 hbox hb; have BK214 := za (hbox); have GW214 := zg HB hg; have GE214 := zg HB hg; replace HB := zs HB hb; clear hb hbox hg; obtain ⟨hcz20_0, hcz20_1, hcz20_2, hfz20_0, hfz20_1, hfz20_2⟩ := z3 BK214) | ((with_reducible refine gate_callee (f := 61) rfl ?_); refine zL (some 5) Try.func61 #[.int .i64 a0_0, .int .i64 0, .int .i64 31] ?_; (with_reducible refine (item_in.calls a0_0 0 31 true _ A2.out).mono ?_); rintro e w' ⟨rfl, ⟨nd, rfl⟩⟩; refine ⟨_, rfl, ?_⟩) | (go_at_call 61; (with_reducible refine (item_in.calls a0_1 0 3 true _ A4.out).mono ?_); rintro e w' ⟨rfl, ⟨nd, rfl⟩⟩) | (go_at_call 61; (with_reducible refine (item_in.calls (l0_2.length : Int) 1 24 false _ A6.out).mono ?_); rintro e w' ⟨rfl, ⟨nd, rfl⟩⟩))
    go_ret
    exact ⟨zf, zm HB⟩
  ·replace c5 := Bool.eq_false_iff.mpr c5
   subst c5
   have H1 : (some false) = some r := by rw [if_neg (show ¬ (false = true) by decide)] at H; exact H
   clear H
   have H := H1
   clear H1
   obtain rfl := Option.some.inj H
   go_enter Try.func52, Try.ntmps52
   go_wp2_with (first | ((with_reducible refine gate_dst (N := 1) rfl ?_); (try (refine gate_guard (by rfl) ?_; dsimp only)); refine zE 1 #[.int .i64 a0_0, .int .i64 a0_1, .slice A0_2 l0_2.length c0_2] 53 ?_; intro gb214 hg w21 hbox hb; have BK214 := za (hbox); have GW214 := zg HB hg; have GE214 := zg HB hg; replace HB := zs HB hb; clear hb hbox hg; obtain ⟨hcz22_0, hcz22_1, hcz22_2, hfz22_0, hfz22_1, hfz22_2⟩ := z3 BK214) | ((with_reducible refine gate_callee (f := 61) rfl ?_); refine zL (some 5) Try.func61 #[.int .i64 a0_0, .int .i64 0, .int .i64 31] ?_; (with_reducible refine (item_in.calls a0_0 0 31 true _ A2.out).mono ?_); rintro e w' ⟨rfl, ⟨nd, rfl⟩⟩; refine ⟨_, rfl, ?_⟩) | (go_at_call 61; (with_reducible refine (item_in.calls a0_1 0 3 false _ A4.out).mono ?_); rintro e w' ⟨rfl, ⟨nd, rfl⟩⟩))
   go_ret
   exact ⟨zf, zm HB⟩
 ·replace c3 := Bool.eq_false_iff.mpr c3
  subst c3
  have H1 : (some false) = some r := by rw [if_neg (show ¬ (false = true) by decide)] at H; exact H
  clear H
  have H := H1
  clear H1
  obtain rfl := Option.some.inj H
  go_enter Try.func52, Try.ntmps52
  go_wp2_with (first | ((with_reducible refine gate_dst (N := 1) rfl ?_); (try (refine gate_guard (by rfl) ?_; dsimp only)); refine zE 1 #[.int .i64 a0_0, .int .i64 a0_1, .slice A0_2 l0_2.length c0_2] 53 ?_; intro gb214 hg w23 hbox hb; have BK214 := za (hbox); have GW214 := zg HB hg; have GE214 := zg HB hg; replace HB := zs HB hb; clear hb hbox hg; obtain ⟨hcz24_0, hcz24_1, hcz24_2, hfz24_0, hfz24_1, hfz24_2⟩ := z3 BK214) | ((with_reducible refine gate_callee (f := 61) rfl ?_); refine zL (some 5) Try.func61 #[.int .i64 a0_0, .int .i64 0, .int .i64 31] ?_; (with_reducible refine (item_in.calls a0_0 0 31 false _ A2.out).mono ?_); rintro e w' ⟨rfl, ⟨nd, rfl⟩⟩; refine ⟨_, rfl, ?_⟩))
  go_ret
  exact ⟨zf, zm HB⟩

/-! ### booklet_Need: function 55 -/
def booklet_Need.f (k : Nat) (a0_0 : Int) (a0_1 : Int) (a0_2 : Int) (a0_3 : Int) (a0_4 : Int) (a0_5 : Int) : Option (Int) := (item_ValidPart.f k a0_0 a0_1 a0_2 a0_3 a0_4 a0_5).bind fun t221 => (if t221 = true then (if a0_0 = 2 then (some (wrap64 (2 + a0_4))) else (some (mn (wrap64 (2 + a0_1)) 30))) else (some 0))
theorem booklet_Need.mono : ∀ a0 a1 a2 a3 a4 a5 k, LeO (booklet_Need.f k a0 a1 a2 a3 a4 a5) (booklet_Need.f (k + 1) a0 a1 a2 a3 a4 a5) := by
  intro a0 a1 a2 a3 a4 a5 k
  unfold booklet_Need.f
  repeat' first
      | (with_reducible exact item_ValidPart.mono _ _ _ _ _ _ _)
      | (with_reducible exact LeO.refl _)
      | (with_reducible exact LeO.none _)
      | (with_reducible refine LeO.ite ?_ ?_)
      | (with_reducible refine LeO.bind ?_ (fun _ => ?_))
      | exact item_ValidPart.mono _ _ _ _ _ _ _
      | exact LeO.none _
      | refine LeO.ite ?_ ?_
      | refine LeO.bind ?_ (fun _ => ?_)
set_option maxHeartbeats 8000000 in
set_option maxRecDepth 100000 in
theorem booklet_Need.calls (k : Nat) (a0_0 : Int) (a0_1 : Int) (a0_2 : Int) (a0_3 : Int) (a0_4 : Int) (a0_5 : Int) (r : Int) (w : World) (h : booklet_Need.f k a0_0 a0_1 a0_2 a0_3 a0_4 a0_5 = some r) :
    Calls Try.prog 55 #[.agg #[.int .i64 a0_0, .int .i64 a0_1, .int .i64 a0_2, .int .i64 a0_3, .int .i64 a0_4, .int .i64 a0_5]] w fun e w' => e = .returned (.int .i64 r) ∧ Below w.heap.size w w' := by
 have hu65 := Try.underlying65
 have HB := za (Below.refl w.heap.size w)
 have H : ((item_ValidPart.f k a0_0 a0_1 a0_2 a0_3 a0_4 a0_5).bind fun t221 => (if t221 = true then (if a0_0 = 2 then (some (wrap64 (2 + a0_4))) else (some (mn (wrap64 (2 + a0_1)) 30))) else (some 0))) = some r := h
 clear h
 replace H := Option.bind_eq_some_iff.mp H
 obtain ⟨t221, A20, H⟩ := H
 replace H : (if t221 = true then (if a0_0 = 2 then (some (wrap64 (2 + a0_4))) else (some (mn (wrap64 (2 + a0_1)) 30))) else (some 0)) = some r := H
 have A2 := za A20
 clear A20
 by_cases c3 : t221 = true
 ·subst c3
  have H1 : (if a0_0 = 2 then (some (wrap64 (2 + a0_4))) else (some (mn (wrap64 (2 + a0_1)) 30))) = some r := by rw [if_pos rfl] at H; exact H
  clear H
  have H := H1
  clear H1
  by_cases c4 : a0_0 = 2
  ·rw [if_pos c4] at H
   have c4b0 : (a0_0 == 2) = true := beq_iff_eq.mpr c4
   have c4b1 : (a0_0 != 2) = false := bne_eq_false_iff_eq.mpr c4
   clear c4
   obtain rfl := Option.some.inj H
   go_enter Try.func55, Try.ntmps55
   go_wp2_with (first | ((with_reducible refine gate_dst (N := 1) rfl ?_); refine zE 1 #[.int .i64 a0_0, .int .i64 a0_1, .int .i64 a0_2, .int .i64 a0_3, .int .i64 a0_4, .int .i64 a0_5] 65 ?_; intro gb220 hg w5 hbox hb; have BK220 := za (hbox); have GW220 := zg HB hg; have GE220 := zg HB hg; replace HB := zs HB hb; clear hb hbox hg; obtain ⟨hcz6_0, hcz6_1, hcz6_2, hcz6_3, hcz6_4, hcz6_5, hfz6_0, hfz6_1, hfz6_2, hfz6_3, hfz6_4, hfz6_5⟩ := z6 BK220) | ((with_reducible refine gate_callee (f := 66) rfl ?_); refine zL (some 5) Try.func66 #[.agg #[.int .i64 a0_0, .int .i64 a0_1, .int .i64 a0_2, .int .i64 a0_3, .int .i64 a0_4, .int .i64 a0_5]] ?_; (with_reducible refine (item_ValidPart.calls k a0_0 a0_1 a0_2 a0_3 a0_4 a0_5 true _ A2.out).mono ?_); rintro e w7 ⟨rfl, hb⟩; refine ⟨_, rfl, ?_⟩; replace BK220 := zb BK220 hb; replace HB := zs HB hb; (try clear hb); (try clear hb2); (try clear hk); (try clear hi); obtain ⟨hcz8_0, hcz8_1, hcz8_2, hcz8_3, hcz8_4, hcz8_5, hfz8_0, hfz8_1, hfz8_2, hfz8_3, hfz8_4, hfz8_5⟩ := z6 BK220))
   go_ret
   exact ⟨zf, zm HB⟩
  ·rw [if_neg c4] at H
   have c4b0 : (a0_0 == 2) = false := beq_eq_false_iff_ne.mpr c4
   have c4b1 : (a0_0 != 2) = true := bne_iff_ne.mpr c4
   obtain ⟨ji9, hji9⟩ : ∃ j_ : Int, (mn (wrap64 (2 + a0_1)) 30) = j_ := ⟨_, rfl⟩
   replace H : (some ji9) = some r := by first | (rw [hji9] at H; exact H) | (simp only [hji9] at H ⊢; exact H)
   (try rw [hji9] at A2)
   (try (have hji9h : ji9 ≤ 30 := by (rw [← hji9]; unfold mn; (repeat' split) <;> omega)))
   (try (have hji9g : ji9 ≤ 64 := by omega))
   have hji9_ : (if 30 < (wrap64 (2 + a0_1)) then 30 else (wrap64 (2 + a0_1))) = ji9 := hji9
   obtain rfl := Option.some.inj H
   go_enter Try.func55, Try.ntmps55
   go_wp2_with (first | ((with_reducible refine gate_dst (N := 1) rfl ?_); refine zE 1 #[.int .i64 a0_0, .int .i64 a0_1, .int .i64 a0_2, .int .i64 a0_3, .int .i64 a0_4, .int .i64 a0_5] 65 ?_; intro gb220 hg w10 hbox hb; have BK220 := za (hbox); have GW220 := zg HB hg; have GE220 := zg HB hg; replace HB := zs HB hb; clear hb hbox hg; obtain ⟨hcz11_0, hcz11_1, hcz11_2, hcz11_3, hcz11_4, hcz11_5, hfz11_0, hfz11_1, hfz11_2, hfz11_3, hfz11_4, hfz11_5⟩ := z6 BK220) | ((with_reducible refine gate_callee (f := 66) rfl ?_); refine zL (some 5) Try.func66 #[.agg #[.int .i64 a0_0, .int .i64 a0_1, .int .i64 a0_2, .int .i64 a0_3, .int .i64 a0_4, .int .i64 a0_5]] ?_; (with_reducible refine (item_ValidPart.calls k a0_0 a0_1 a0_2 a0_3 a0_4 a0_5 true _ A2.out).mono ?_); rintro e w12 ⟨rfl, hb⟩; refine ⟨_, rfl, ?_⟩; replace BK220 := zb BK220 hb; replace HB := zs HB hb; (try clear hb); (try clear hb2); (try clear hk); (try clear hi); obtain ⟨hcz13_0, hcz13_1, hcz13_2, hcz13_3, hcz13_4, hcz13_5, hfz13_0, hfz13_1, hfz13_2, hfz13_3, hfz13_4, hfz13_5⟩ := z6 BK220))
   go_ret
   exact ⟨by first | rfl | (simp [errW_none, errW_some] <;> rfl) | (simp only [← hji9]; first | rfl | (simp [errW_none, errW_some] <;> rfl)) | (simp [*, errW_none, errW_some] <;> rfl), zm HB⟩
 ·replace c3 := Bool.eq_false_iff.mpr c3
  subst c3
  have H1 : (some 0) = some r := by rw [if_neg (show ¬ (false = true) by decide)] at H; exact H
  clear H
  have H := H1
  clear H1
  obtain rfl := Option.some.inj H
  go_enter Try.func55, Try.ntmps55
  go_wp2_with (first | ((with_reducible refine gate_dst (N := 1) rfl ?_); refine zE 1 #[.int .i64 a0_0, .int .i64 a0_1, .int .i64 a0_2, .int .i64 a0_3, .int .i64 a0_4, .int .i64 a0_5] 65 ?_; intro gb220 hg w14 hbox hb; have BK220 := za (hbox); have GW220 := zg HB hg; have GE220 := zg HB hg; replace HB := zs HB hb; clear hb hbox hg; obtain ⟨hcz15_0, hcz15_1, hcz15_2, hcz15_3, hcz15_4, hcz15_5, hfz15_0, hfz15_1, hfz15_2, hfz15_3, hfz15_4, hfz15_5⟩ := z6 BK220) | ((with_reducible refine gate_callee (f := 66) rfl ?_); refine zL (some 5) Try.func66 #[.agg #[.int .i64 a0_0, .int .i64 a0_1, .int .i64 a0_2, .int .i64 a0_3, .int .i64 a0_4, .int .i64 a0_5]] ?_; (with_reducible refine (item_ValidPart.calls k a0_0 a0_1 a0_2 a0_3 a0_4 a0_5 false _ A2.out).mono ?_); rintro e w16 ⟨rfl, hb⟩; refine ⟨_, rfl, ?_⟩; replace BK220 := zb BK220 hb; replace HB := zs HB hb; (try clear hb); (try clear hb2); (try clear hk); (try clear hi)))
  go_ret
  exact ⟨zf, zm HB⟩

/-! ### booklet_Valid: function 53 -/
mutual
def booklet_Valid.j0 : Nat → Bool → Int → Int → List (S65) → List (List Int) → Option (Bool)
  | 0, _, _, _, _, _ => none
  | k + 1, x38, x223000, x223001, x223002, x224000 => if x38 = true then (some false) else (booklet_Valid.l0 k 0 x224000 (x224000.length : Int) 0 x223000 x223001 x223002)
def booklet_Valid.l0 : Nat → Int → List (List Int) → Int → Int → Int → Int → List (S65) → Option (Bool)
  | 0, _, _, _, _, _, _, _ => none
  | k + 1, x6, x40, x41, x42, x223000, x223001, x223002 => if x42 < x41 then (if 0 ≤ x42 then (if x42 < (x40.length : Int) then (booklet_Valid.l1 k x6 30 x40 x41 x42 (rd_L2 x40 x42) ((rd_L2 x40 x42).length : Int) 0 x223000 x223001 x223002) else (none)) else (none)) else (some (x6 == (x223002.length : Int)))
def booklet_Valid.l1 : Nat → Int → Int → List (List Int) → Int → Int → List Int → Int → Int → Int → Int → List (S65) → Option (Bool)
  | 0, _, _, _, _, _, _, _, _, _, _, _ => none
  | k + 1, x6, x9, x40, x41, x42, x46, x47, x48, x223000, x223001, x223002 => if x48 < x47 then (if 0 ≤ x48 then (if x48 < (x46.length : Int) then (if (rd x46 x48) = x6 then (if (rd x46 x48) ≥ (x223002.length : Int) then (some false) else (if 0 ≤ (rd x46 x48) then (if (rd x46 x48) < (x223002.length : Int) then ((booklet_Need.f k ((rd_T65 x223002 (rd x46 x48)).f0) ((rd_T65 x223002 (rd x46 x48)).f1) ((rd_T65 x223002 (rd x46 x48)).f2) ((rd_T65 x223002 (rd x46 x48)).f3) ((rd_T65 x223002 (rd x46 x48)).f4) ((rd_T65 x223002 (rd x46 x48)).f5)).bind fun t229 => (booklet_Valid.l1 k (wrap64 (x6 + 1)) (wrap64 (x9 - t229)) x40 x41 x42 x46 x47 (wrap64 (x48 + 1)) x223000 x223001 x223002)) else (none)) else (none))) else (some false)) else (none)) else (none)) else (if x9 < 0 then (some false) else (booklet_Valid.l0 k x6 x40 x41 (wrap64 (x42 + 1)) x223000 x223001 x223002))
end
def booklet_Valid.f (k : Nat) (a0_0 : Int) (a0_1 : Int) (l0_2 : List (S65)) (l1_0 : List (List Int)) : Option (Bool) := (item_ValidPaper.f k a0_0 a0_1 l0_2).bind fun t224 => (if t224 = true then (if (l1_0.length : Int) = 0 then (booklet_Valid.j0 k true a0_0 a0_1 l0_2 l1_0) else (if (l1_0.length : Int) > 12 then (booklet_Valid.j0 k true a0_0 a0_1 l0_2 l1_0) else (if ((l1_0.length : Int) % 4) = 0 then (if 0 < (l1_0.length : Int) then (booklet_Valid.j0 k (decide (((rd_L2 l1_0 0).length : Int) > 0)) a0_0 a0_1 l0_2 l1_0) else (none)) else (booklet_Valid.j0 k true a0_0 a0_1 l0_2 l1_0)))) else (booklet_Valid.j0 k true a0_0 a0_1 l0_2 l1_0))
theorem booklet_Valid.mono_l : ∀ k, (∀ y0 y1 y2 y3 y4, LeO (booklet_Valid.j0 k y0 y1 y2 y3 y4) (booklet_Valid.j0 (k + 1) y0 y1 y2 y3 y4)) ∧ (∀ y0 y1 y2 y3 y4 y5 y6, LeO (booklet_Valid.l0 k y0 y1 y2 y3 y4 y5 y6) (booklet_Valid.l0 (k + 1) y0 y1 y2 y3 y4 y5 y6)) ∧ (∀ y0 y1 y2 y3 y4 y5 y6 y7 y8 y9 y10, LeO (booklet_Valid.l1 k y0 y1 y2 y3 y4 y5 y6 y7 y8 y9 y10) (booklet_Valid.l1 (k + 1) y0 y1 y2 y3 y4 y5 y6 y7 y8 y9 y10))
  | 0 => ⟨fun _ _ _ _ _ r h => by simp [booklet_Valid.j0] at h, fun _ _ _ _ _ _ _ r h => by simp [booklet_Valid.l0] at h, fun _ _ _ _ _ _ _ _ _ _ _ r h => by simp [booklet_Valid.l1] at h⟩
  | k + 1 => by
    obtain ⟨ih0, ih1, ih2⟩ := booklet_Valid.mono_l k
    refine ⟨?_, ?_, ?_⟩
    · intro y0 y1 y2 y3 y4
      unfold booklet_Valid.j0
      repeat' first
      | (with_reducible exact ih0 _ _ _ _ _)
      | (with_reducible exact ih1 _ _ _ _ _ _ _)
      | (with_reducible exact ih2 _ _ _ _ _ _ _ _ _ _ _)
      | (with_reducible exact booklet_Need.mono _ _ _ _ _ _ _)
      | (with_reducible exact item_ValidPaper.mono _ _ _ _)
      | (with_reducible exact LeO.refl _)
      | (with_reducible exact LeO.none _)
      | (with_reducible refine LeO.ite ?_ ?_)
      | (with_reducible refine LeO.bind ?_ (fun _ => ?_))
      | exact ih0 _ _ _ _ _
      | exact ih1 _ _ _ _ _ _ _
      | exact ih2 _ _ _ _ _ _ _ _ _ _ _
      | exact booklet_Need.mono _ _ _ _ _ _ _
      | exact item_ValidPaper.mono _ _ _ _
      | exact LeO.none _
      | refine LeO.ite ?_ ?_
      | refine LeO.bind ?_ (fun _ => ?_)
    · intro y0 y1 y2 y3 y4 y5 y6
      unfold booklet_Valid.l0
      repeat' first
      | (with_reducible exact ih0 _ _ _ _ _)
      | (with_reducible exact ih1 _ _ _ _ _ _ _)
      | (with_reducible exact ih2 _ _ _ _ _ _ _ _ _ _ _)
      | (with_reducible exact booklet_Need.mono _ _ _ _ _ _ _)
      | (with_reducible exact item_ValidPaper.mono _ _ _ _)
      | (with_reducible exact LeO.refl _)
      | (with_reducible exact LeO.none _)
      | (with_reducible refine LeO.ite ?_ ?_)
      | (with_reducible refine LeO.bind ?_ (fun _ => ?_))
      | exact ih0 _ _ _ _ _
      | exact ih1 _ _ _ _ _ _ _
      | exact ih2 _ _ _ _ _ _ _ _ _ _ _
      | exact booklet_Need.mono _ _ _ _ _ _ _
      | exact item_ValidPaper.mono _ _ _ _
      | exact LeO.none _
      | refine LeO.ite ?_ ?_
      | refine LeO.bind ?_ (fun _ => ?_)
    · intro y0 y1 y2 y3 y4 y5 y6 y7 y8 y9 y10
      unfold booklet_Valid.l1
      repeat' first
      | (with_reducible exact ih0 _ _ _ _ _)
      | (with_reducible exact ih1 _ _ _ _ _ _ _)
      | (with_reducible exact ih2 _ _ _ _ _ _ _ _ _ _ _)
      | (with_reducible exact booklet_Need.mono _ _ _ _ _ _ _)
      | (with_reducible exact item_ValidPaper.mono _ _ _ _)
      | (with_reducible exact LeO.refl _)
      | (with_reducible exact LeO.none _)
      | (with_reducible refine LeO.ite ?_ ?_)
      | (with_reducible refine LeO.bind ?_ (fun _ => ?_))
      | exact ih0 _ _ _ _ _
      | exact ih1 _ _ _ _ _ _ _
      | exact ih2 _ _ _ _ _ _ _ _ _ _ _
      | exact booklet_Need.mono _ _ _ _ _ _ _
      | exact item_ValidPaper.mono _ _ _ _
      | exact LeO.none _
      | refine LeO.ite ?_ ?_
      | refine LeO.bind ?_ (fun _ => ?_)
theorem booklet_Valid.mono : ∀ a0 a1 a2 a3 k, LeO (booklet_Valid.f k a0 a1 a2 a3) (booklet_Valid.f (k + 1) a0 a1 a2 a3) := by
  intro a0 a1 a2 a3 k
  obtain ⟨ih0, ih1, ih2⟩ := booklet_Valid.mono_l k
  unfold booklet_Valid.f
  repeat' first
      | (with_reducible exact ih0 _ _ _ _ _)
      | (with_reducible exact ih1 _ _ _ _ _ _ _)
      | (with_reducible exact ih2 _ _ _ _ _ _ _ _ _ _ _)
      | (with_reducible exact booklet_Need.mono _ _ _ _ _ _ _)
      | (with_reducible exact item_ValidPaper.mono _ _ _ _)
      | (with_reducible exact LeO.refl _)
      | (with_reducible exact LeO.none _)
      | (with_reducible refine LeO.ite ?_ ?_)
      | (with_reducible refine LeO.bind ?_ (fun _ => ?_))
      | exact ih0 _ _ _ _ _
      | exact ih1 _ _ _ _ _ _ _
      | exact ih2 _ _ _ _ _ _ _ _ _ _ _
      | exact booklet_Need.mono _ _ _ _ _ _ _
      | exact item_ValidPaper.mono _ _ _ _
      | exact LeO.none _
      | refine LeO.ite ?_ ?_
      | refine LeO.bind ?_ (fun _ => ?_)
set_option maxHeartbeats 8000000 in
set_option maxRecDepth 100000 in
theorem booklet_Valid.calls (k : Nat) (a0_0 : Int) (a0_1 : Int) (A0_2 : Option Addr) (c0_2 : Nat) (l0_2 : List (S65)) (A1_0 : Option Addr) (c1_0 : Nat) (l1_0 : List (List Int)) (r : Bool) (w : World) (hr0_2 : Kd.C k65 w A0_2 l0_2.length l0_2) (hc0_2 : l0_2.length ≤ c0_2) (hr1_0 : Kd.C (Kd.slice 3 (Kd.int .i64)) w A1_0 l1_0.length l1_0) (hc1_0 : l1_0.length ≤ c1_0) (h : booklet_Valid.f k a0_0 a0_1 l0_2 l1_0 = some r) :
    Calls Try.prog 53 #[.agg #[.int .i64 a0_0, .int .i64 a0_1, .slice A0_2 l0_2.length c0_2], .agg #[.slice A1_0 l1_0.length c1_0]] w fun e w' => e = .returned (.bool r) ∧ Below w.heap.size w w' := by
 have hu53 := Try.underlying53
 have hu56 := Try.underlying56
 have hu65 := Try.underlying65
 have HR0_2 := za hr0_2
 have HC0_2 := za hc0_2
 clear hr0_2 hc0_2
 have HR1_0 := za hr1_0
 have HC1_0 := za hc1_0
 clear hr1_0 hc1_0
 have HB := za (Below.refl w.heap.size w)
 have H : ((item_ValidPaper.f k a0_0 a0_1 l0_2).bind fun t224 => (if t224 = true then (if (l1_0.length : Int) = 0 then (booklet_Valid.j0 k true a0_0 a0_1 l0_2 l1_0) else (if (l1_0.length : Int) > 12 then (booklet_Valid.j0 k true a0_0 a0_1 l0_2 l1_0) else (if ((l1_0.length : Int) % 4) = 0 then (if 0 < (l1_0.length : Int) then (booklet_Valid.j0 k (decide (((rd_L2 l1_0 0).length : Int) > 0)) a0_0 a0_1 l0_2 l1_0) else (none)) else (booklet_Valid.j0 k true a0_0 a0_1 l0_2 l1_0)))) else (booklet_Valid.j0 k true a0_0 a0_1 l0_2 l1_0))) = some r := h
 clear h
 have HC3 := za H
 clear H
 go_enter Try.func53, Try.ntmps53
 go_upto_region 2 with (first | ((with_reducible refine gate_dst (N := 2) rfl ?_); (try (refine gate_guard (by rfl) ?_; dsimp only)); refine zE 2 #[.int .i64 a0_0, .int .i64 a0_1, .slice A0_2 l0_2.length c0_2] 53 ?_; intro gb222 hg w4 hbox hb; have BK222 := za (hbox); have GW222 := zg HB hg; have GE222 := zg HB hg; replace HB := zs HB hb; clear hb hbox hg) | ((with_reducible refine gate_dst (N := 3) rfl ?_); (try (refine gate_guard (by rfl) ?_; dsimp only)); refine zE 3 #[.slice A1_0 l1_0.length c1_0] 56 ?_; intro gb223 hg w5 hbox hb; have BK223 := za (hbox); have GW223 := zg HB hg; have GE223 := zg HB hg; have NB222_223 := zl BK222 hg; have NB223_222 := zr BK222 hg; replace BK222 := zb BK222 hb; replace HB := zs HB hb; clear hb hbox hg; have hnb6 := NB223_222.out; have hnc6 := NB222_223.out; obtain ⟨hcz7_0, hfz7_0⟩ := z1 BK223))
 (try simp only [Act.put, List.setIfInBounds_toArray, List.set_cons_zero, List.set_cons_succ])
 go_cut [38] (fun v38 wc => ∃ (kq : Nat) (x38_2 : Bool), v38 = .bool x38_2 ∧ Aside0 (booklet_Valid.j0 kq x38_2 a0_0 a0_1 l0_2 l1_0 = some r) ∧ Aside0 (kq ≤ k) ∧ Aside0 (wc.heap[gb222]? = some (.cells #[.int .i64 a0_0, .int .i64 a0_1, (.slice A0_2 l0_2.length c0_2)] 53 (0, 0))) ∧ Aside0 (wc.heap[gb223]? = some (.cells #[(.slice A1_0 l1_0.length c1_0)] 56 (0, 0))) ∧ Aside0 (Below w.heap.size w wc))
 case first =>
  have H := HC3.out
  clear HC3
  replace H := Option.bind_eq_some_iff.mp H
  obtain ⟨t224, A80, H⟩ := H
  replace H : (if t224 = true then (if (l1_0.length : Int) = 0 then (booklet_Valid.j0 k true a0_0 a0_1 l0_2 l1_0) else (if (l1_0.length : Int) > 12 then (booklet_Valid.j0 k true a0_0 a0_1 l0_2 l1_0) else (if ((l1_0.length : Int) % 4) = 0 then (if 0 < (l1_0.length : Int) then (booklet_Valid.j0 k (decide (((rd_L2 l1_0 0).length : Int) > 0)) a0_0 a0_1 l0_2 l1_0) else (none)) else (booklet_Valid.j0 k true a0_0 a0_1 l0_2 l1_0)))) else (booklet_Valid.j0 k true a0_0 a0_1 l0_2 l1_0)) = some r := H
  have A8 := za A80
  clear A80
  by_cases c9 : t224 = true
  ·subst c9
   have H1 : (if (l1_0.length : Int) = 0 then (booklet_Valid.j0 k true a0_0 a0_1 l0_2 l1_0) else (if (l1_0.length : Int) > 12 then (booklet_Valid.j0 k true a0_0 a0_1 l0_2 l1_0) else (if ((l1_0.length : Int) % 4) = 0 then (if 0 < (l1_0.length : Int) then (booklet_Valid.j0 k (decide (((rd_L2 l1_0 0).length : Int) > 0)) a0_0 a0_1 l0_2 l1_0) else (none)) else (booklet_Valid.j0 k true a0_0 a0_1 l0_2 l1_0)))) = some r := by rw [if_pos rfl] at H; exact H
   clear H
   have H := H1
   clear H1
   by_cases c10 : (l1_0.length : Int) = 0
   ·rw [if_pos c10] at H
    have c10b0 : ((l1_0.length : Int) == 0) = true := beq_iff_eq.mpr c10
    have c10b1 : ((l1_0.length : Int) != 0) = false := bne_eq_false_iff_eq.mpr c10
    clear c10
    (first | rw [c10b0] | (simp only [i64_w, i32_w]; rw [c10b0]) | skip)
    have H' := za H
    clear H
    have hnb11 := NB222_223.out
    have hnc11 := NB223_222.out
    obtain ⟨hcz12_0, hcz12_1, hcz12_2, hfz12_0, hfz12_1, hfz12_2⟩ := z3 BK222
    go_wp2_with (first | ((with_reducible refine gate_callee (f := 52) rfl ?_); refine zL (some 16) Try.func52 #[.agg #[.int .i64 a0_0, .int .i64 a0_1, .slice A0_2 l0_2.length c0_2]] ?_; (with_reducible refine (item_ValidPaper.calls k a0_0 a0_1 _ _ l0_2 true _ ?side1 ?side2 A8.out).mono ?_); (case side1 => exact zC HR0_2 HB); (case side2 => exact HC0_2.out); rintro e w13 ⟨rfl, hb⟩; refine ⟨_, rfl, ?_⟩; replace BK222 := zb BK222 hb; replace BK223 := zb BK223 hb; replace HB := zs HB hb; (try clear hb); (try clear hb2); (try clear hk); (try clear hi)))
    go_meet
    case rel => exact ⟨_, (true), (by first | rfl | (simp; done) | (simp [*]; done)), H', ⟨by first | omega | exact Nat.le_refl _⟩, ⟨by (with_reducible repeat (first | refine blk_drewN ?_ _ | refine blk_drew ?_ | refine blk_alloc ?_ _)); exact BK222.out⟩, ⟨by (with_reducible repeat (first | refine blk_drewN ?_ _ | refine blk_drew ?_ | refine blk_alloc ?_ _)); exact BK223.out⟩, ⟨zm HB⟩⟩
   ·rw [if_neg c10] at H
    have c10b0 : ((l1_0.length : Int) == 0) = false := beq_eq_false_iff_ne.mpr c10
    have c10b1 : ((l1_0.length : Int) != 0) = true := bne_iff_ne.mpr c10
    have c10b2 : ¬ (l1_0 = []) := fun h_ => c10 (by rw [h_]; rfl)
    (first | rw [c10b0] | (simp only [i64_w, i32_w]; rw [c10b0]) | skip)
    by_cases c14 : (l1_0.length : Int) > 12
    ·rw [if_pos c14] at H
     have c14b0 : decide (12 < (l1_0.length : Int)) = true := decide_eq_true c14
     have c14b1 : decide (12 < l1_0.length) = true := decide_eq_true (by omega)
     clear c14
     have H' := za H
     clear H
     have hnb15 := NB222_223.out
     have hnc15 := NB223_222.out
     obtain ⟨hcz16_0, hcz16_1, hcz16_2, hfz16_0, hfz16_1, hfz16_2⟩ := z3 BK222
     go_wp2_with (first | ((with_reducible refine gate_callee (f := 52) rfl ?_); refine zL (some 16) Try.func52 #[.agg #[.int .i64 a0_0, .int .i64 a0_1, .slice A0_2 l0_2.length c0_2]] ?_; (with_reducible refine (item_ValidPaper.calls k a0_0 a0_1 _ _ l0_2 true _ ?side1 ?side2 A8.out).mono ?_); (case side1 => exact zC HR0_2 HB); (case side2 => exact HC0_2.out); rintro e w17 ⟨rfl, hb⟩; refine ⟨_, rfl, ?_⟩; replace BK222 := zb BK222 hb; replace BK223 := zb BK223 hb; replace HB := zs HB hb; (try clear hb); (try clear hb2); (try clear hk); (try clear hi)))
     go_meet
     case rel => exact ⟨_, (true), (by first | rfl | (simp; done) | (simp [*]; done)), H', ⟨by first | omega | exact Nat.le_refl _⟩, ⟨by (with_reducible repeat (first | refine blk_drewN ?_ _ | refine blk_drew ?_ | refine blk_alloc ?_ _)); exact BK222.out⟩, ⟨by (with_reducible repeat (first | refine blk_drewN ?_ _ | refine blk_drew ?_ | refine blk_alloc ?_ _)); exact BK223.out⟩, ⟨zm HB⟩⟩
    ·rw [if_neg c14] at H
     have c14b0 : decide (12 < (l1_0.length : Int)) = false := decide_eq_false c14
     have c14b1 : decide (12 < l1_0.length) = false := decide_eq_false (by omega)
     clear c14
     by_cases c18 : ((l1_0.length : Int) % 4) = 0
     ·rw [if_pos c18] at H
      have c18b0 : (((l1_0.length : Int) % 4) == 0) = true := beq_iff_eq.mpr c18
      have c18b1 : (((l1_0.length : Int) % 4) != 0) = false := bne_eq_false_iff_eq.mpr c18
      clear c18
      by_cases c19 : 0 < (l1_0.length : Int)
      ·rw [if_pos c19] at H
       have c19b0 : decide (0 < (l1_0.length : Int)) = true := decide_eq_true c19
       have c19b1 : decide (0 < l1_0.length) = true := decide_eq_true (by omega)
       clear c19
       have H' := za H
       clear H
       have hnb20 := NB222_223.out
       have hnc20 := NB223_222.out
       obtain ⟨hcz21_0, hcz21_1, hcz21_2, hfz21_0, hfz21_1, hfz21_2⟩ := z3 BK222
       go_wp2_with (first | ((with_reducible refine gate_callee (f := 52) rfl ?_); refine zL (some 16) Try.func52 #[.agg #[.int .i64 a0_0, .int .i64 a0_1, .slice A0_2 l0_2.length c0_2]] ?_; (with_reducible refine (item_ValidPaper.calls k a0_0 a0_1 _ _ l0_2 true _ ?side1 ?side2 A8.out).mono ?_); (case side1 => exact zC HR0_2 HB); (case side2 => exact HC0_2.out); rintro e w22 ⟨rfl, hb⟩; refine ⟨_, rfl, ?_⟩; replace BK222 := zb BK222 hb; replace BK223 := zb BK223 hb; replace HB := zs HB hb; (try clear hb); (try clear hb2); (try clear hk); (try clear hi); obtain ⟨hcz23_0, hfz23_0⟩ := z1 BK223; have p225 : 0 ≤ (0 : Int) := (by omega); have q225 : 0 < (l1_0.length : Int) := of_decide_eq_true (by first | (with_reducible assumption) | assumption); obtain ⟨ad225, A225_0, c225_0, e225, hx225_0, hl225_0, hi225_0⟩ := at_L2 HR1_0.out 0 p225 q225; cases e225; have qi225 : (0 < l1_0.length) = True := eq_true (by omega); (try rw [show ((0 : Int)).toNat = 0 from rfl] at hx225_0); (try rw [Addr.add_zero'] at hx225_0); replace hx225_0 := zx HB hx225_0; have HR225_0 := za hi225_0; have HC225_0 := za hl225_0; clear hi225_0 hl225_0; replace p225 := eq_true p225; replace q225 := eq_true q225))
       go_meet
       case rel => exact ⟨_, (decide (((rd_L2 l1_0 0).length : Int) > 0)), (by first | rfl | (simp; done) | (simp [*]; done)), H', ⟨by first | omega | exact Nat.le_refl _⟩, ⟨by (with_reducible repeat (first | refine blk_drewN ?_ _ | refine blk_drew ?_ | refine blk_alloc ?_ _)); exact BK222.out⟩, ⟨by (with_reducible repeat (first | refine blk_drewN ?_ _ | refine blk_drew ?_ | refine blk_alloc ?_ _)); exact BK223.out⟩, ⟨zm HB⟩⟩
      ·rw [if_neg c19] at H
       exact absurd H (by simp)
     ·rw [if_neg c18] at H
      have c18b0 : (((l1_0.length : Int) % 4) == 0) = false := beq_eq_false_iff_ne.mpr c18
      have c18b1 : (((l1_0.length : Int) % 4) != 0) = true := bne_iff_ne.mpr c18
      have H' := za H
      clear H
      have hnb24 := NB222_223.out
      have hnc24 := NB223_222.out
      obtain ⟨hcz25_0, hcz25_1, hcz25_2, hfz25_0, hfz25_1, hfz25_2⟩ := z3 BK222
      go_wp2_with (first | ((with_reducible refine gate_callee (f := 52) rfl ?_); refine zL (some 16) Try.func52 #[.agg #[.int .i64 a0_0, .int .i64 a0_1, .slice A0_2 l0_2.length c0_2]] ?_; (with_reducible refine (item_ValidPaper.calls k a0_0 a0_1 _ _ l0_2 true _ ?side1 ?side2 A8.out).mono ?_); (case side1 => exact zC HR0_2 HB); (case side2 => exact HC0_2.out); rintro e w26 ⟨rfl, hb⟩; refine ⟨_, rfl, ?_⟩; replace BK222 := zb BK222 hb; replace BK223 := zb BK223 hb; replace HB := zs HB hb; (try clear hb); (try clear hb2); (try clear hk); (try clear hi)))
      go_meet
      case rel => exact ⟨_, (true), (by first | rfl | (simp; done) | (simp [*]; done)), H', ⟨by first | omega | exact Nat.le_refl _⟩, ⟨by (with_reducible repeat (first | refine blk_drewN ?_ _ | refine blk_drew ?_ | refine blk_alloc ?_ _)); exact BK222.out⟩, ⟨by (with_reducible repeat (first | refine blk_drewN ?_ _ | refine blk_drew ?_ | refine blk_alloc ?_ _)); exact BK223.out⟩, ⟨zm HB⟩⟩
  ·replace c9 := Bool.eq_false_iff.mpr c9
   subst c9
   have H1 : (booklet_Valid.j0 k true a0_0 a0_1 l0_2 l1_0) = some r := by rw [if_neg (show ¬ (false = true) by decide)] at H; exact H
   clear H
   have H := H1
   clear H1
   have H' := za H
   clear H
   have hnb27 := NB222_223.out
   have hnc27 := NB223_222.out
   obtain ⟨hcz28_0, hcz28_1, hcz28_2, hfz28_0, hfz28_1, hfz28_2⟩ := z3 BK222
   go_wp2_with (first | ((with_reducible refine gate_callee (f := 52) rfl ?_); refine zL (some 16) Try.func52 #[.agg #[.int .i64 a0_0, .int .i64 a0_1, .slice A0_2 l0_2.length c0_2]] ?_; (with_reducible refine (item_ValidPaper.calls k a0_0 a0_1 _ _ l0_2 false _ ?side1 ?side2 A8.out).mono ?_); (case side1 => exact zC HR0_2 HB); (case side2 => exact HC0_2.out); rintro e w29 ⟨rfl, hb⟩; refine ⟨_, rfl, ?_⟩; replace BK222 := zb BK222 hb; replace BK223 := zb BK223 hb; replace HB := zs HB hb; (try clear hb); (try clear hb2); (try clear hk); (try clear hi)))
   go_meet
   case rel => exact ⟨_, (true), (by first | rfl | (simp; done) | (simp [*]; done)), H', ⟨by first | omega | exact Nat.le_refl _⟩, ⟨by (with_reducible repeat (first | refine blk_drewN ?_ _ | refine blk_drew ?_ | refine blk_alloc ?_ _)); exact BK222.out⟩, ⟨by (with_reducible repeat (first | refine blk_drewN ?_ _ | refine blk_drew ?_ | refine blk_alloc ?_ _)); exact BK223.out⟩, ⟨zm HB⟩⟩
 case rest =>
  clear HC3
  try clear c1
  try clear c2
  try clear p2
  try clear q2
  try clear hx2
  try clear qi2
  try clear c5
  try clear c6
  try clear c9
  try clear c10
  try clear c10b0
  try clear c10b1
  try clear c10b2
  try clear c11
  try clear c14
  try clear c14b0
  try clear c14b1
  try clear c15
  try clear c18
  try clear c18b0
  try clear c18b1
  try clear c19
  try clear c19b0
  try clear c19b1
  try clear c20
  try clear c22
  try clear p22
  try clear q22
  try clear hx22
  try clear qi22
  try clear c24
  try clear c27
  try clear hcz12_0
  try clear hcz12_1
  try clear hcz12_2
  try clear hcz16_0
  try clear hcz16_1
  try clear hcz16_2
  try clear hcz21_0
  try clear hcz21_1
  try clear hcz21_2
  try clear hcz23_0
  try clear hcz25_0
  try clear hcz25_1
  try clear hcz25_2
  try clear hcz28_0
  try clear hcz28_1
  try clear hcz28_2
  try clear hcz7_0
  try clear hfz12_0
  try clear hfz12_1
  try clear hfz12_2
  try clear hfz16_0
  try clear hfz16_1
  try clear hfz16_2
  try clear hfz21_0
  try clear hfz21_1
  try clear hfz21_2
  try clear hfz23_0
  try clear hfz25_0
  try clear hfz25_1
  try clear hfz25_2
  try clear hfz28_0
  try clear hfz28_1
  try clear hfz28_2
  try clear hfz7_0
  try clear hx225_0
  try clear p225
  try clear q225
  obtain ⟨kq, x38_2, rfl, HA, HJ2, BK222, BK223, HB⟩ := hcut
  cases kq with
  | zero => exact absurd HA.out (by simp [booklet_Valid.j0])
  | succ kj2 =>
   have H := HA.out
   clear HA
   simp only [booklet_Valid.j0] at H
   by_cases c30 : x38_2 = true
   ·subst c30
    have H1 : (some false) = some r := by rw [if_pos rfl] at H; exact H
    clear H
    have H := H1
    clear H1
    obtain rfl := Option.some.inj H
    go_wp2
    go_ret
    exact ⟨zf, zm HB⟩
   ·replace c30 := Bool.eq_false_iff.mpr c30
    subst c30
    have H1 : (booklet_Valid.l0 kj2 0 l1_0 (l1_0.length : Int) 0 a0_0 a0_1 l0_2) = some r := by rw [if_neg (show ¬ (false = true) by decide)] at H; exact H
    clear H
    have H := H1
    clear H1
    have H' := za H
    clear H
    have hnb31 := NB223_222.out
    have hnc31 := NB222_223.out
    obtain ⟨hcz32_0, hfz32_0⟩ := z1 BK223
    go_wp2
    go_loopg [6, 42] kj2 (fun kq v6 v42 w' => ∃ (x6_2 : Int) (x42_2 : Int), v6 = .int .i64 x6_2 ∧ v42 = .int .i64 x42_2 ∧ Aside0 (booklet_Valid.l0 kq x6_2 l1_0 (l1_0.length : Int) x42_2 a0_0 a0_1 l0_2 = some r) ∧ Aside0 (kq ≤ kj2) ∧ Aside0 (w'.heap[gb222]? = some (.cells #[.int .i64 a0_0, .int .i64 a0_1, (.slice A0_2 l0_2.length c0_2)] 53 (0, 0))) ∧ Aside0 (w'.heap[gb223]? = some (.cells #[(.slice A1_0 l1_0.length c1_0)] 56 (0, 0))) ∧ Aside0 (Below w.heap.size w w'))
    case atStart => exact ⟨(0), (0), (by first | rfl | (simp; done) | (simp [*]; done)), (by first | rfl | (simp; done) | (simp [*]; done)), H', ⟨Nat.le_refl _⟩, ⟨by (with_reducible repeat (first | refine blk_drewN ?_ _ | refine blk_drew ?_ | refine blk_alloc ?_ _)); exact BK222.out⟩, ⟨by (with_reducible repeat (first | refine blk_drewN ?_ _ | refine blk_drew ?_ | refine blk_alloc ?_ _)); exact BK223.out⟩, ⟨zm HB⟩⟩
    case round =>
     clear H'
     try clear c1
     try clear c2
     try clear p2
     try clear q2
     try clear hx2
     try clear qi2
     try clear c3
     try clear c5
     try clear c6
     try clear c9
     try clear c10
     try clear c10b0
     try clear c10b1
     try clear c10b2
     try clear c11
     try clear c14
     try clear c14b0
     try clear c14b1
     try clear c15
     try clear c18
     try clear c18b0
     try clear c18b1
     try clear c19
     try clear c19b0
     try clear c19b1
     try clear c20
     try clear c22
     try clear p22
     try clear q22
     try clear hx22
     try clear qi22
     try clear c24
     try clear c27
     try clear c30
     try clear c31
     try clear hcz12_0
     try clear hcz12_1
     try clear hcz12_2
     try clear hcz16_0
     try clear hcz16_1
     try clear hcz16_2
     try clear hcz21_0
     try clear hcz21_1
     try clear hcz21_2
     try clear hcz23_0
     try clear hcz25_0
     try clear hcz25_1
     try clear hcz25_2
     try clear hcz28_0
     try clear hcz28_1
     try clear hcz28_2
     try clear hcz32_0
     try clear hcz7_0
     try clear hfz12_0
     try clear hfz12_1
     try clear hfz12_2
     try clear hfz16_0
     try clear hfz16_1
     try clear hfz16_2
     try clear hfz21_0
     try clear hfz21_1
     try clear hfz21_2
     try clear hfz23_0
     try clear hfz25_0
     try clear hfz25_1
     try clear hfz25_2
     try clear hfz28_0
     try clear hfz28_1
     try clear hfz28_2
     try clear hfz32_0
     try clear hfz7_0
     try clear hx225_0
     try clear p2
     try clear p22
     try clear p225
     try clear q2
     try clear q22
     try clear q225
     obtain ⟨x6_2, x42_2, rfl, rfl, HA, HK2, BK222, BK223, HB⟩ := hrel
     cases gk with
     | zero => exact absurd HA.out (by simp [booklet_Valid.l0])
     | succ k2 =>
      have H := HA.out
      clear HA
      simp only [booklet_Valid.l0] at H
      by_cases c33 : x42_2 < (l1_0.length : Int)
      ·rw [if_pos c33] at H
       have c33b0 : decide (x42_2 < (l1_0.length : Int)) = true := decide_eq_true c33
       clear c33
       by_cases c34 : 0 ≤ x42_2
       ·rw [if_pos c34] at H
        have c34b0 : decide (0 ≤ x42_2) = true := decide_eq_true c34
        clear c34
        by_cases c35 : x42_2 < (l1_0.length : Int)
        ·rw [if_pos c35] at H
         have c35b0 : decide (x42_2 < (l1_0.length : Int)) = true := decide_eq_true c35
         clear c35
         have H' := za H
         clear H
         have p226 : 0 ≤ (x42_2 : Int) := of_decide_eq_true (by first | (with_reducible assumption) | assumption)
         have q226 : x42_2 < (l1_0.length : Int) := of_decide_eq_true (by first | (with_reducible assumption) | assumption)
         obtain ⟨ad226, A226_0, c226_0, e226, hx226_0, hl226_0, hi226_0⟩ := at_L2 HR1_0.out x42_2 p226 q226
         cases e226
         replace hx226_0 := zx HB hx226_0
         have HR226_0 := za hi226_0
         have HC226_0 := za hl226_0
         clear hi226_0 hl226_0
         replace p226 := eq_true p226
         replace q226 := eq_true q226
         go_wp2
         go_loopg [6, 9, 48] k2 (fun kq v6 v9 v48 w' => ∃ (x6_3 : Int) (x9_3 : Int) (x48_3 : Int), v6 = .int .i64 x6_3 ∧ v9 = .int .i64 x9_3 ∧ v48 = .int .i64 x48_3 ∧ Aside0 (booklet_Valid.l1 kq x6_3 x9_3 l1_0 (l1_0.length : Int) x42_2 (rd_L2 l1_0 x42_2) ((rd_L2 l1_0 x42_2).length : Int) x48_3 a0_0 a0_1 l0_2 = some r) ∧ Aside0 (kq ≤ k2) ∧ Aside0 (w'.heap[gb222]? = some (.cells #[.int .i64 a0_0, .int .i64 a0_1, (.slice A0_2 l0_2.length c0_2)] 53 (0, 0))) ∧ Aside0 (w'.heap[gb223]? = some (.cells #[(.slice (some ad226) l1_0.length c1_0)] 56 (0, 0))) ∧ Aside0 (Below w.heap.size w w'))
         case atStart => exact ⟨(x6_2), (30), (0), (by first | rfl | (simp; done) | (simp [*]; done)), (by first | rfl | (simp; done) | (simp [*]; done)), (by first | rfl | (simp; done) | (simp [*]; done)), H', ⟨Nat.le_refl _⟩, ⟨by (with_reducible repeat (first | refine blk_drewN ?_ _ | refine blk_drew ?_ | refine blk_alloc ?_ _)); exact BK222.out⟩, ⟨by (with_reducible repeat (first | refine blk_drewN ?_ _ | refine blk_drew ?_ | refine blk_alloc ?_ _)); exact BK223.out⟩, ⟨zm HB⟩⟩
         case round =>
          clear H'
          try clear c1
          try clear c2
          try clear p2
          try clear q2
          try clear hx2
          try clear qi2
          try clear c3
          try clear c5
          try clear c6
          try clear c9
          try clear c10
          try clear c10b0
          try clear c10b1
          try clear c10b2
          try clear c11
          try clear c14
          try clear c14b0
          try clear c14b1
          try clear c15
          try clear c18
          try clear c18b0
          try clear c18b1
          try clear c19
          try clear c19b0
          try clear c19b1
          try clear c20
          try clear c22
          try clear p22
          try clear q22
          try clear hx22
          try clear qi22
          try clear c24
          try clear c27
          try clear c30
          try clear c31
          try clear c33
          try clear c33b0
          try clear c34
          try clear c34b0
          try clear c35
          try clear c35b0
          try clear hcz12_0
          try clear hcz12_1
          try clear hcz12_2
          try clear hcz16_0
          try clear hcz16_1
          try clear hcz16_2
          try clear hcz21_0
          try clear hcz21_1
          try clear hcz21_2
          try clear hcz23_0
          try clear hcz25_0
          try clear hcz25_1
          try clear hcz25_2
          try clear hcz28_0
          try clear hcz28_1
          try clear hcz28_2
          try clear hcz32_0
          try clear hcz7_0
          try clear hfz12_0
          try clear hfz12_1
          try clear hfz12_2
          try clear hfz16_0
          try clear hfz16_1
          try clear hfz16_2
          try clear hfz21_0
          try clear hfz21_1
          try clear hfz21_2
          try clear hfz23_0
          try clear hfz25_0
          try clear hfz25_1
          try clear hfz25_2
          try clear hfz28_0
          try clear hfz28_1
          try clear hfz28_2
          try clear hfz32_0
          try clear hfz7_0
          try clear hx225_0
          try clear hx226_0
          try clear p2
          try clear p22
          try clear p225
          try clear p226
          try clear q2
          try clear q22
          try clear q225
          try clear q226
          obtain ⟨x6_3, x9_3, x48_3, rfl, rfl, rfl, HA, HK3, BK222, BK223, HB⟩ := hrel
          cases gk with
          | zero => exact absurd HA.out (by simp [booklet_Valid.l1])
          | succ k3 =>
           have H := HA.out
           clear HA
           simp only [booklet_Valid.l1] at H
           by_cases c36 : x48_3 < ((rd_L2 l1_0 x42_2).length : Int)
           ·rw [if_pos c36] at H
            have c36b0 : decide (x48_3 < ((rd_L2 l1_0 x42_2).length : Int)) = true := decide_eq_true c36
            clear c36
            by_cases c37 : 0 ≤ x48_3
            ·rw [if_pos c37] at H
             have c37b0 : decide (0 ≤ x48_3) = true := decide_eq_true c37
             clear c37
             by_cases c38 : x48_3 < ((rd_L2 l1_0 x42_2).length : Int)
             ·rw [if_pos c38] at H
              have c38b0 : decide (x48_3 < ((rd_L2 l1_0 x42_2).length : Int)) = true := decide_eq_true c38
              clear c38
              by_cases c39 : (rd (rd_L2 l1_0 x42_2) x48_3) = x6_3
              ·rw [if_pos c39] at H
               have c39b0 : ((rd (rd_L2 l1_0 x42_2) x48_3) == x6_3) = true := beq_iff_eq.mpr c39
               have c39b1 : ((rd (rd_L2 l1_0 x42_2) x48_3) != x6_3) = false := bne_eq_false_iff_eq.mpr c39
               clear c39
               by_cases c40 : (rd (rd_L2 l1_0 x42_2) x48_3) ≥ (l0_2.length : Int)
               ·rw [if_pos c40] at H
                have c40b0 : decide ((l0_2.length : Int) ≤ (rd (rd_L2 l1_0 x42_2) x48_3)) = true := decide_eq_true c40
                clear c40
                obtain rfl := Option.some.inj H
                have p227 : 0 ≤ (x48_3 : Int) := of_decide_eq_true (by first | (with_reducible assumption) | assumption)
                have q227 : x48_3 < ((rd_L2 l1_0 x42_2).length : Int) := of_decide_eq_true (by first | (with_reducible assumption) | assumption)
                obtain ⟨ad227, e227, hx227_0⟩ := Kd.at_int HR226_0.out x48_3 p227 q227
                cases e227
                replace hx227_0 := zx HB hx227_0
                replace p227 := eq_true p227
                replace q227 := eq_true q227
                have hnb41 := NB222_223.out
                have hnc41 := NB223_222.out
                obtain ⟨hcz42_0, hcz42_1, hcz42_2, hfz42_0, hfz42_1, hfz42_2⟩ := z3 BK222
                go_wp2
                go_ret
                exact ⟨zf, zm HB⟩
               ·rw [if_neg c40] at H
                have c40b0 : decide ((l0_2.length : Int) ≤ (rd (rd_L2 l1_0 x42_2) x48_3)) = false := decide_eq_false c40
                clear c40
                by_cases c43 : 0 ≤ (rd (rd_L2 l1_0 x42_2) x48_3)
                ·rw [if_pos c43] at H
                 have c43b0 : decide (0 ≤ (rd (rd_L2 l1_0 x42_2) x48_3)) = true := decide_eq_true c43
                 clear c43
                 by_cases c44 : (rd (rd_L2 l1_0 x42_2) x48_3) < (l0_2.length : Int)
                 ·rw [if_pos c44] at H
                  have c44b0 : decide ((rd (rd_L2 l1_0 x42_2) x48_3) < (l0_2.length : Int)) = true := decide_eq_true c44
                  clear c44
                  replace H := Option.bind_eq_some_iff.mp H
                  obtain ⟨t229, A450, H⟩ := H
                  replace H : (booklet_Valid.l1 k3 (wrap64 (x6_3 + 1)) (wrap64 (x9_3 - t229)) l1_0 (l1_0.length : Int) x42_2 (rd_L2 l1_0 x42_2) ((rd_L2 l1_0 x42_2).length : Int) (wrap64 (x48_3 + 1)) a0_0 a0_1 l0_2) = some r := H
                  have A45 := za A450
                  clear A450
                  have H' := za H
                  clear H
                  have p227 : 0 ≤ (x48_3 : Int) := of_decide_eq_true (by first | (with_reducible assumption) | assumption)
                  have q227 : x48_3 < ((rd_L2 l1_0 x42_2).length : Int) := of_decide_eq_true (by first | (with_reducible assumption) | assumption)
                  obtain ⟨ad227, e227, hx227_0⟩ := Kd.at_int HR226_0.out x48_3 p227 q227
                  cases e227
                  replace hx227_0 := zx HB hx227_0
                  replace p227 := eq_true p227
                  replace q227 := eq_true q227
                  have hnb46 := NB222_223.out
                  have hnc46 := NB223_222.out
                  obtain ⟨hcz47_0, hcz47_1, hcz47_2, hfz47_0, hfz47_1, hfz47_2⟩ := z3 BK222
                  have p228 : 0 ≤ ((rd (rd_L2 l1_0 x42_2) x48_3) : Int) := of_decide_eq_true (by first | (with_reducible assumption) | assumption)
                  have q228 : (rd (rd_L2 l1_0 x42_2) x48_3) < (l0_2.length : Int) := of_decide_eq_true (by first | (with_reducible assumption) | assumption)
                  obtain ⟨ad228, e228, hx228_0, hx228_1, hx228_2, hx228_3, hx228_4, hx228_5⟩ := at_T65 HR0_2.out (rd (rd_L2 l1_0 x42_2) x48_3) p228 q228
                  cases e228
                  replace hx228_0 := zx HB hx228_0
                  replace hx228_1 := zx HB hx228_1
                  replace hx228_2 := zx HB hx228_2
                  replace hx228_3 := zx HB hx228_3
                  replace hx228_4 := zx HB hx228_4
                  replace hx228_5 := zx HB hx228_5
                  replace p228 := eq_true p228
                  replace q228 := eq_true q228
                  go_wp2_with (first | ((with_reducible refine gate_callee (f := 55) rfl ?_); refine zL (some 68) Try.func55 #[.agg #[.int .i64 ((rd_T65 l0_2 (rd (rd_L2 l1_0 x42_2) x48_3)).f0), .int .i64 ((rd_T65 l0_2 (rd (rd_L2 l1_0 x42_2) x48_3)).f1), .int .i64 ((rd_T65 l0_2 (rd (rd_L2 l1_0 x42_2) x48_3)).f2), .int .i64 ((rd_T65 l0_2 (rd (rd_L2 l1_0 x42_2) x48_3)).f3), .int .i64 ((rd_T65 l0_2 (rd (rd_L2 l1_0 x42_2) x48_3)).f4), .int .i64 ((rd_T65 l0_2 (rd (rd_L2 l1_0 x42_2) x48_3)).f5)]] ?_; (with_reducible refine (booklet_Need.calls k3 ((rd_T65 l0_2 (rd (rd_L2 l1_0 x42_2) x48_3)).f0) ((rd_T65 l0_2 (rd (rd_L2 l1_0 x42_2) x48_3)).f1) ((rd_T65 l0_2 (rd (rd_L2 l1_0 x42_2) x48_3)).f2) ((rd_T65 l0_2 (rd (rd_L2 l1_0 x42_2) x48_3)).f3) ((rd_T65 l0_2 (rd (rd_L2 l1_0 x42_2) x48_3)).f4) ((rd_T65 l0_2 (rd (rd_L2 l1_0 x42_2) x48_3)).f5) t229 _ A45.out).mono ?_); rintro e w48 ⟨rfl, hb⟩; refine ⟨_, rfl, ?_⟩; replace BK222 := zb BK222 hb; replace BK223 := zb BK223 hb; replace HB := zs HB hb; (try clear hb); (try clear hb2); (try clear hk); (try clear hi)))
                  go_roundg k3
                  case measure => have := HJ2.out; have := HK2.out; have := HK3.out; omega
                  case rel => exact ⟨(wrap64 (x6_3 + 1)), (wrap64 (x9_3 - t229)), (wrap64 (x48_3 + 1)), (by first | rfl | (simp; done) | (simp [*]; done)), (by first | rfl | (simp; done) | (simp [*]; done)), (by first | rfl | (simp; done) | (simp [*]; done)), H', ⟨by have := HJ2.out; have := HK2.out; have := HK3.out; omega⟩, ⟨by (with_reducible repeat (first | refine blk_drewN ?_ _ | refine blk_drew ?_ | refine blk_alloc ?_ _)); exact BK222.out⟩, ⟨by (with_reducible repeat (first | refine blk_drewN ?_ _ | refine blk_drew ?_ | refine blk_alloc ?_ _)); exact BK223.out⟩, ⟨zm HB⟩⟩
                 ·rw [if_neg c44] at H
                  exact absurd H (by simp)
                ·rw [if_neg c43] at H
                 exact absurd H (by simp)
              ·rw [if_neg c39] at H
               have c39b0 : ((rd (rd_L2 l1_0 x42_2) x48_3) == x6_3) = false := beq_eq_false_iff_ne.mpr c39
               have c39b1 : ((rd (rd_L2 l1_0 x42_2) x48_3) != x6_3) = true := bne_iff_ne.mpr c39
               obtain rfl := Option.some.inj H
               have p227 : 0 ≤ (x48_3 : Int) := of_decide_eq_true (by first | (with_reducible assumption) | assumption)
               have q227 : x48_3 < ((rd_L2 l1_0 x42_2).length : Int) := of_decide_eq_true (by first | (with_reducible assumption) | assumption)
               obtain ⟨ad227, e227, hx227_0⟩ := Kd.at_int HR226_0.out x48_3 p227 q227
               cases e227
               replace hx227_0 := zx HB hx227_0
               replace p227 := eq_true p227
               replace q227 := eq_true q227
               go_wp2
               go_ret
               exact ⟨zf, zm HB⟩
             ·rw [if_neg c38] at H
              exact absurd H (by simp)
            ·rw [if_neg c37] at H
             exact absurd H (by simp)
           ·rw [if_neg c36] at H
            have c36b0 : decide (x48_3 < ((rd_L2 l1_0 x42_2).length : Int)) = false := decide_eq_false c36
            clear c36
            by_cases c49 : x9_3 < 0
            ·rw [if_pos c49] at H
             have c49b0 : decide (x9_3 < 0) = true := decide_eq_true c49
             clear c49
             obtain rfl := Option.some.inj H
             go_wp2
             go_ret
             exact ⟨zf, zm HB⟩
            ·rw [if_neg c49] at H
             have c49b0 : decide (x9_3 < 0) = false := decide_eq_false c49
             clear c49
             have H' := za H
             clear H
             go_wp2
             go_roundg k3
             case measure => have := HJ2.out; have := HK2.out; have := HK3.out; omega
             case rel => exact ⟨(x6_3), (wrap64 (x42_2 + 1)), (by first | rfl | (simp; done) | (simp [*]; done)), (by first | rfl | (simp; done) | (simp [*]; done)), H', ⟨by have := HJ2.out; have := HK2.out; have := HK3.out; omega⟩, ⟨by (with_reducible repeat (first | refine blk_drewN ?_ _ | refine blk_drew ?_ | refine blk_alloc ?_ _)); exact BK222.out⟩, ⟨by (with_reducible repeat (first | refine blk_drewN ?_ _ | refine blk_drew ?_ | refine blk_alloc ?_ _)); exact BK223.out⟩, ⟨zm HB⟩⟩
        ·rw [if_neg c35] at H
         exact absurd H (by simp)
       ·rw [if_neg c34] at H
        exact absurd H (by simp)
      ·rw [if_neg c33] at H
       have c33b0 : decide (x42_2 < (l1_0.length : Int)) = false := decide_eq_false c33
       clear c33
       obtain rfl := Option.some.inj H
       have hnb50 := NB222_223.out
       have hnc50 := NB223_222.out
       obtain ⟨hcz51_0, hcz51_1, hcz51_2, hfz51_0, hfz51_1, hfz51_2⟩ := z3 BK222
       go_wp2
       go_ret
       exact ⟨zf, zm HB⟩

end Go.Proofs.Ythbmpjglkbhhgaa.Print
