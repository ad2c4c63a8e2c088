-- Printed by a program of this session (wip/own_print.py) out of the translation; Lean checks it.
import Derived.Test.YtinmdoemkejanaaPrint0
import Derived.Test.YtinmdoemkejanaaPrint2
namespace Go.Proofs.Ytinmdoemkejanaa.Print
open Go.RowKit Go.Proofs.YtinmdoemkejanaaW.PrintWords Go.Proofs.YtinmdoemkejanaaW.PrintLast Go.Proofs.YtinmdoemkejanaaW.PrintMore
attribute [local go_sem] max2_int min2_int max_two min_two max_three min_three max_four min_four   -- for this text's walks alone
set_option linter.unusedVariables false
set_option linter.unusedSimpArgs false

/-- A state of type 54 at block g of W; what its slices lead to came in by w0. -/
def IsS54 (w0 W : World) (g : Nat) (f0 : List Int) (f1 : Int) : Prop := ∃ A0 c0, W.heap[g]? = some (.cells #[.slice A0 f0.length c0, .int .i64 f1] 54 (0, 0)) ∧ w0.heap.size ≤ g ∧ Kd.C (Kd.int .i64) w0 A0 f0.length f0
theorem IsS54.grown {w0 W : World} {g : Nat} {f0 : List Int} {f1 : Int} {W1 : World} {row : Option Nat} (h : IsS54 w0 W g f0 f1) (hw : W.grownBy W1 row) (hne : some g ≠ row) : IsS54 w0 W1 g f0 f1 := by
  obtain ⟨A0, c0, hb, hg, hr0⟩ := h
  exact ⟨A0, c0, blk_grown hb hw hne, hg, hr0⟩
theorem IsS54.own_neN {w0 W : World} {g : Nat} {f0 : List Int} {f1 : Int} {α : Type} {d : Kd α} {e : Nat} {base : Nat} {ok : Nat → Prop} {v : Value} {xs : List α} (h : IsS54 w0 W g f0 f1) (ho : Kd.N d e W base ok v xs) (ht : e ≠ 54) : some g ≠ v.ownBlock := by
  obtain ⟨A0, c0, hb, hg, hr0⟩ := h
  exact Kd.N_ne ho hb ht
theorem IsS54.fresh {w0 W : World} {g : Nat} {f0 : List Int} {f1 : Int} (h : IsS54 w0 W g f0 f1) : ∀ k, W.heap.size ≤ k → k ≠ g := by
  obtain ⟨A0, c0, hb, hg, hr0⟩ := h
  exact Kd.freshB hb
theorem IsS54.kept {w0 W : World} {g : Nat} {f0 : List Int} {f1 : Int} {W1 : World} {S : Nat → Prop} (h : IsS54 w0 W g f0 f1) (hk : Kept W W1 S) (hne : ¬ S g) : IsS54 w0 W1 g f0 f1 := by
  obtain ⟨A0, c0, hb, hg, hr0⟩ := h
  exact ⟨A0, c0, blk_kept hb hk hne, hg, hr0⟩
theorem IsS54.below {w0 W : World} {g : Nat} {f0 : List Int} {f1 : Int} {W1 : World} (h : IsS54 w0 W g f0 f1) (hw : Below W.heap.size W W1) : IsS54 w0 W1 g f0 f1 := h.grown (grown_of_below hw none) (by simp)
theorem IsS54.alloc {w0 W : World} {g : Nat} {f0 : List Int} {f1 : Int} (h : IsS54 w0 W g f0 f1) (o : Obj) : IsS54 w0 (W.alloc o) g f0 f1 := h.below (below_alloc (Below.refl _ _) o)
theorem IsS54.drewN {w0 W : World} {g : Nat} {f0 : List Int} {f1 : Int} (h : IsS54 w0 W g f0 f1) (m : Nat) : IsS54 w0 (W.drewN m) g f0 f1 := h
theorem IsS54.drew {w0 W : World} {g : Nat} {f0 : List Int} {f1 : Int} (h : IsS54 w0 W g f0 f1) : IsS54 w0 W.drew g f0 f1 := h
theorem IsS54.at_ {w0 W : World} {g : Nat} {f0 : List Int} {f1 : Int} {w' : World} {m : Nat} (hq : W.drewN m = w') (h : IsS54 w0 W g f0 f1) : IsS54 w0 w' g f0 f1 := by subst hq; exact IsS54.drewN h m
theorem IsS54.apart {w0 W : World} {g : Nat} {f0 : List Int} {f1 : Int} {α : Type} {d : Kd α} {e : Nat} {base : Nat} {ok : Nat → Prop} {v : Value} {xs : List α} (h : IsS54 w0 W g f0 f1) (ho : d.R e W base ok v xs) (ht : ∀ q, q ∈ e :: d.E → q ≠ 54) : d.R e W base (fun k => ok k ∧ k ≠ g) v xs := by
  obtain ⟨A0, c0, hb, hg, hr0⟩ := h
  exact Kd.R_types ho hb ht
theorem IsS54.own_ne {w0 W : World} {g : Nat} {f0 : List Int} {f1 : Int} {α : Type} {d : Kd α} {e : Nat} {base : Nat} {ok : Nat → Prop} {v : Value} {xs : List α} (h : IsS54 w0 W g f0 f1) (ho : d.R e W base ok v xs) (ht : e ≠ 54) : some g ≠ v.ownBlock := by
  obtain ⟨A0, c0, hb, hg, hr0⟩ := h
  exact Kd.R_ne ho hb ht
theorem IsS54.apartQ {w0 W : World} {g : Nat} {f0 : List Int} {f1 : Int} {α : Type} {d : Kd α} {e : Nat} {base : Nat} {ok : Nat → Prop} {v : Value} {xs : List α} (h : IsS54 w0 W g f0 f1) (ho : d.Q e W base ok v xs) (ht : ∀ q, q ∈ e :: d.E → q ≠ 54) : d.Q e W base (fun k => ok k ∧ k ≠ g) v xs := by
  obtain ⟨A0, c0, hb, hg, hr0⟩ := h
  exact Kd.Q_types ho hb ht
theorem IsS54.own_neQ {w0 W : World} {g : Nat} {f0 : List Int} {f1 : Int} {α : Type} {d : Kd α} {e : Nat} {base : Nat} {ok : Nat → Prop} {v : Value} {xs : List α} (h : IsS54 w0 W g f0 f1) (ho : d.Q e W base ok v xs) (ht : e ≠ 54) : some g ≠ v.ownBlock := by
  obtain ⟨A0, c0, hb, hg, hr0⟩ := h
  exact Kd.Q_ne ho hb ht
theorem IsS54.apartS {w0 W : World} {g : Nat} {f0 : List Int} {f1 : Int} {α : Type} {d : Kd α} {e : Nat} {base : Nat} {ok : Nat → Prop} {v : Value} {xs : List α} (h : IsS54 w0 W g f0 f1) (ho : d.S e W base ok v xs) (ht : ∀ q, q ∈ e :: d.E → q ≠ 54) : d.S e W base (fun k => ok k ∧ k ≠ g) v xs := by
  obtain ⟨A0, c0, hb, hg, hr0⟩ := h
  exact Kd.S_types ho hb ht
theorem IsS54.own_neS {w0 W : World} {g : Nat} {f0 : List Int} {f1 : Int} {α : Type} {d : Kd α} {e : Nat} {base : Nat} {ok : Nat → Prop} {v : Value} {xs : List α} (h : IsS54 w0 W g f0 f1) (ho : d.S e W base ok v xs) (ht : e ≠ 54) : some g ≠ v.ownBlock := by
  obtain ⟨A0, c0, hb, hg, hr0⟩ := h
  exact Kd.S_ne ho hb ht
theorem IsS54.lt {w0 W : World} {g : Nat} {f0 : List Int} {f1 : Int} (h : IsS54 w0 W g f0 f1) : g < W.heap.size := by
  obtain ⟨A0, c0, hb, hg, hr0⟩ := h
  exact blk_lt hb
theorem IsS54.ge {w0 W : World} {g : Nat} {f0 : List Int} {f1 : Int} (h : IsS54 w0 W g f0 f1) : w0.heap.size ≤ g := by
  obtain ⟨A0, c0, hb, hg, hr0⟩ := h
  exact hg
theorem IsS54.ne_blk {w0 W : World} {g : Nat} {f0 : List Int} {f1 : Int} {a : Nat} {cs : Array Value} {t : TypeId} {fr : Nat × Nat} (h : IsS54 w0 W g f0 f1) (hb2 : W.heap[a]? = some (.cells cs t fr)) (ht : t ≠ 54) : g ≠ a := by
  obtain ⟨A0, c0, hb, hg, hr0⟩ := h
  rintro rfl
  rw [hb] at hb2
  injection hb2 with hb2
  injection hb2 with _ ht2
  exact ht ht2.symm
theorem IsS54.far {w0 W : World} {g : Nat} {f0 : List Int} {f1 : Int} {p : Addr} (h : IsS54 w0 W g f0 f1) (hne : g ≠ p.block) (u : Value) : IsS54 w0 (W.setCell p u) g f0 f1 := by
  obtain ⟨A0, c0, hb, hg, hr0⟩ := h
  exact ⟨A0, c0, blk_far hb hne u, hg, hr0⟩
theorem cellS54_0 {W : World} {g : Nat} {A0 : Option Addr} {c0 : Nat} {f0 : List Int} {f1 : Int} (h : W.heap[g]? = some (.cells #[.slice A0 f0.length c0, .int .i64 f1] 54 (0, 0))) : W.cell? ⟨g, 0, none⟩ = some (.slice A0 f0.length c0) := (blk_cell h 0).trans rfl
theorem cellS54_1 {W : World} {g : Nat} {A0 : Option Addr} {c0 : Nat} {f0 : List Int} {f1 : Int} (h : W.heap[g]? = some (.cells #[.slice A0 f0.length c0, .int .i64 f1] 54 (0, 0))) : W.cell? ⟨g, 1, none⟩ = some (.int .i64 f1) := (blk_cell h 1).trans rfl
theorem IsS54.set_1 {w0 W : World} {g : Nat} {f0 : List Int} {f1 : Int} (h : IsS54 w0 W g f0 f1) (x : Int) : IsS54 w0 (W.setCell ⟨g, 1, none⟩ (.int .i64 x)) g f0 x := by
  obtain ⟨A0, c0, hb, hg, hr0⟩ := h
  exact ⟨A0, c0, by simpa using blk_set hb 1 (.int .i64 x), hg, hr0⟩
theorem IsS54.new (w0 W : World) (A0 : Option Addr) (c0 : Nat) (f0 : List Int) (f1 : Int) (hB : Below w0.heap.size w0 W) (hr0 : Kd.C (Kd.int .i64) w0 A0 f0.length f0) : IsS54 w0 (W.alloc (.cells #[.slice A0 f0.length c0, .int .i64 f1] 54)) W.heap.size f0 f1 := ⟨A0, c0, by simpa using heap_alloc_new W _, hB.size, hr0⟩

/-! ### awardingbodymake_New: function 15 -/
def awardingbodymake_New.f (l0 : List Int) : Option (List Int × Int) := if (l0.length : Int) > 600 then (if 600 ≤ (l0.length : Int) then (some (l0.take 600, 0)) else (none)) else (some (l0, 0))
set_option maxHeartbeats 8000000 in
set_option maxRecDepth 100000 in
theorem awardingbodymake_New.calls (A0 : Option Addr) (c0 : Nat) (l0 : List Int) (r1 : List Int) (r2 : Int) (w0 w : World) (hB : Below w0.heap.size w0 w) (hr0 : Kd.C (Kd.int .i64) w0 A0 l0.length l0) (hc0 : l0.length ≤ c0) (h : awardingbodymake_New.f l0 = some (r1, r2)) :
    Calls Try.prog 15 #[.slice A0 l0.length c0] w fun e w' => ∃ g_ : Nat, e = .returned (.pointer (some ⟨g_, 0, none⟩)) ∧ IsS54 w0 w' g_ r1 r2 ∧ Below w0.heap.size w0 w' ∧ Below w.heap.size w w' := by
 have hu54 := Try.underlying54
 have HR0 := Aside0.mk hr0
 have HC0 := Aside0.mk hc0
 clear hr0 hc0
 have HBW := Aside0.mk (Below.refl w.heap.size w)
 have HW0 := Aside0.mk hB.size
 have HB := Aside0.mk hB
 clear hB
 have H : (if (l0.length : Int) > 600 then (if 600 ≤ (l0.length : Int) then (some (l0.take 600, 0)) else (none)) else (some (l0, 0))) = some (r1, r2) := h
 clear h
 by_cases c2 : (l0.length : Int) > 600
 ·rw [if_pos c2] at H
  have c2b0 : decide (600 < (l0.length : Int)) = true := decide_eq_true c2
  have c2b1 : decide (600 < l0.length) = true := decide_eq_true (by omega)
  clear c2
  by_cases c3 : 600 ≤ (l0.length : Int)
  ·rw [if_pos c3] at H
   have c3b0 := eq_true c3
   have c3b1 : decide (600 ≤ (l0.length : Int)) = true := decide_eq_true c3
   clear c3
   simp only [Option.some.injEq, Prod.mk.injEq] at H
   obtain ⟨rfl, rfl⟩ := H
   obtain ⟨i04, hi04, _, hsz4, _⟩ := info_parts info3
   obtain ⟨hcut4, hA4, hC4⟩ := print_take_of (P := Try.prog) (Value.int .i64) 0 28 3 .i64 Try.underlying28 hi04 hsz4 A0 c0 l0 600 (by omega) (of_decide_eq_true (by first | (with_reducible assumption) | assumption)) HC0.out
   have HR184 := Aside0.mk (Kd.C_of_reads (h1 := fun _ => rfl) (hA4 _ (Kd.reads_of_C HR0.out)))
   have HC184 := Aside0.mk hC4
   clear hA4 hC4 hi04 hsz4
   go_enter Try.func15, Try.ntmps15
   go_wp2_with (first | ((with_reducible refine gate_dst (N := 10) rfl ?_); refine box_event ?hg (N := 10) ?hd (cs := #[.slice A0 (l0.take 600).length c0, .int .i64 0]) (t := 54) ?hr ?_; (case hd => rfl); (case hg => rfl); (case hr => first | (go_simp; done) | (go_simp; rfl)); intro gb185 hg w5 hbox hb; have n0_ := Aside0.mk (below_step HBW.out hb); have n1_ := Aside0.mk (below_step (by repeat (first | (with_reducible first | exact HB.out | apply below_alloc | apply pw_below_drewN | apply below_drew1) | exact HB.out)) hb); have n2_ := Aside0.mk (hbox); have n3_ := Aside0.mk ((by rw [hg]; exact (below_size (by repeat (first | (with_reducible first | exact HBW.out | apply below_alloc | apply pw_below_drewN | apply below_drew1) | exact HBW.out))) : w.heap.size ≤ gb185)); have n4_ := Aside0.mk ((Nat.le_trans HW0.out (by rw [hg]; exact (below_size (by repeat (first | (with_reducible first | exact HBW.out | apply below_alloc | apply pw_below_drewN | apply below_drew1) | exact HBW.out))) : w.heap.size ≤ gb185) : w0.heap.size ≤ gb185)); clear HBW; clear HB; have HBW := n0_; have HB := n1_; have BK185 := n2_; have GW185 := n3_; have GE185 := n4_; clear n0_ n1_ n2_ n3_ n4_; clear hb hbox hg))
   go_ret
   exact ⟨_, rfl, (show IsS54 w0 _ gb185 (l0.take 600) 0 from ⟨_, _, by (with_reducible repeat (first | refine blk_drewN ?_ _ | refine blk_drew ?_ | refine blk_alloc ?_ _)); exact BK185.out, GE185.out, HR184.out⟩), by repeat (first | (with_reducible first | exact HB.out | apply below_alloc | apply pw_below_drewN | apply below_drew1 | refine below_set ?_ GE185.out) | exact HB.out), by repeat (first | (with_reducible first | exact HBW.out | apply below_alloc | apply pw_below_drewN | apply below_drew1 | refine below_set ?_ GW185.out) | exact HBW.out)⟩
  ·rw [if_neg c3] at H
   exact absurd H (by simp)
 ·rw [if_neg c2] at H
  have c2b0 : decide (600 < (l0.length : Int)) = false := decide_eq_false c2
  have c2b1 : decide (600 < l0.length) = false := decide_eq_false (by omega)
  clear c2
  simp only [Option.some.injEq, Prod.mk.injEq] at H
  obtain ⟨rfl, rfl⟩ := H
  go_enter Try.func15, Try.ntmps15
  go_wp2_with (first | ((with_reducible refine gate_dst (N := 10) rfl ?_); refine box_event ?hg (N := 10) ?hd (cs := #[.slice A0 l0.length c0, .int .i64 0]) (t := 54) ?hr ?_; (case hd => rfl); (case hg => rfl); (case hr => first | (go_simp; done) | (go_simp; rfl)); intro gb186 hg w6 hbox hb; have n0_ := Aside0.mk (below_step HBW.out hb); have n1_ := Aside0.mk (below_step (by repeat (first | (with_reducible first | exact HB.out | apply below_alloc | apply pw_below_drewN | apply below_drew1) | exact HB.out)) hb); have n2_ := Aside0.mk (hbox); have n3_ := Aside0.mk ((by rw [hg]; exact (below_size (by repeat (first | (with_reducible first | exact HBW.out | apply below_alloc | apply pw_below_drewN | apply below_drew1) | exact HBW.out))) : w.heap.size ≤ gb186)); have n4_ := Aside0.mk ((Nat.le_trans HW0.out (by rw [hg]; exact (below_size (by repeat (first | (with_reducible first | exact HBW.out | apply below_alloc | apply pw_below_drewN | apply below_drew1) | exact HBW.out))) : w.heap.size ≤ gb186) : w0.heap.size ≤ gb186)); clear HBW; clear HB; have HBW := n0_; have HB := n1_; have BK186 := n2_; have GW186 := n3_; have GE186 := n4_; clear n0_ n1_ n2_ n3_ n4_; clear hb hbox hg))
  go_ret
  exact ⟨_, rfl, (show IsS54 w0 _ gb186 l0 0 from ⟨_, _, by (with_reducible repeat (first | refine blk_drewN ?_ _ | refine blk_drew ?_ | refine blk_alloc ?_ _)); exact BK186.out, GE186.out, HR0.out⟩), by repeat (first | (with_reducible first | exact HB.out | apply below_alloc | apply pw_below_drewN | apply below_drew1 | refine below_set ?_ GE186.out) | exact HB.out), by repeat (first | (with_reducible first | exact HBW.out | apply below_alloc | apply pw_below_drewN | apply below_drew1 | refine below_set ?_ GW186.out) | exact HBW.out)⟩

/-! ### awardingbodymake_Tape_Raw: function 41 -/
def awardingbodymake_Tape_Raw.f (s0_0 : List Int) (s0_1 : Int) : Option (Int × Int) := if s0_1 ≥ (s0_0.length : Int) then (some (0, s0_1)) else (if 0 ≤ (wrap64 ((wrap64 (s0_1 + 1)) - 1)) then (if (wrap64 ((wrap64 (s0_1 + 1)) - 1)) < (s0_0.length : Int) then (some (rd s0_0 (wrap64 ((wrap64 (s0_1 + 1)) - 1)), wrap64 (s0_1 + 1))) else (none)) else (none))
set_option maxHeartbeats 8000000 in
set_option maxRecDepth 100000 in
theorem awardingbodymake_Tape_Raw.calls (g : Nat) (s0_0 : List Int) (s0_1 : Int) (r1 : Int) (r2 : Int) (w0 w : World) (hI : IsS54 w0 w g s0_0 s0_1) (hB : Below w0.heap.size w0 w) (h : awardingbodymake_Tape_Raw.f s0_0 s0_1 = some (r1, r2)) :
    Calls Try.prog 41 #[.pointer (some ⟨g, 0, none⟩)] w fun e w' => e = .returned (.int .i64 r1) ∧ IsS54 w0 w' g s0_0 r2 ∧ Below w0.heap.size w0 w' ∧ KeepBut w w' g none := by
 have HI0 := Aside0.mk hI
 have HK := Aside0.mk (KeepBut.refl w g none)
 have HL := Aside0.mk hB.size
 clear hI
 have HW0 := Aside0.mk hB.size
 have HB := Aside0.mk hB
 clear hB
 have H : (if s0_1 ≥ (s0_0.length : Int) then (some (0, s0_1)) else (if 0 ≤ (wrap64 ((wrap64 (s0_1 + 1)) - 1)) then (if (wrap64 ((wrap64 (s0_1 + 1)) - 1)) < (s0_0.length : Int) then (some (rd s0_0 (wrap64 ((wrap64 (s0_1 + 1)) - 1)), wrap64 (s0_1 + 1))) else (none)) else (none))) = some (r1, r2) := h
 clear h
 by_cases c2 : s0_1 ≥ (s0_0.length : Int)
 ·rw [if_pos c2] at H
  have c2b0 : decide ((s0_0.length : Int) ≤ s0_1) = true := decide_eq_true c2
  clear c2
  simp only [Option.some.injEq, Prod.mk.injEq] at H
  obtain ⟨rfl, rfl⟩ := H
  obtain ⟨ASz3_0, cSz3_0, HGz3, hgz3, HSz3_0⟩ := HI0.out
  have hcz3_0 := cellS54_0 HGz3
  have hcz3_1 := cellS54_1 HGz3
  have hfz3_1 := blk_frozen HGz3 1
  clear HGz3 hgz3
  go_enter Try.func41, Try.ntmps41
  go_wp2
  repeat (go_quiet (fail); try go_wp2)
  go_ret
  exact ⟨by first | rfl | (simp [errW_none, errW_some] <;> rfl) | (simp [*, errW_none, errW_some] <;> rfl), by repeat (first | (with_reducible first | exact HI0.out | apply IsS54.alloc | apply IsS54.drewN | apply IsS54.drew | apply IsS54.set_1) | exact HI0.out), by repeat (first | (with_reducible first | exact HB.out | apply below_alloc | apply pw_below_drewN | apply below_drew1 | refine below_set ?_ (IsS54.ge HI0.out)) | exact HB.out), by repeat (first | (with_reducible first | exact HK.out | apply KeepBut.set_ | apply keep_drewN | apply keep_drew | apply keep_alloc) | exact HK.out)⟩
 ·rw [if_neg c2] at H
  have c2b0 : decide ((s0_0.length : Int) ≤ s0_1) = false := decide_eq_false c2
  clear c2
  obtain ⟨ji4, hji4⟩ : ∃ j_ : Int, (wrap64 ((wrap64 (s0_1 + 1)) - 1)) = j_ := ⟨_, rfl⟩
  replace H : (if 0 ≤ (ji4) then (if (ji4) < (s0_0.length : Int) then (some (rd s0_0 (ji4), wrap64 (s0_1 + 1))) else (none)) else (none)) = some (r1, r2) := by first | (rw [hji4] at H; exact H) | (simp only [hji4] at H ⊢; exact H)
  have hji4w : (IntKind.i64.wrap ((wrap64 (s0_1 + 1)) - 1)) = ji4 := (i64_w _).trans hji4
  by_cases c5 : 0 ≤ (ji4)
  ·rw [if_pos c5] at H
   have c5b0 : decide (0 ≤ (ji4)) = true := decide_eq_true c5
   clear c5
   by_cases c6 : (ji4) < (s0_0.length : Int)
   ·rw [if_pos c6] at H
    have c6b0 : decide ((ji4) < (s0_0.length : Int)) = true := decide_eq_true c6
    clear c6
    simp only [Option.some.injEq, Prod.mk.injEq] at H
    obtain ⟨rfl, rfl⟩ := H
    obtain ⟨ASz7_0, cSz7_0, HGz7, hgz7, HSz7_0⟩ := HI0.out
    have hcz7_0 := cellS54_0 HGz7
    have hcz7_1 := cellS54_1 HGz7
    have hfz7_1 := blk_frozen HGz7 1
    clear HGz7 hgz7
    have p187 : 0 ≤ ((ji4) : Int) := of_decide_eq_true (by first | (with_reducible assumption) | assumption)
    have q187 : (ji4) < (s0_0.length : Int) := of_decide_eq_true (by first | (with_reducible assumption) | assumption)
    obtain ⟨ad187, e187, hx187_0⟩ := Kd.at_int HSz7_0 (ji4) p187 q187
    cases e187
    have hn187_0 : ad187.block ≠ g := Nat.ne_of_lt (Nat.lt_of_lt_of_le (by have := World.block_lt_of_cell? _ _ hx187_0; first | rwa [add_block] at this | exact this) (IsS54.ge HI0.out))
    replace hx187_0 := pw_cell_below HB.out hx187_0
    replace hx187_0 := (cell_far (p := ⟨g, 1, none⟩) (by first | (rw [add_block]; exact hn187_0) | (show (Addr.add _ _).block ≠ _; rw [add_block]; exact hn187_0) | exact hn187_0) (.int .i64 (wrap64 (s0_1 + 1)))).trans hx187_0
    (try have hy187_0 := fun (n_ : Nat) => (show (((w.drewN n_).setCell ⟨g, 1, none⟩ (.int .i64 (wrap64 (s0_1 + 1))))).cell? _ = some _ from hx187_0))
    clear hn187_0
    replace p187 := eq_true p187
    replace q187 := eq_true q187
    go_enter Try.func41, Try.ntmps41
    go_wp2
    repeat (go_quiet (fail); try go_wp2)
    go_ret
    exact ⟨by first | rfl | (simp [errW_none, errW_some] <;> rfl) | (simp only [← hji4]; first | rfl | (simp [errW_none, errW_some] <;> rfl)) | (simp [*, errW_none, errW_some] <;> rfl), by repeat (first | (with_reducible first | exact HI0.out | apply IsS54.alloc | apply IsS54.drewN | apply IsS54.drew | apply IsS54.set_1) | exact HI0.out), by repeat (first | (with_reducible first | exact HB.out | apply below_alloc | apply pw_below_drewN | apply below_drew1 | refine below_set ?_ (IsS54.ge HI0.out)) | exact HB.out), by repeat (first | (with_reducible first | exact HK.out | apply KeepBut.set_ | apply keep_drewN | apply keep_drew | apply keep_alloc) | exact HK.out)⟩
   ·rw [if_neg c6] at H
    exact absurd H (by simp)
  ·rw [if_neg c5] at H
   exact absurd H (by simp)

/-! ### awardingbodymake_Tape_Next: function 17 -/
def awardingbodymake_Tape_Next.f (s0_0 : List Int) (s0_1 : Int) (a1 : Int) : Option (Int × Int) := (awardingbodymake_Tape_Raw.f s0_0 s0_1).bind fun bt188 => ((awardingbodymake_Cut.f bt188.1 a1).bind fun t190 => (some (t190, bt188.2)))
set_option maxHeartbeats 8000000 in
set_option maxRecDepth 100000 in
theorem awardingbodymake_Tape_Next.calls (g : Nat) (s0_0 : List Int) (s0_1 : Int) (a1 : Int) (r1 : Int) (r2 : Int) (w0 w : World) (hI : IsS54 w0 w g s0_0 s0_1) (hB : Below w0.heap.size w0 w) (h : awardingbodymake_Tape_Next.f s0_0 s0_1 a1 = some (r1, r2)) :
    Calls Try.prog 17 #[.pointer (some ⟨g, 0, none⟩), .int .i64 a1] w fun e w' => e = .returned (.int .i64 r1) ∧ IsS54 w0 w' g s0_0 r2 ∧ Below w0.heap.size w0 w' ∧ KeepBut w w' g none := by
 have HI0 := Aside0.mk hI
 have HK := Aside0.mk (KeepBut.refl w g none)
 have HL := Aside0.mk hB.size
 clear hI
 have HW0 := Aside0.mk hB.size
 have HB := Aside0.mk hB
 clear hB
 have H : ((awardingbodymake_Tape_Raw.f s0_0 s0_1).bind fun bt188 => ((awardingbodymake_Cut.f bt188.1 a1).bind fun t190 => (some (t190, bt188.2)))) = some (r1, r2) := h
 clear h
 replace H := Option.bind_eq_some_iff.mp H
 obtain ⟨⟨t188, t189⟩, A30, H⟩ := H
 replace H : ((awardingbodymake_Cut.f t188 a1).bind fun t190 => (some (t190, t189))) = some (r1, r2) := H
 have A3 := Aside0.mk A30
 clear A30
 replace H := Option.bind_eq_some_iff.mp H
 obtain ⟨t190, A40, H⟩ := H
 replace H : (some (t190, t189)) = some (r1, r2) := H
 have A4 := Aside0.mk A40
 clear A40
 simp only [Option.some.injEq, Prod.mk.injEq] at H
 obtain ⟨rfl, rfl⟩ := H
 go_enter Try.func17, Try.ntmps17
 go_wp2_with (first | ((with_reducible refine gate_callee (f := 41) rfl ?_); refine goesL_ (some 6) rfl rfl Try.func41 (by kernel_rfl) rfl #[.pointer (some ⟨g, 0, none⟩)] rfl (by (try simp only [List.map_toArray, List.map_cons, List.map_nil]); first | done | rfl | (simp only [List.length_drop, List.length_take]; rfl)) ?_; (with_reducible refine (awardingbodymake_Tape_Raw.calls g s0_0 s0_1 t188 t189 w0 _ ?side1 ?side2 A3.out).mono ?_); (case side1 => repeat (first | (with_reducible first | exact HI0.out | apply IsS54.alloc | apply IsS54.drewN | apply IsS54.drew | apply IsS54.set_1) | exact HI0.out)); (case side2 => repeat (first | (with_reducible first | exact HB.out | apply below_alloc | apply pw_below_drewN | apply below_drew1 | refine below_set ?_ (IsS54.ge HI0.out)) | exact HB.out)); rintro e w5 ⟨rfl, hi, hb, hk⟩; refine ⟨_, rfl, ?_⟩; have n0_ := Aside0.mk (KeepBut.trans (by repeat (first | (with_reducible first | exact HK.out | apply KeepBut.set_ | apply keep_drewN | apply keep_drew | apply keep_alloc) | exact HK.out)) hk (.inl rfl)); have n1_ := Aside0.mk (hb); have n2_ := Aside0.mk (hi); clear HK; clear HB; clear HI0; have HK := n0_; have HB := n1_; have HI0 := n2_; clear n0_ n1_ n2_; (try clear hb); (try clear hb2); (try clear hk); (try clear hi)) | ((with_reducible refine gate_callee (f := 11) rfl ?_); refine goesL_ (some 8) rfl rfl Try.func11 (by kernel_rfl) rfl #[.int .i64 t188, .int .i64 a1] rfl (by (try simp only [List.map_toArray, List.map_cons, List.map_nil]); first | done | rfl | (simp only [List.length_drop, List.length_take]; rfl)) ?_; (with_reducible refine (awardingbodymake_Cut.calls t188 a1 t190 _ A4.out).mono ?_); rintro e w' ⟨rfl, ⟨nd, rfl⟩⟩; refine ⟨_, rfl, ?_⟩))
 go_ret
 exact ⟨by first | rfl | (simp [errW_none, errW_some] <;> rfl) | (simp [*, errW_none, errW_some] <;> rfl), by repeat (first | (with_reducible first | exact HI0.out | apply IsS54.alloc | apply IsS54.drewN | apply IsS54.drew | apply IsS54.set_1) | exact HI0.out), by repeat (first | (with_reducible first | exact HB.out | apply below_alloc | apply pw_below_drewN | apply below_drew1 | refine below_set ?_ (IsS54.ge HI0.out)) | exact HB.out), by repeat (first | (with_reducible first | exact HK.out | apply KeepBut.set_ | apply keep_drewN | apply keep_drew | apply keep_alloc) | exact HK.out)⟩

/-! ### awardingbodymake_Tape_Range: function 18 -/
def awardingbodymake_Tape_Range.f (s0_0 : List Int) (s0_1 : Int) (a1 : Int) (a2 : Int) : Option (Int × Int) := (awardingbodymake_Tape_Next.f s0_0 s0_1 (wrap64 ((wrap64 (a2 - a1)) + 1))).bind fun bt191 => (some (wrap64 (a1 + bt191.1), bt191.2))
set_option maxHeartbeats 8000000 in
set_option maxRecDepth 100000 in
theorem awardingbodymake_Tape_Range.calls (g : Nat) (s0_0 : List Int) (s0_1 : Int) (a1 : Int) (a2 : Int) (r1 : Int) (r2 : Int) (w0 w : World) (hI : IsS54 w0 w g s0_0 s0_1) (hB : Below w0.heap.size w0 w) (h : awardingbodymake_Tape_Range.f s0_0 s0_1 a1 a2 = some (r1, r2)) :
    Calls Try.prog 18 #[.pointer (some ⟨g, 0, none⟩), .int .i64 a1, .int .i64 a2] w fun e w' => e = .returned (.int .i64 r1) ∧ IsS54 w0 w' g s0_0 r2 ∧ Below w0.heap.size w0 w' ∧ KeepBut w w' g none := by
 have HI0 := Aside0.mk hI
 have HK := Aside0.mk (KeepBut.refl w g none)
 have HL := Aside0.mk hB.size
 clear hI
 have HW0 := Aside0.mk hB.size
 have HB := Aside0.mk hB
 clear hB
 have H : ((awardingbodymake_Tape_Next.f s0_0 s0_1 (wrap64 ((wrap64 (a2 - a1)) + 1))).bind fun bt191 => (some (wrap64 (a1 + bt191.1), bt191.2))) = some (r1, r2) := h
 clear h
 replace H := Option.bind_eq_some_iff.mp H
 obtain ⟨⟨t191, t192⟩, A40, H⟩ := H
 replace H : (some (wrap64 (a1 + t191), t192)) = some (r1, r2) := H
 have A4 := Aside0.mk A40
 clear A40
 simp only [Option.some.injEq, Prod.mk.injEq] at H
 obtain ⟨rfl, rfl⟩ := H
 go_enter Try.func18, Try.ntmps18
 go_wp2_with (first | ((with_reducible refine gate_callee (f := 17) rfl ?_); refine goesL_ (some 13) rfl rfl Try.func17 (by kernel_rfl) rfl #[.pointer (some ⟨g, 0, none⟩), .int .i64 (wrap64 ((wrap64 (a2 - a1)) + 1))] rfl (by (try simp only [List.map_toArray, List.map_cons, List.map_nil]); first | done | rfl | (simp only [List.length_drop, List.length_take]; rfl)) ?_; (with_reducible refine (awardingbodymake_Tape_Next.calls g s0_0 s0_1 (wrap64 ((wrap64 (a2 - a1)) + 1)) t191 t192 w0 _ ?side1 ?side2 A4.out).mono ?_); (case side1 => repeat (first | (with_reducible first | exact HI0.out | apply IsS54.alloc | apply IsS54.drewN | apply IsS54.drew | apply IsS54.set_1) | exact HI0.out)); (case side2 => repeat (first | (with_reducible first | exact HB.out | apply below_alloc | apply pw_below_drewN | apply below_drew1 | refine below_set ?_ (IsS54.ge HI0.out)) | exact HB.out)); rintro e w5 ⟨rfl, hi, hb, hk⟩; refine ⟨_, rfl, ?_⟩; have n0_ := Aside0.mk (KeepBut.trans (by repeat (first | (with_reducible first | exact HK.out | apply KeepBut.set_ | apply keep_drewN | apply keep_drew | apply keep_alloc) | exact HK.out)) hk (.inl rfl)); have n1_ := Aside0.mk (hb); have n2_ := Aside0.mk (hi); clear HK; clear HB; clear HI0; have HK := n0_; have HB := n1_; have HI0 := n2_; clear n0_ n1_ n2_; (try clear hb); (try clear hb2); (try clear hk); (try clear hi)))
 go_ret
 exact ⟨by first | rfl | (simp [errW_none, errW_some] <;> rfl) | (simp [*, errW_none, errW_some] <;> rfl), by repeat (first | (with_reducible first | exact HI0.out | apply IsS54.alloc | apply IsS54.drewN | apply IsS54.drew | apply IsS54.set_1) | exact HI0.out), by repeat (first | (with_reducible first | exact HB.out | apply below_alloc | apply pw_below_drewN | apply below_drew1 | refine below_set ?_ (IsS54.ge HI0.out)) | exact HB.out), by repeat (first | (with_reducible first | exact HK.out | apply KeepBut.set_ | apply keep_drewN | apply keep_drew | apply keep_alloc) | exact HK.out)⟩

/-! ### awardingbodymake_Tape_One: function 38 -/
def awardingbodymake_Tape_One.f (s0_0 : List Int) (s0_1 : Int) (a1 : Int) : Option (Bool × Int) := (awardingbodymake_Tape_Next.f s0_0 s0_1 a1).bind fun bt193 => (some ((bt193.1 == (wrap64 (a1 - 1))), bt193.2))
set_option maxHeartbeats 8000000 in
set_option maxRecDepth 100000 in
theorem awardingbodymake_Tape_One.calls (g : Nat) (s0_0 : List Int) (s0_1 : Int) (a1 : Int) (r1 : Bool) (r2 : Int) (w0 w : World) (hI : IsS54 w0 w g s0_0 s0_1) (hB : Below w0.heap.size w0 w) (h : awardingbodymake_Tape_One.f s0_0 s0_1 a1 = some (r1, r2)) :
    Calls Try.prog 38 #[.pointer (some ⟨g, 0, none⟩), .int .i64 a1] w fun e w' => e = .returned (.bool r1) ∧ IsS54 w0 w' g s0_0 r2 ∧ Below w0.heap.size w0 w' ∧ KeepBut w w' g none := by
 have HI0 := Aside0.mk hI
 have HK := Aside0.mk (KeepBut.refl w g none)
 have HL := Aside0.mk hB.size
 clear hI
 have HW0 := Aside0.mk hB.size
 have HB := Aside0.mk hB
 clear hB
 have H : ((awardingbodymake_Tape_Next.f s0_0 s0_1 a1).bind fun bt193 => (some ((bt193.1 == (wrap64 (a1 - 1))), bt193.2))) = some (r1, r2) := h
 clear h
 replace H := Option.bind_eq_some_iff.mp H
 obtain ⟨⟨t193, t194⟩, A30, H⟩ := H
 replace H : (some ((t193 == (wrap64 (a1 - 1))), t194)) = some (r1, r2) := H
 have A3 := Aside0.mk A30
 clear A30
 simp only [Option.some.injEq, Prod.mk.injEq] at H
 obtain ⟨rfl, rfl⟩ := H
 go_enter Try.func38, Try.ntmps38
 go_wp2_with (first | ((with_reducible refine gate_callee (f := 17) rfl ?_); refine goesL_ (some 7) rfl rfl Try.func17 (by kernel_rfl) rfl #[.pointer (some ⟨g, 0, none⟩), .int .i64 a1] rfl (by (try simp only [List.map_toArray, List.map_cons, List.map_nil]); first | done | rfl | (simp only [List.length_drop, List.length_take]; rfl)) ?_; (with_reducible refine (awardingbodymake_Tape_Next.calls g s0_0 s0_1 a1 t193 t194 w0 _ ?side1 ?side2 A3.out).mono ?_); (case side1 => repeat (first | (with_reducible first | exact HI0.out | apply IsS54.alloc | apply IsS54.drewN | apply IsS54.drew | apply IsS54.set_1) | exact HI0.out)); (case side2 => repeat (first | (with_reducible first | exact HB.out | apply below_alloc | apply pw_below_drewN | apply below_drew1 | refine below_set ?_ (IsS54.ge HI0.out)) | exact HB.out)); rintro e w4 ⟨rfl, hi, hb, hk⟩; refine ⟨_, rfl, ?_⟩; have n0_ := Aside0.mk (KeepBut.trans (by repeat (first | (with_reducible first | exact HK.out | apply KeepBut.set_ | apply keep_drewN | apply keep_drew | apply keep_alloc) | exact HK.out)) hk (.inl rfl)); have n1_ := Aside0.mk (hb); have n2_ := Aside0.mk (hi); clear HK; clear HB; clear HI0; have HK := n0_; have HB := n1_; have HI0 := n2_; clear n0_ n1_ n2_; (try clear hb); (try clear hb2); (try clear hk); (try clear hi)))
 go_ret
 exact ⟨by first | rfl | (simp [errW_none, errW_some] <;> rfl) | (simp [*, errW_none, errW_some] <;> rfl), by repeat (first | (with_reducible first | exact HI0.out | apply IsS54.alloc | apply IsS54.drewN | apply IsS54.drew | apply IsS54.set_1) | exact HI0.out), by repeat (first | (with_reducible first | exact HB.out | apply below_alloc | apply pw_below_drewN | apply below_drew1 | refine below_set ?_ (IsS54.ge HI0.out)) | exact HB.out), by repeat (first | (with_reducible first | exact HK.out | apply KeepBut.set_ | apply keep_drewN | apply keep_drew | apply keep_alloc) | exact HK.out)⟩

/-! ### awardingbodymake_Tape_Pick: function 40 -/
def awardingbodymake_Tape_Pick.f (s0_0 : List Int) (s0_1 : Int) (l1 : List Int) : Option (Int × Int) := (awardingbodymake_Tape_Next.f s0_0 s0_1 (l1.length : Int)).bind fun bt195 => (if 0 ≤ bt195.1 then (if bt195.1 < (l1.length : Int) then (some (rd l1 bt195.1, bt195.2)) else (none)) else (none))
set_option maxHeartbeats 8000000 in
set_option maxRecDepth 100000 in
theorem awardingbodymake_Tape_Pick.calls (g : Nat) (s0_0 : List Int) (s0_1 : Int) (A1 : Option Addr) (c1 : Nat) (l1 : List Int) (r1 : Int) (r2 : Int) (w0 w : World) (hI : IsS54 w0 w g s0_0 s0_1) (hB : Below w0.heap.size w0 w) (hr1 : Kd.C (Kd.int .i64) w A1 l1.length l1) (hc1 : l1.length ≤ c1) (hf1 : ∀ ad, A1 = some ad → 0 < l1.length → ad.block ≠ g) (h : awardingbodymake_Tape_Pick.f s0_0 s0_1 l1 = some (r1, r2)) :
    Calls Try.prog 40 #[.pointer (some ⟨g, 0, none⟩), .slice A1 l1.length c1] w fun e w' => e = .returned (.int .i64 r1) ∧ IsS54 w0 w' g s0_0 r2 ∧ Below w0.heap.size w0 w' ∧ KeepBut w w' g none := by
 have HR1 := Aside0.mk hr1
 have HC1 := Aside0.mk hc1
 clear hr1 hc1
 have HI0 := Aside0.mk hI
 have HK := Aside0.mk (KeepBut.refl w g none)
 have HL := Aside0.mk hB.size
 clear hI
 have HW0 := Aside0.mk hB.size
 have HB := Aside0.mk hB
 clear hB
 have H : ((awardingbodymake_Tape_Next.f s0_0 s0_1 (l1.length : Int)).bind fun bt195 => (if 0 ≤ bt195.1 then (if bt195.1 < (l1.length : Int) then (some (rd l1 bt195.1, bt195.2)) else (none)) else (none))) = some (r1, r2) := h
 clear h
 replace H := Option.bind_eq_some_iff.mp H
 obtain ⟨⟨t195, t196⟩, A30, H⟩ := H
 replace H : (if 0 ≤ t195 then (if t195 < (l1.length : Int) then (some (rd l1 t195, t196)) else (none)) else (none)) = some (r1, r2) := H
 have A3 := Aside0.mk A30
 clear A30
 by_cases c4 : 0 ≤ t195
 ·rw [if_pos c4] at H
  have c4b0 : decide (0 ≤ t195) = true := decide_eq_true c4
  clear c4
  by_cases c5 : t195 < (l1.length : Int)
  ·rw [if_pos c5] at H
   have c5b0 : decide (t195 < (l1.length : Int)) = true := decide_eq_true c5
   clear c5
   simp only [Option.some.injEq, Prod.mk.injEq] at H
   obtain ⟨rfl, rfl⟩ := H
   go_enter Try.func40, Try.ntmps40
   go_wp2_with (first | ((with_reducible refine gate_callee (f := 17) rfl ?_); refine goesL_ (some 9) rfl rfl Try.func17 (by kernel_rfl) rfl #[.pointer (some ⟨g, 0, none⟩), .int .i64 (l1.length : Int)] rfl (by (try simp only [List.map_toArray, List.map_cons, List.map_nil]); first | done | rfl | (simp only [List.length_drop, List.length_take]; rfl)) ?_; (with_reducible refine (awardingbodymake_Tape_Next.calls g s0_0 s0_1 (l1.length : Int) t195 t196 w0 _ ?side1 ?side2 A3.out).mono ?_); (case side1 => repeat (first | (with_reducible first | exact HI0.out | apply IsS54.alloc | apply IsS54.drewN | apply IsS54.drew | apply IsS54.set_1) | exact HI0.out)); (case side2 => repeat (first | (with_reducible first | exact HB.out | apply below_alloc | apply pw_below_drewN | apply below_drew1 | refine below_set ?_ (IsS54.ge HI0.out)) | exact HB.out)); rintro e w6 ⟨rfl, hi, hb, hk⟩; refine ⟨_, rfl, ?_⟩; have n0_ := Aside0.mk (KeepBut.trans (by repeat (first | (with_reducible first | exact HK.out | apply KeepBut.set_ | apply keep_drewN | apply keep_drew | apply keep_alloc) | exact HK.out)) hk (.inl rfl)); have n1_ := Aside0.mk (hb); have n2_ := Aside0.mk (hi); clear HK; clear HB; clear HI0; have HK := n0_; have HB := n1_; have HI0 := n2_; clear n0_ n1_ n2_; (try clear hb); (try clear hb2); (try clear hk); (try clear hi); have p197 : 0 ≤ (t195 : Int) := of_decide_eq_true (by first | (with_reducible assumption) | assumption); have q197 : t195 < (l1.length : Int) := of_decide_eq_true (by first | (with_reducible assumption) | assumption); obtain ⟨ad197, e197, hx197_0⟩ := Kd.at_int HR1.out t195 p197 q197; cases e197; replace hx197_0 := keep_cell HK.out hx197_0 (by first | (rw [add_block]; exact hf1 _ rfl (by omega)) | exact hf1 _ rfl (by omega) | exact hf1 ad197 rfl (by omega)); replace p197 := eq_true p197; replace q197 := eq_true q197))
   go_ret
   exact ⟨by first | rfl | (simp [errW_none, errW_some] <;> rfl) | (simp [*, errW_none, errW_some] <;> rfl), by repeat (first | (with_reducible first | exact HI0.out | apply IsS54.alloc | apply IsS54.drewN | apply IsS54.drew | apply IsS54.set_1) | exact HI0.out), by repeat (first | (with_reducible first | exact HB.out | apply below_alloc | apply pw_below_drewN | apply below_drew1 | refine below_set ?_ (IsS54.ge HI0.out)) | exact HB.out), by repeat (first | (with_reducible first | exact HK.out | apply KeepBut.set_ | apply keep_drewN | apply keep_drew | apply keep_alloc) | exact HK.out)⟩
  ·rw [if_neg c5] at H
   exact absurd H (by simp)
 ·rw [if_neg c4] at H
  exact absurd H (by simp)

/-! ### awardingbodymake_Tape_Wild: function 39 -/
def awardingbodymake_Tape_Wild.f (s0_0 : List Int) (s0_1 : Int) : Option (Int × Int) := (awardingbodymake_Tape_Pick.f s0_0 s0_1 (([(-1), 0, 1, 2, 31, 32, 99, 100, 200, 201, 9999, 10000, 1000000, 1000001, 1152921504606846976, 1152921504606846977, (-1152921504606846976), 9223372036854775807, (-9223372036854775808)] : List Int))).bind fun bt201 => (some (bt201.1, bt201.2))
set_option maxHeartbeats 8000000 in
set_option maxRecDepth 100000 in
theorem awardingbodymake_Tape_Wild.calls (g : Nat) (s0_0 : List Int) (s0_1 : Int) (r1 : Int) (r2 : Int) (w0 w : World) (hI : IsS54 w0 w g s0_0 s0_1) (hB : Below w0.heap.size w0 w) (h : awardingbodymake_Tape_Wild.f s0_0 s0_1 = some (r1, r2)) :
    Calls Try.prog 39 #[.pointer (some ⟨g, 0, none⟩)] w fun e w' => e = .returned (.int .i64 r1) ∧ IsS54 w0 w' g s0_0 r2 ∧ Below w0.heap.size w0 w' ∧ KeepBut w w' g none := by
 have HI0 := Aside0.mk hI
 have HK := Aside0.mk (KeepBut.refl w g none)
 have HL := Aside0.mk hB.size
 clear hI
 have HW0 := Aside0.mk hB.size
 have HB := Aside0.mk hB
 clear hB
 have H : ((awardingbodymake_Tape_Pick.f s0_0 s0_1 (([(-1), 0, 1, 2, 31, 32, 99, 100, 200, 201, 9999, 10000, 1000000, 1000001, 1152921504606846976, 1152921504606846977, (-1152921504606846976), 9223372036854775807, (-9223372036854775808)] : List Int))).bind fun bt201 => (some (bt201.1, bt201.2))) = some (r1, r2) := h
 clear h
 obtain ⟨y198, hy198⟩ : ∃ y_ : List Int, y_ = (([(-1), 0, 1, 2, 31, 32, 99, 100, 200, 201, 9999, 10000, 1000000, 1000001, 1152921504606846976, 1152921504606846977, (-1152921504606846976), 9223372036854775807, (-9223372036854775808)] : List Int)) := ⟨_, rfl⟩
 replace H : ((awardingbodymake_Tape_Pick.f s0_0 s0_1 y198).bind fun bt201 => (some (bt201.1, bt201.2))) = some (r1, r2) := by first | (rw [hy198]; with_reducible exact H) | (have H2_ := (Option.bind_some _ _).symm.trans H; rw [hy198]; with_reducible exact H2_) | (have H2_ := (Option.bind_some _ _).symm.trans H; with_reducible exact H2_) | with_reducible exact H | (rw [hy198]; exact H) | exact H
 have Ny198 := Aside0.mk hy198
 clear hy198
 replace H := Option.bind_eq_some_iff.mp H
 obtain ⟨⟨t201, t202⟩, A20, H⟩ := H
 replace H : (some (t201, t202)) = some (r1, r2) := H
 have A2 := Aside0.mk A20
 clear A20
 simp only [Option.some.injEq, Prod.mk.injEq] at H
 obtain ⟨rfl, rfl⟩ := H
 go_enter Try.func39, Try.ntmps39
 go_wp2_with (first | ((with_reducible refine gate_dst (N := 4) rfl ?_); refine Kd.R_lit (Kd.int .i64) _ 3 ?hg (N := 4) ?hd (xs := ([(-1), 0, 1, 2, 31, 32, 99, 100, 200, 201, 9999, 10000, 1000000, 1000001, 1152921504606846976, 1152921504606846977, (-1152921504606846976), 9223372036854775807, (-9223372036854775808)] : List Int)) (inner := [.int .i64 (-1), .int .i64 0, .int .i64 1, .int .i64 2, .int .i64 31, .int .i64 32, .int .i64 99, .int .i64 100, .int .i64 200, .int .i64 201, .int .i64 9999, .int .i64 10000, .int .i64 1000000, .int .i64 1000001, .int .i64 1152921504606846976, .int .i64 1152921504606846977, .int .i64 (-1152921504606846976), .int .i64 9223372036854775807, .int .i64 (-9223372036854775808)]) (ok := fun _ => True) (okp := fun _ => True) ?hr ?hp (fun _ hk => hk) trivial (Below.refl _ _) (Nat.le_refl _) (by simp) ?_; (case hd => rfl); (case hg => rfl); (case hr => first | (go_simp; done) | (go_simp; rfl)); (case hp => exact (Reps.one (show Kd.M (Kd.int .i64) _ _ _ (-1) [.int .i64 (-1)] from rfl) (Reps.one (show Kd.M (Kd.int .i64) _ _ _ 0 [.int .i64 0] from rfl) (Reps.one (show Kd.M (Kd.int .i64) _ _ _ 1 [.int .i64 1] from rfl) (Reps.one (show Kd.M (Kd.int .i64) _ _ _ 2 [.int .i64 2] from rfl) (Reps.one (show Kd.M (Kd.int .i64) _ _ _ 31 [.int .i64 31] from rfl) (Reps.one (show Kd.M (Kd.int .i64) _ _ _ 32 [.int .i64 32] from rfl) (Reps.one (show Kd.M (Kd.int .i64) _ _ _ 99 [.int .i64 99] from rfl) (Reps.one (show Kd.M (Kd.int .i64) _ _ _ 100 [.int .i64 100] from rfl) (Reps.one (show Kd.M (Kd.int .i64) _ _ _ 200 [.int .i64 200] from rfl) (Reps.one (show Kd.M (Kd.int .i64) _ _ _ 201 [.int .i64 201] from rfl) (Reps.one (show Kd.M (Kd.int .i64) _ _ _ 9999 [.int .i64 9999] from rfl) (Reps.one (show Kd.M (Kd.int .i64) _ _ _ 10000 [.int .i64 10000] from rfl) (Reps.one (show Kd.M (Kd.int .i64) _ _ _ 1000000 [.int .i64 1000000] from rfl) (Reps.one (show Kd.M (Kd.int .i64) _ _ _ 1000001 [.int .i64 1000001] from rfl) (Reps.one (show Kd.M (Kd.int .i64) _ _ _ 1152921504606846976 [.int .i64 1152921504606846976] from rfl) (Reps.one (show Kd.M (Kd.int .i64) _ _ _ 1152921504606846977 [.int .i64 1152921504606846977] from rfl) (Reps.one (show Kd.M (Kd.int .i64) _ _ _ (-1152921504606846976) [.int .i64 (-1152921504606846976)] from rfl) (Reps.one (show Kd.M (Kd.int .i64) _ _ _ 9223372036854775807 [.int .i64 9223372036854775807] from rfl) (Reps.one (show Kd.M (Kd.int .i64) _ _ _ (-9223372036854775808) [.int .i64 (-9223372036854775808)] from rfl) (Reps.none _ _))))))))))))))))))))); intro v199 w3 ho4 hb hg_ hnew_; clear hg_ hnew_; (first | rw [← Ny198.out] at ho4 | (simp only [Int.reduceToNat] at ho4; rw [← Ny198.out] at ho4)); have n0_ := Aside0.mk (Kd.R_lower ho4 (keep_size (w := w) (g := g) (row := none) (by repeat (first | (with_reducible first | exact HK.out | apply KeepBut.set_ | apply keep_drewN | apply keep_drew | apply keep_alloc) | exact HK.out)))); have n1_ := Aside0.mk (IsS54.below (by repeat (first | (with_reducible first | exact HI0.out | apply IsS54.alloc | apply IsS54.drewN | apply IsS54.drew | apply IsS54.set_1) | exact HI0.out)) hb); have n2_ := Aside0.mk (KeepBut.trans (by repeat (first | (with_reducible first | exact HK.out | apply KeepBut.set_ | apply keep_drewN | apply keep_drew | apply keep_alloc) | exact HK.out)) (KeepBut.of_below hb g none) (.inl rfl)); have n3_ := Aside0.mk (below_step (by repeat (first | (with_reducible first | exact HB.out | apply below_alloc | apply pw_below_drewN | apply below_drew1 | refine below_set ?_ (IsS54.ge HI0.out)) | exact HB.out)) hb); clear HI0; clear HK; clear HB; have HO200 := n0_; have HI0 := n1_; have HK := n2_; have HB := n3_; clear n0_ n1_ n2_ n3_; clear hb ho4; obtain ⟨Ao5, co5, eo5⟩ := Kd.R_slice HO200.out; subst eo5) | ((with_reducible refine gate_callee (f := 40) rfl ?_); refine goesL_ (some 5) rfl rfl Try.func40 (by kernel_rfl) rfl #[.pointer (some ⟨g, 0, none⟩), .slice Ao5 y198.length co5] rfl (by (try simp only [List.map_toArray, List.map_cons, List.map_nil]); first | done | rfl | (simp only [List.length_drop, List.length_take]; rfl)) ?_; (with_reducible refine (awardingbodymake_Tape_Pick.calls g s0_0 s0_1 _ _ y198 t201 t202 w0 _ ?side1 ?side2 ?side3 ?side4 ?side5 A2.out).mono ?_); (case side1 => repeat (first | (with_reducible first | exact HI0.out | apply IsS54.alloc | apply IsS54.drewN | apply IsS54.drew | apply IsS54.set_1) | exact HI0.out)); (case side2 => repeat (first | (with_reducible first | exact HB.out | apply below_alloc | apply pw_below_drewN | apply below_drew1 | refine below_set ?_ (IsS54.ge HI0.out)) | exact HB.out)); (case side3 => repeat (first | exact (Kd.R_reads' HO200.out).2.2 | (with_reducible refine Kd.C_alloc ?_ _) | (with_reducible refine Kd.C_drewN ?_ _) | (with_reducible refine Kd.C_drew ?_))); (case side4 => exact (Kd.R_reads' HO200.out).2.1); (case side5 => exact far_slice (IsS54.own_ne HI0.out HO200.out (by decide))); rintro e w6 ⟨rfl, hi, hb, hk⟩; refine ⟨_, rfl, ?_⟩; have n0_ := Aside0.mk (Kd.R_mono (Kd.R_keep (IsS54.apart (show IsS54 w0 _ g s0_0 s0_1 from by repeat (first | (with_reducible first | exact HI0.out | apply IsS54.alloc | apply IsS54.drewN | apply IsS54.drew | apply IsS54.set_1) | exact HI0.out)) (by (with_reducible repeat (first | apply Kd.R_alloc | apply Kd.R_drewN | apply Kd.R_drew)); exact HO200.out) (by decide)) hk (fun _ h => h.2)) (fun _ h => h.1)); have n1_ := Aside0.mk (KeepBut.trans (by repeat (first | (with_reducible first | exact HK.out | apply KeepBut.set_ | apply keep_drewN | apply keep_drew | apply keep_alloc) | exact HK.out)) hk (.inl rfl)); have n2_ := Aside0.mk (hb); have n3_ := Aside0.mk (hi); clear HO200; clear HK; clear HB; clear HI0; have HO200 := n0_; have HK := n1_; have HB := n2_; have HI0 := n3_; clear n0_ n1_ n2_ n3_; (try clear hb); (try clear hb2); (try clear hk); (try clear hi)))
 go_ret
 exact ⟨by first | rfl | (simp [errW_none, errW_some] <;> rfl) | (simp [*, errW_none, errW_some] <;> rfl), by repeat (first | (with_reducible first | exact HI0.out | apply IsS54.alloc | apply IsS54.drewN | apply IsS54.drew | apply IsS54.set_1) | exact HI0.out), by repeat (first | (with_reducible first | exact HB.out | apply below_alloc | apply pw_below_drewN | apply below_drew1 | refine below_set ?_ (IsS54.ge HI0.out)) | exact HB.out), by repeat (first | (with_reducible first | exact HK.out | apply KeepBut.set_ | apply keep_drewN | apply keep_drew | apply keep_alloc) | exact HK.out)⟩

/-! ### awardingbodymake_Tape_Part: function 23 -/
mutual
def awardingbodymake_Tape_Part.j0 : Nat → Int → List Int → Int → Int → Int → Int → Int → Int → Int → Option (Int × Int × Int × Int × Int × Int × Int)
  | 0, _, _, _, _, _, _, _, _, _ => none
  | k + 1, x1, x1000, x1001, x211000, x211001, x211002, x211003, x211004, x211005 => if x1 > 0 then ((awardingbodymake_Tape_One.f x1000 x1001 x1).bind fun bt219 => (awardingbodymake_Tape_Part.j1 k bt219.1 x1000 bt219.2 x211000 x211001 x211002 x211003 x211004 x211005)) else (awardingbodymake_Tape_Part.j1 k false x1000 x1001 x211000 x211001 x211002 x211003 x211004 x211005)
def awardingbodymake_Tape_Part.j1 : Nat → Bool → List Int → Int → Int → Int → Int → Int → Int → Int → Option (Int × Int × Int × Int × Int × Int × Int)
  | 0, _, _, _, _, _, _, _, _, _ => none
  | k + 1, x34, x1000, x1001, x211000, x211001, x211002, x211003, x211004, x211005 => if x34 = true then ((awardingbodymake_Tape_Next.f x1000 x1001 6).bind fun bt221 => (if bt221.1 = 0 then ((awardingbodymake_Tape_Range.f x1000 bt221.2 (-1) 3).bind fun bt223 => (some (bt223.1, x211001, x211002, x211003, x211004, x211005, bt223.2))) else (if bt221.1 = 1 then ((awardingbodymake_Tape_Pick.f x1000 bt221.2 (([0, 40, 41, (-1)] : List Int))).bind fun bt228 => (some (x211000, bt228.1, x211002, x211003, x211004, x211005, bt228.2))) else (if bt221.1 = 2 then ((awardingbodymake_Tape_Wild.f x1000 bt221.2).bind fun bt230 => (some (x211000, x211001, bt230.1, x211003, x211004, x211005, bt230.2))) else (if bt221.1 = 3 then ((awardingbodymake_Tape_Wild.f x1000 bt221.2).bind fun bt232 => (some (x211000, x211001, x211002, bt232.1, x211004, x211005, bt232.2))) else (if bt221.1 = 4 then ((awardingbodymake_Tape_Range.f x1000 bt221.2 (-1) 6).bind fun bt234 => (some (x211000, x211001, x211002, x211003, bt234.1, x211005, bt234.2))) else ((awardingbodymake_Tape_Range.f x1000 bt221.2 (-1) 5).bind fun bt236 => (some (x211000, x211001, x211002, x211003, x211004, bt236.1, bt236.2))))))))) else (some (x211000, x211001, x211002, x211003, x211004, x211005, x1001))
end
def awardingbodymake_Tape_Part.f (k : Nat) (s0_0 : List Int) (s0_1 : Int) (a1 : Int) : Option (Int × Int × Int × Int × Int × Int × Int) := (awardingbodymake_Tape_Range.f s0_0 s0_1 1 12).bind fun bt204 => ((awardingbodymake_Tape_Next.f s0_0 bt204.2 4).bind fun bt206 => ((awardingbodymake_Tape_Next.f s0_0 bt206.2 3).bind fun bt208 => ((awardingbodymake_Tape_Next.f s0_0 bt208.2 3).bind fun bt211 => (if bt211.1 = 0 then ((awardingbodymake_Tape_Range.f s0_0 bt211.2 2 5).bind fun bt213 => ((awardingbodymake_Tape_Next.f s0_0 bt213.2 bt213.1).bind fun bt215 => ((awardingbodymake_Tape_Range.f s0_0 bt215.2 1 3).bind fun bt217 => (awardingbodymake_Tape_Part.j0 k a1 s0_0 bt217.2 2 bt217.1 bt206.1 bt208.1 bt213.1 bt215.1)))) else (awardingbodymake_Tape_Part.j0 k a1 s0_0 bt211.2 1 bt204.1 bt206.1 bt208.1 0 0)))))
theorem awardingbodymake_Tape_Part.mono_l : ∀ k, (∀ y0 y1 y2 y3 y4 y5 y6 y7 y8, LeO (awardingbodymake_Tape_Part.j0 k y0 y1 y2 y3 y4 y5 y6 y7 y8) (awardingbodymake_Tape_Part.j0 (k + 1) y0 y1 y2 y3 y4 y5 y6 y7 y8)) ∧ (∀ y0 y1 y2 y3 y4 y5 y6 y7 y8, LeO (awardingbodymake_Tape_Part.j1 k y0 y1 y2 y3 y4 y5 y6 y7 y8) (awardingbodymake_Tape_Part.j1 (k + 1) y0 y1 y2 y3 y4 y5 y6 y7 y8))
  | 0 => ⟨fun _ _ _ _ _ _ _ _ _ r h => by simp [awardingbodymake_Tape_Part.j0] at h, fun _ _ _ _ _ _ _ _ _ r h => by simp [awardingbodymake_Tape_Part.j1] at h⟩
  | k + 1 => by
    obtain ⟨ih0, ih1⟩ := awardingbodymake_Tape_Part.mono_l k
    refine ⟨?_, ?_⟩
    · intro y0 y1 y2 y3 y4 y5 y6 y7 y8
      unfold awardingbodymake_Tape_Part.j0
      repeat' first
      | (with_reducible exact ih0 _ _ _ _ _ _ _ _ _)
      | (with_reducible exact ih1 _ _ _ _ _ _ _ _ _)
      | (with_reducible exact LeO.refl _)
      | (with_reducible exact LeO.none _)
      | (with_reducible refine LeO.ite ?_ ?_)
      | (with_reducible refine LeO.bind ?_ (fun _ => ?_))
      | exact ih0 _ _ _ _ _ _ _ _ _
      | exact ih1 _ _ _ _ _ _ _ _ _
      | exact LeO.none _
      | refine LeO.ite ?_ ?_
      | refine LeO.bind ?_ (fun _ => ?_)
    · intro y0 y1 y2 y3 y4 y5 y6 y7 y8
      unfold awardingbodymake_Tape_Part.j1
      repeat' first
      | (with_reducible exact ih0 _ _ _ _ _ _ _ _ _)
      | (with_reducible exact ih1 _ _ _ _ _ _ _ _ _)
      | (with_reducible exact LeO.refl _)
      | (with_reducible exact LeO.none _)
      | (with_reducible refine LeO.ite ?_ ?_)
      | (with_reducible refine LeO.bind ?_ (fun _ => ?_))
      | exact ih0 _ _ _ _ _ _ _ _ _
      | exact ih1 _ _ _ _ _ _ _ _ _
      | exact LeO.none _
      | refine LeO.ite ?_ ?_
      | refine LeO.bind ?_ (fun _ => ?_)
theorem awardingbodymake_Tape_Part.mono : ∀ a0 a1 a2 k, LeO (awardingbodymake_Tape_Part.f k a0 a1 a2) (awardingbodymake_Tape_Part.f (k + 1) a0 a1 a2) := by
  intro a0 a1 a2 k
  obtain ⟨ih0, ih1⟩ := awardingbodymake_Tape_Part.mono_l k
  unfold awardingbodymake_Tape_Part.f
  repeat' first
      | (with_reducible exact ih0 _ _ _ _ _ _ _ _ _)
      | (with_reducible exact ih1 _ _ _ _ _ _ _ _ _)
      | (with_reducible exact LeO.refl _)
      | (with_reducible exact LeO.none _)
      | (with_reducible refine LeO.ite ?_ ?_)
      | (with_reducible refine LeO.bind ?_ (fun _ => ?_))
      | exact ih0 _ _ _ _ _ _ _ _ _
      | exact ih1 _ _ _ _ _ _ _ _ _
      | exact LeO.none _
      | refine LeO.ite ?_ ?_
      | refine LeO.bind ?_ (fun _ => ?_)
set_option maxHeartbeats 8000000 in
set_option maxRecDepth 100000 in
theorem awardingbodymake_Tape_Part.calls (k : Nat) (g : Nat) (s0_0 : List Int) (s0_1 : Int) (a1 : Int) (r1 : Int) (r2 : Int) (r3 : Int) (r4 : Int) (r5 : Int) (r6 : Int) (r7 : Int) (w0 w : World) (hI : IsS54 w0 w g s0_0 s0_1) (hB : Below w0.heap.size w0 w) (h : awardingbodymake_Tape_Part.f k s0_0 s0_1 a1 = some (r1, r2, r3, r4, r5, r6, r7)) :
    Calls Try.prog 23 #[.pointer (some ⟨g, 0, none⟩), .int .i64 a1] w fun e w' => e = .returned (.agg #[.int .i64 r1, .int .i64 r2, .int .i64 r3, .int .i64 r4, .int .i64 r5, .int .i64 r6]) ∧ IsS54 w0 w' g s0_0 r7 ∧ Below w0.heap.size w0 w' ∧ KeepBut w w' g none := by
 have hu23 := Try.underlying23
 have HI0 := Aside0.mk hI
 have HK := Aside0.mk (KeepBut.refl w g none)
 have HL := Aside0.mk hB.size
 clear hI
 have HW0 := Aside0.mk hB.size
 have HB := Aside0.mk hB
 clear hB
 have H : ((awardingbodymake_Tape_Range.f s0_0 s0_1 1 12).bind fun bt204 => ((awardingbodymake_Tape_Next.f s0_0 bt204.2 4).bind fun bt206 => ((awardingbodymake_Tape_Next.f s0_0 bt206.2 3).bind fun bt208 => ((awardingbodymake_Tape_Next.f s0_0 bt208.2 3).bind fun bt211 => (if bt211.1 = 0 then ((awardingbodymake_Tape_Range.f s0_0 bt211.2 2 5).bind fun bt213 => ((awardingbodymake_Tape_Next.f s0_0 bt213.2 bt213.1).bind fun bt215 => ((awardingbodymake_Tape_Range.f s0_0 bt215.2 1 3).bind fun bt217 => (awardingbodymake_Tape_Part.j0 k a1 s0_0 bt217.2 2 bt217.1 bt206.1 bt208.1 bt213.1 bt215.1)))) else (awardingbodymake_Tape_Part.j0 k a1 s0_0 bt211.2 1 bt204.1 bt206.1 bt208.1 0 0)))))) = some (r1, r2, r3, r4, r5, r6, r7) := h
 clear h
 replace H := Option.bind_eq_some_iff.mp H
 obtain ⟨⟨t204, t205⟩, A30, H⟩ := H
 replace H : ((awardingbodymake_Tape_Next.f s0_0 t205 4).bind fun bt206 => ((awardingbodymake_Tape_Next.f s0_0 bt206.2 3).bind fun bt208 => ((awardingbodymake_Tape_Next.f s0_0 bt208.2 3).bind fun bt211 => (if bt211.1 = 0 then ((awardingbodymake_Tape_Range.f s0_0 bt211.2 2 5).bind fun bt213 => ((awardingbodymake_Tape_Next.f s0_0 bt213.2 bt213.1).bind fun bt215 => ((awardingbodymake_Tape_Range.f s0_0 bt215.2 1 3).bind fun bt217 => (awardingbodymake_Tape_Part.j0 k a1 s0_0 bt217.2 2 bt217.1 bt206.1 bt208.1 bt213.1 bt215.1)))) else (awardingbodymake_Tape_Part.j0 k a1 s0_0 bt211.2 1 t204 bt206.1 bt208.1 0 0))))) = some (r1, r2, r3, r4, r5, r6, r7) := H
 have A3 := Aside0.mk A30
 clear A30
 replace H := Option.bind_eq_some_iff.mp H
 obtain ⟨⟨t206, t207⟩, A40, H⟩ := H
 replace H : ((awardingbodymake_Tape_Next.f s0_0 t207 3).bind fun bt208 => ((awardingbodymake_Tape_Next.f s0_0 bt208.2 3).bind fun bt211 => (if bt211.1 = 0 then ((awardingbodymake_Tape_Range.f s0_0 bt211.2 2 5).bind fun bt213 => ((awardingbodymake_Tape_Next.f s0_0 bt213.2 bt213.1).bind fun bt215 => ((awardingbodymake_Tape_Range.f s0_0 bt215.2 1 3).bind fun bt217 => (awardingbodymake_Tape_Part.j0 k a1 s0_0 bt217.2 2 bt217.1 t206 bt208.1 bt213.1 bt215.1)))) else (awardingbodymake_Tape_Part.j0 k a1 s0_0 bt211.2 1 t204 t206 bt208.1 0 0)))) = some (r1, r2, r3, r4, r5, r6, r7) := H
 have A4 := Aside0.mk A40
 clear A40
 replace H := Option.bind_eq_some_iff.mp H
 obtain ⟨⟨t208, t209⟩, A50, H⟩ := H
 replace H : ((awardingbodymake_Tape_Next.f s0_0 t209 3).bind fun bt211 => (if bt211.1 = 0 then ((awardingbodymake_Tape_Range.f s0_0 bt211.2 2 5).bind fun bt213 => ((awardingbodymake_Tape_Next.f s0_0 bt213.2 bt213.1).bind fun bt215 => ((awardingbodymake_Tape_Range.f s0_0 bt215.2 1 3).bind fun bt217 => (awardingbodymake_Tape_Part.j0 k a1 s0_0 bt217.2 2 bt217.1 t206 t208 bt213.1 bt215.1)))) else (awardingbodymake_Tape_Part.j0 k a1 s0_0 bt211.2 1 t204 t206 t208 0 0))) = some (r1, r2, r3, r4, r5, r6, r7) := H
 have A5 := Aside0.mk A50
 clear A50
 replace H := Option.bind_eq_some_iff.mp H
 obtain ⟨⟨t211, t212⟩, A60, H⟩ := H
 replace H : (if t211 = 0 then ((awardingbodymake_Tape_Range.f s0_0 t212 2 5).bind fun bt213 => ((awardingbodymake_Tape_Next.f s0_0 bt213.2 bt213.1).bind fun bt215 => ((awardingbodymake_Tape_Range.f s0_0 bt215.2 1 3).bind fun bt217 => (awardingbodymake_Tape_Part.j0 k a1 s0_0 bt217.2 2 bt217.1 t206 t208 bt213.1 bt215.1)))) else (awardingbodymake_Tape_Part.j0 k a1 s0_0 t212 1 t204 t206 t208 0 0)) = some (r1, r2, r3, r4, r5, r6, r7) := H
 have A6 := Aside0.mk A60
 clear A60
 have HC7 := Aside0.mk H
 clear H
 go_enter Try.func23, Try.ntmps23
 go_upto_if 15 with (first | ((with_reducible refine gate_dst (N := 4) rfl ?_); refine box_event ?hg (N := 4) ?hd (cs := #[.int .i64 0, .int .i64 0, .int .i64 0, .int .i64 0, .int .i64 0, .int .i64 0]) (t := 23) ?hr ?_; (case hd => rfl); (case hg => rfl); (case hr => first | (go_simp; done) | (go_simp; rfl)); intro gb203 hg w8 hbox hb; have n0_ := Aside0.mk (IsS54.below (by repeat (first | (with_reducible first | exact HI0.out | apply IsS54.alloc | apply IsS54.drewN | apply IsS54.drew | apply IsS54.set_1) | exact HI0.out)) hb); have n1_ := Aside0.mk (KeepBut.trans (by repeat (first | (with_reducible first | exact HK.out | apply KeepBut.set_ | apply keep_drewN | apply keep_drew | apply keep_alloc) | exact HK.out)) (KeepBut.of_below hb g none) (.inl rfl)); have n2_ := Aside0.mk (below_step (by repeat (first | (with_reducible first | exact HB.out | apply below_alloc | apply pw_below_drewN | apply below_drew1 | refine below_set ?_ (IsS54.ge HI0.out)) | exact HB.out)) hb); have n3_ := Aside0.mk (hbox); have n4_ := Aside0.mk ((by rw [hg]; exact (keep_size (w := w) (g := g) (row := none) (by repeat (first | (with_reducible first | exact HK.out | apply KeepBut.set_ | apply keep_drewN | apply keep_drew | apply keep_alloc) | exact HK.out))) : w.heap.size ≤ gb203)); have n5_ := Aside0.mk ((Nat.le_trans HW0.out (by rw [hg]; exact (keep_size (w := w) (g := g) (row := none) (by repeat (first | (with_reducible first | exact HK.out | apply KeepBut.set_ | apply keep_drewN | apply keep_drew | apply keep_alloc) | exact HK.out))) : w.heap.size ≤ gb203) : w0.heap.size ≤ gb203)); have n6_ := Aside0.mk ((by rw [hg]; exact Nat.ne_of_lt (IsS54.lt (show IsS54 w0 _ g s0_0 s0_1 from by repeat (first | (with_reducible first | exact HI0.out | apply IsS54.alloc | apply IsS54.drewN | apply IsS54.drew | apply IsS54.set_1) | exact HI0.out))) : g ≠ gb203)); have n7_ := Aside0.mk ((by rw [hg]; exact Nat.ne_of_gt (IsS54.lt (show IsS54 w0 _ g s0_0 s0_1 from by repeat (first | (with_reducible first | exact HI0.out | apply IsS54.alloc | apply IsS54.drewN | apply IsS54.drew | apply IsS54.set_1) | exact HI0.out))) : gb203 ≠ g)); clear HI0; clear HK; clear HB; have HI0 := n0_; have HK := n1_; have HB := n2_; have BK203 := n3_; have GW203 := n4_; have GE203 := n5_; have NB0_203 := n6_; have NB203_0 := n7_; clear n0_ n1_ n2_ n3_ n4_ n5_ n6_ n7_; clear hb hbox hg) | ((with_reducible refine gate_callee (f := 18) rfl ?_); refine goesL_ (some 7) rfl rfl Try.func18 (by kernel_rfl) rfl #[.pointer (some ⟨g, 0, none⟩), .int .i64 1, .int .i64 12] rfl (by (try simp only [List.map_toArray, List.map_cons, List.map_nil]); first | done | rfl | (simp only [List.length_drop, List.length_take]; rfl)) ?_; (with_reducible refine (awardingbodymake_Tape_Range.calls g s0_0 s0_1 1 12 t204 t205 w0 _ ?side1 ?side2 A3.out).mono ?_); (case side1 => repeat (first | (with_reducible first | exact HI0.out | apply IsS54.alloc | apply IsS54.drewN | apply IsS54.drew | apply IsS54.set_1 | refine IsS54.far ?_ NB0_203.out _) | exact HI0.out)); (case side2 => repeat (first | (with_reducible first | exact HB.out | apply below_alloc | apply pw_below_drewN | apply below_drew1 | refine below_set ?_ (IsS54.ge HI0.out) | refine below_set ?_ GE203.out) | exact HB.out)); rintro e w9 ⟨rfl, hi, hb, hk⟩; refine ⟨_, rfl, ?_⟩; have n0_ := Aside0.mk (KeepBut.blk hk (g' := gb203) (o := .cells #[.int .i64 0, .int .i64 0, .int .i64 0, .int .i64 0, .int .i64 0, .int .i64 0] 23 (0, 0)) (by (with_reducible repeat (first | refine blk_drewN ?_ _ | refine blk_drew ?_ | refine blk_alloc ?_ _)); exact BK203.out) NB203_0.out (by simp)); have n1_ := Aside0.mk (KeepBut.trans (by repeat (first | (with_reducible first | exact HK.out | apply KeepBut.set_ | apply keep_drewN | apply keep_drew | apply keep_alloc | refine keep_far ?_ GW203.out _) | exact HK.out)) hk (.inl rfl)); have n2_ := Aside0.mk (hb); have n3_ := Aside0.mk (hi); clear BK203; clear HK; clear HB; clear HI0; have BK203 := n0_; have HK := n1_; have HB := n2_; have HI0 := n3_; clear n0_ n1_ n2_ n3_; (try clear hb); (try clear hb2); (try clear hk); (try clear hi)) | ((with_reducible refine gate_callee (f := 17) rfl ?_); refine goesL_ (some 9) rfl rfl Try.func17 (by kernel_rfl) rfl #[.pointer (some ⟨g, 0, none⟩), .int .i64 4] rfl (by (try simp only [List.map_toArray, List.map_cons, List.map_nil]); first | done | rfl | (simp only [List.length_drop, List.length_take]; rfl)) ?_; (with_reducible refine (awardingbodymake_Tape_Next.calls g s0_0 t205 4 t206 t207 w0 _ ?side1 ?side2 A4.out).mono ?_); (case side1 => repeat (first | (with_reducible first | exact HI0.out | apply IsS54.alloc | apply IsS54.drewN | apply IsS54.drew | apply IsS54.set_1 | refine IsS54.far ?_ NB0_203.out _) | exact HI0.out)); (case side2 => repeat (first | (with_reducible first | exact HB.out | apply below_alloc | apply pw_below_drewN | apply below_drew1 | refine below_set ?_ (IsS54.ge HI0.out) | refine below_set ?_ GE203.out) | exact HB.out)); rintro e w10 ⟨rfl, hi, hb, hk⟩; refine ⟨_, rfl, ?_⟩; have n0_ := Aside0.mk (KeepBut.blk hk (g' := gb203) (o := .cells #[.int .i64 0, .int .i64 0, .int .i64 0, .int .i64 0, .int .i64 0, .int .i64 0] 23 (0, 0)) (by (with_reducible repeat (first | refine blk_drewN ?_ _ | refine blk_drew ?_ | refine blk_alloc ?_ _)); exact BK203.out) NB203_0.out (by simp)); have n1_ := Aside0.mk (KeepBut.trans (by repeat (first | (with_reducible first | exact HK.out | apply KeepBut.set_ | apply keep_drewN | apply keep_drew | apply keep_alloc | refine keep_far ?_ GW203.out _) | exact HK.out)) hk (.inl rfl)); have n2_ := Aside0.mk (hb); have n3_ := Aside0.mk (hi); clear BK203; clear HK; clear HB; clear HI0; have BK203 := n0_; have HK := n1_; have HB := n2_; have HI0 := n3_; clear n0_ n1_ n2_ n3_; (try clear hb); (try clear hb2); (try clear hk); (try clear hi)) | ((with_reducible refine gate_callee (f := 17) rfl ?_); refine goesL_ (some 11) rfl rfl Try.func17 (by kernel_rfl) rfl #[.pointer (some ⟨g, 0, none⟩), .int .i64 3] rfl (by (try simp only [List.map_toArray, List.map_cons, List.map_nil]); first | done | rfl | (simp only [List.length_drop, List.length_take]; rfl)) ?_; (with_reducible refine (awardingbodymake_Tape_Next.calls g s0_0 t207 3 t208 t209 w0 _ ?side1 ?side2 A5.out).mono ?_); (case side1 => repeat (first | (with_reducible first | exact HI0.out | apply IsS54.alloc | apply IsS54.drewN | apply IsS54.drew | apply IsS54.set_1 | refine IsS54.far ?_ NB0_203.out _) | exact HI0.out)); (case side2 => repeat (first | (with_reducible first | exact HB.out | apply below_alloc | apply pw_below_drewN | apply below_drew1 | refine below_set ?_ (IsS54.ge HI0.out) | refine below_set ?_ GE203.out) | exact HB.out)); rintro e w11 ⟨rfl, hi, hb, hk⟩; refine ⟨_, rfl, ?_⟩; have n0_ := Aside0.mk (KeepBut.blk hk (g' := gb203) (o := .cells #[.int .i64 0, .int .i64 0, .int .i64 0, .int .i64 0, .int .i64 0, .int .i64 0] 23 (0, 0)) (by (with_reducible repeat (first | refine blk_drewN ?_ _ | refine blk_drew ?_ | refine blk_alloc ?_ _)); exact BK203.out) NB203_0.out (by simp)); have n1_ := Aside0.mk (KeepBut.trans (by repeat (first | (with_reducible first | exact HK.out | apply KeepBut.set_ | apply keep_drewN | apply keep_drew | apply keep_alloc | refine keep_far ?_ GW203.out _) | exact HK.out)) hk (.inl rfl)); have n2_ := Aside0.mk (hb); have n3_ := Aside0.mk (hi); clear BK203; clear HK; clear HB; clear HI0; have BK203 := n0_; have HK := n1_; have HB := n2_; have HI0 := n3_; clear n0_ n1_ n2_ n3_; (try clear hb); (try clear hb2); (try clear hk); (try clear hi)) | ((with_reducible refine gate_dst (N := 5) rfl ?_); refine box_event ?hg (N := 5) ?hd (cs := #[.int .i64 0, .int .i64 0, .int .i64 0, .int .i64 0, .int .i64 0, .int .i64 0]) (t := 23) ?hr ?_; (case hd => rfl); (case hg => rfl); (case hr => first | (go_simp; done) | (go_simp; rfl)); intro gb210 hg w12 hbox hb; have n0_ := Aside0.mk (IsS54.below (by repeat (first | (with_reducible first | exact HI0.out | apply IsS54.alloc | apply IsS54.drewN | apply IsS54.drew | apply IsS54.set_1 | refine IsS54.far ?_ NB0_203.out _) | exact HI0.out)) hb); have n1_ := Aside0.mk (blk_below (g := gb203) (o := .cells #[.int .i64 0, .int .i64 0, .int .i64 0, .int .i64 0, .int .i64 0, .int .i64 0] 23 (0, 0)) (by (with_reducible repeat (first | refine blk_drewN ?_ _ | refine blk_drew ?_ | refine blk_alloc ?_ _)); exact BK203.out) hb); have n2_ := Aside0.mk (KeepBut.trans (by repeat (first | (with_reducible first | exact HK.out | apply KeepBut.set_ | apply keep_drewN | apply keep_drew | apply keep_alloc | refine keep_far ?_ GW203.out _) | exact HK.out)) (KeepBut.of_below hb g none) (.inl rfl)); have n3_ := Aside0.mk (below_step (by repeat (first | (with_reducible first | exact HB.out | apply below_alloc | apply pw_below_drewN | apply below_drew1 | refine below_set ?_ (IsS54.ge HI0.out) | refine below_set ?_ GE203.out) | exact HB.out)) hb); have n4_ := Aside0.mk (hbox); have n5_ := Aside0.mk ((by rw [hg]; exact (keep_size (w := w) (g := g) (row := none) (by repeat (first | (with_reducible first | exact HK.out | apply KeepBut.set_ | apply keep_drewN | apply keep_drew | apply keep_alloc | refine keep_far ?_ GW203.out _) | exact HK.out))) : w.heap.size ≤ gb210)); have n6_ := Aside0.mk ((Nat.le_trans HW0.out (by rw [hg]; exact (keep_size (w := w) (g := g) (row := none) (by repeat (first | (with_reducible first | exact HK.out | apply KeepBut.set_ | apply keep_drewN | apply keep_drew | apply keep_alloc | refine keep_far ?_ GW203.out _) | exact HK.out))) : w.heap.size ≤ gb210) : w0.heap.size ≤ gb210)); have n7_ := Aside0.mk ((by rw [hg]; exact Nat.ne_of_lt (blk_lt (g := gb203) (o := .cells #[.int .i64 0, .int .i64 0, .int .i64 0, .int .i64 0, .int .i64 0, .int .i64 0] 23 (0, 0)) (by (with_reducible repeat (first | refine blk_drewN ?_ _ | refine blk_drew ?_ | refine blk_alloc ?_ _)); exact BK203.out)) : gb203 ≠ gb210)); have n8_ := Aside0.mk ((by rw [hg]; exact Nat.ne_of_gt (blk_lt (g := gb203) (o := .cells #[.int .i64 0, .int .i64 0, .int .i64 0, .int .i64 0, .int .i64 0, .int .i64 0] 23 (0, 0)) (by (with_reducible repeat (first | refine blk_drewN ?_ _ | refine blk_drew ?_ | refine blk_alloc ?_ _)); exact BK203.out)) : gb210 ≠ gb203)); have n9_ := Aside0.mk ((by rw [hg]; exact Nat.ne_of_lt (IsS54.lt (show IsS54 w0 _ g s0_0 t209 from by repeat (first | (with_reducible first | exact HI0.out | apply IsS54.alloc | apply IsS54.drewN | apply IsS54.drew | apply IsS54.set_1 | refine IsS54.far ?_ NB0_203.out _) | exact HI0.out))) : g ≠ gb210)); have n10_ := Aside0.mk ((by rw [hg]; exact Nat.ne_of_gt (IsS54.lt (show IsS54 w0 _ g s0_0 t209 from by repeat (first | (with_reducible first | exact HI0.out | apply IsS54.alloc | apply IsS54.drewN | apply IsS54.drew | apply IsS54.set_1 | refine IsS54.far ?_ NB0_203.out _) | exact HI0.out))) : gb210 ≠ g)); clear HI0; clear BK203; clear HK; clear HB; have HI0 := n0_; have BK203 := n1_; have HK := n2_; have HB := n3_; have BK210 := n4_; have GW210 := n5_; have GE210 := n6_; have NB203_210 := n7_; have NB210_203 := n8_; have NB0_210 := n9_; have NB210_0 := n10_; clear n0_ n1_ n2_ n3_ n4_ n5_ n6_ n7_ n8_ n9_ n10_; clear hb hbox hg; have hnb13 := NB210_203.out; have hnc13 := NB203_210.out; have hnb14 := NB210_0.out; have hnc14 := NB0_210.out; have hcz15_0 : w12.cell? ⟨gb210, 0, none⟩ = some (.int .i64 0) := (blk_cell BK210.out 0).trans rfl; have hcz15_1 : w12.cell? ⟨gb210, 1, none⟩ = some (.int .i64 0) := (blk_cell BK210.out 1).trans rfl; have hcz15_2 : w12.cell? ⟨gb210, 2, none⟩ = some (.int .i64 0) := (blk_cell BK210.out 2).trans rfl; have hcz15_3 : w12.cell? ⟨gb210, 3, none⟩ = some (.int .i64 0) := (blk_cell BK210.out 3).trans rfl; have hcz15_4 : w12.cell? ⟨gb210, 4, none⟩ = some (.int .i64 0) := (blk_cell BK210.out 4).trans rfl; have hcz15_5 : w12.cell? ⟨gb210, 5, none⟩ = some (.int .i64 0) := (blk_cell BK210.out 5).trans rfl; have hfz15_0 := blk_frozen BK210.out 0; have hfz15_1 := blk_frozen BK210.out 1; have hfz15_2 := blk_frozen BK210.out 2; have hfz15_3 := blk_frozen BK210.out 3; have hfz15_4 := blk_frozen BK210.out 4; have hfz15_5 := blk_frozen BK210.out 5) | ((with_reducible refine gate_callee (f := 17) rfl ?_); refine goesL_ (some 14) rfl rfl Try.func17 (by kernel_rfl) rfl #[.pointer (some ⟨g, 0, none⟩), .int .i64 3] rfl (by (try simp only [List.map_toArray, List.map_cons, List.map_nil]); first | done | rfl | (simp only [List.length_drop, List.length_take]; rfl)) ?_; (with_reducible refine (awardingbodymake_Tape_Next.calls g s0_0 t209 3 t211 t212 w0 _ ?side1 ?side2 A6.out).mono ?_); (case side1 => repeat (first | (with_reducible first | exact HI0.out | apply IsS54.alloc | apply IsS54.drewN | apply IsS54.drew | apply IsS54.set_1 | refine IsS54.far ?_ NB0_203.out _ | refine IsS54.far ?_ NB0_210.out _) | exact HI0.out)); (case side2 => repeat (first | (with_reducible first | exact HB.out | apply below_alloc | apply pw_below_drewN | apply below_drew1 | refine below_set ?_ (IsS54.ge HI0.out) | refine below_set ?_ GE203.out | refine below_set ?_ GE210.out) | exact HB.out)); rintro e w16 ⟨rfl, hi, hb, hk⟩; refine ⟨_, rfl, ?_⟩; have n0_ := Aside0.mk (KeepBut.blk hk (g' := gb203) (o := .cells #[.int .i64 0, .int .i64 0, .int .i64 0, .int .i64 0, .int .i64 0, .int .i64 0] 23 (0, 0)) (by (with_reducible repeat (first | refine blk_drewN ?_ _ | refine blk_drew ?_ | refine blk_alloc ?_ _)); refine blk_far ?_ NB203_210.out _; (with_reducible repeat (first | refine blk_drewN ?_ _ | refine blk_drew ?_ | refine blk_alloc ?_ _)); refine blk_far ?_ NB203_210.out _; (with_reducible repeat (first | refine blk_drewN ?_ _ | refine blk_drew ?_ | refine blk_alloc ?_ _)); refine blk_far ?_ NB203_210.out _; (with_reducible repeat (first | refine blk_drewN ?_ _ | refine blk_drew ?_ | refine blk_alloc ?_ _)); refine blk_far ?_ NB203_210.out _; (with_reducible repeat (first | refine blk_drewN ?_ _ | refine blk_drew ?_ | refine blk_alloc ?_ _)); refine blk_far ?_ NB203_210.out _; (with_reducible repeat (first | refine blk_drewN ?_ _ | refine blk_drew ?_ | refine blk_alloc ?_ _)); refine blk_far ?_ NB203_210.out _; (with_reducible repeat (first | refine blk_drewN ?_ _ | refine blk_drew ?_ | refine blk_alloc ?_ _)); exact BK203.out) NB203_0.out (by simp)); have n1_ := Aside0.mk (KeepBut.blk hk (g' := gb210) (o := .cells #[.int .i64 1, .int .i64 t204, .int .i64 t206, .int .i64 t208, .int .i64 0, .int .i64 0] 23 (0, 0)) (by (with_reducible repeat (first | refine blk_drewN ?_ _ | refine blk_drew ?_ | refine blk_alloc ?_ _)); refine blk_put (cs := #[.int .i64 1, .int .i64 t204, .int .i64 t206, .int .i64 t208, .int .i64 0, .int .i64 0]) ?_ 5 _ rfl; (with_reducible repeat (first | refine blk_drewN ?_ _ | refine blk_drew ?_ | refine blk_alloc ?_ _)); refine blk_put (cs := #[.int .i64 1, .int .i64 t204, .int .i64 t206, .int .i64 t208, .int .i64 0, .int .i64 0]) ?_ 4 _ rfl; (with_reducible repeat (first | refine blk_drewN ?_ _ | refine blk_drew ?_ | refine blk_alloc ?_ _)); refine blk_put (cs := #[.int .i64 1, .int .i64 t204, .int .i64 t206, .int .i64 0, .int .i64 0, .int .i64 0]) ?_ 3 _ rfl; (with_reducible repeat (first | refine blk_drewN ?_ _ | refine blk_drew ?_ | refine blk_alloc ?_ _)); refine blk_put (cs := #[.int .i64 1, .int .i64 t204, .int .i64 0, .int .i64 0, .int .i64 0, .int .i64 0]) ?_ 2 _ rfl; (with_reducible repeat (first | refine blk_drewN ?_ _ | refine blk_drew ?_ | refine blk_alloc ?_ _)); refine blk_put (cs := #[.int .i64 1, .int .i64 0, .int .i64 0, .int .i64 0, .int .i64 0, .int .i64 0]) ?_ 1 _ rfl; (with_reducible repeat (first | refine blk_drewN ?_ _ | refine blk_drew ?_ | refine blk_alloc ?_ _)); refine blk_put (cs := #[.int .i64 0, .int .i64 0, .int .i64 0, .int .i64 0, .int .i64 0, .int .i64 0]) ?_ 0 _ rfl; (with_reducible repeat (first | refine blk_drewN ?_ _ | refine blk_drew ?_ | refine blk_alloc ?_ _)); exact BK210.out) NB210_0.out (by simp)); have n2_ := Aside0.mk (KeepBut.trans (by repeat (first | (with_reducible first | exact HK.out | apply KeepBut.set_ | apply keep_drewN | apply keep_drew | apply keep_alloc | refine keep_far ?_ GW203.out _ | refine keep_far ?_ GW210.out _) | exact HK.out)) hk (.inl rfl)); have n3_ := Aside0.mk (hb); have n4_ := Aside0.mk (hi); clear BK203; clear BK210; clear HK; clear HB; clear HI0; have BK203 := n0_; have BK210 := n1_; have HK := n2_; have HB := n3_; have HI0 := n4_; clear n0_ n1_ n2_ n3_ n4_; (try clear hb); (try clear hb2); (try clear hk); (try clear hi)))
 (try simp only [Act.put, List.setIfInBounds_toArray, List.set_cons_zero, List.set_cons_succ])
 go_cut [] (fun wc => ∃ (kq : Nat) (x1001_6 : Int) (x211000_6 : Int) (x211001_6 : Int) (x211004_6 : Int) (x211005_6 : Int), Aside0 (awardingbodymake_Tape_Part.j0 kq a1 s0_0 x1001_6 x211000_6 x211001_6 t206 t208 x211004_6 x211005_6 = some (r1, r2, r3, r4, r5, r6, r7)) ∧ Aside0 (kq ≤ k) ∧ Aside0 (wc.heap[gb203]? = some (.cells #[.int .i64 0, .int .i64 0, .int .i64 0, .int .i64 0, .int .i64 0, .int .i64 0] 23 (0, 0))) ∧ Aside0 (wc.heap[gb210]? = some (.cells #[.int .i64 x211000_6, .int .i64 x211001_6, .int .i64 t206, .int .i64 t208, .int .i64 x211004_6, .int .i64 x211005_6] 23 (0, 0))) ∧ Aside0 (IsS54 w0 wc g s0_0 x1001_6) ∧ Aside0 (KeepBut w wc g none) ∧ Aside0 (Below w0.heap.size w0 wc))
 case first =>
  have H := HC7.out
  clear HC7
  by_cases c17 : t211 = 0
  ·rw [if_pos c17] at H
   have c17b0 : (t211 == 0) = true := beq_iff_eq.mpr c17
   have c17b1 : (t211 != 0) = false := bne_eq_false_iff_eq.mpr c17
   clear c17
   (first | rw [c17b0] | (simp only [i64_w, i32_w]; rw [c17b0]) | skip)
   replace H := Option.bind_eq_some_iff.mp H
   obtain ⟨⟨t213, t214⟩, A180, H⟩ := H
   replace H : ((awardingbodymake_Tape_Next.f s0_0 t214 t213).bind fun bt215 => ((awardingbodymake_Tape_Range.f s0_0 bt215.2 1 3).bind fun bt217 => (awardingbodymake_Tape_Part.j0 k a1 s0_0 bt217.2 2 bt217.1 t206 t208 t213 bt215.1))) = some (r1, r2, r3, r4, r5, r6, r7) := H
   have A18 := Aside0.mk A180
   clear A180
   replace H := Option.bind_eq_some_iff.mp H
   obtain ⟨⟨t215, t216⟩, A190, H⟩ := H
   replace H : ((awardingbodymake_Tape_Range.f s0_0 t216 1 3).bind fun bt217 => (awardingbodymake_Tape_Part.j0 k a1 s0_0 bt217.2 2 bt217.1 t206 t208 t213 t215)) = some (r1, r2, r3, r4, r5, r6, r7) := H
   have A19 := Aside0.mk A190
   clear A190
   replace H := Option.bind_eq_some_iff.mp H
   obtain ⟨⟨t217, t218⟩, A200, H⟩ := H
   replace H : (awardingbodymake_Tape_Part.j0 k a1 s0_0 t218 2 t217 t206 t208 t213 t215) = some (r1, r2, r3, r4, r5, r6, r7) := H
   have A20 := Aside0.mk A200
   clear A200
   have H' := Aside0.mk H
   clear H
   go_wp2_with (first | ((with_reducible refine gate_callee (f := 18) rfl ?_); refine goesL_ (some 17) rfl rfl Try.func18 (by kernel_rfl) rfl #[.pointer (some ⟨g, 0, none⟩), .int .i64 2, .int .i64 5] rfl (by (try simp only [List.map_toArray, List.map_cons, List.map_nil]); first | done | rfl | (simp only [List.length_drop, List.length_take]; rfl)) ?_; (with_reducible refine (awardingbodymake_Tape_Range.calls g s0_0 t212 2 5 t213 t214 w0 _ ?side1 ?side2 A18.out).mono ?_); (case side1 => repeat (first | (with_reducible first | exact HI0.out | apply IsS54.alloc | apply IsS54.drewN | apply IsS54.drew | apply IsS54.set_1 | refine IsS54.far ?_ NB0_203.out _ | refine IsS54.far ?_ NB0_210.out _) | exact HI0.out)); (case side2 => repeat (first | (with_reducible first | exact HB.out | apply below_alloc | apply pw_below_drewN | apply below_drew1 | refine below_set ?_ (IsS54.ge HI0.out) | refine below_set ?_ GE203.out | refine below_set ?_ GE210.out) | exact HB.out)); rintro e w21 ⟨rfl, hi, hb, hk⟩; refine ⟨_, rfl, ?_⟩; have n0_ := Aside0.mk (KeepBut.blk hk (g' := gb203) (o := .cells #[.int .i64 0, .int .i64 0, .int .i64 0, .int .i64 0, .int .i64 0, .int .i64 0] 23 (0, 0)) (by (with_reducible repeat (first | refine blk_drewN ?_ _ | refine blk_drew ?_ | refine blk_alloc ?_ _)); exact BK203.out) NB203_0.out (by simp)); have n1_ := Aside0.mk (KeepBut.blk hk (g' := gb210) (o := .cells #[.int .i64 1, .int .i64 t204, .int .i64 t206, .int .i64 t208, .int .i64 0, .int .i64 0] 23 (0, 0)) (by (with_reducible repeat (first | refine blk_drewN ?_ _ | refine blk_drew ?_ | refine blk_alloc ?_ _)); exact BK210.out) NB210_0.out (by simp)); have n2_ := Aside0.mk (KeepBut.trans (by repeat (first | (with_reducible first | exact HK.out | apply KeepBut.set_ | apply keep_drewN | apply keep_drew | apply keep_alloc | refine keep_far ?_ GW203.out _ | refine keep_far ?_ GW210.out _) | exact HK.out)) hk (.inl rfl)); have n3_ := Aside0.mk (hb); have n4_ := Aside0.mk (hi); clear BK203; clear BK210; clear HK; clear HB; clear HI0; have BK203 := n0_; have BK210 := n1_; have HK := n2_; have HB := n3_; have HI0 := n4_; clear n0_ n1_ n2_ n3_ n4_; (try clear hb); (try clear hb2); (try clear hk); (try clear hi); have hnb22 := NB210_203.out; have hnc22 := NB203_210.out; have hnb23 := NB210_0.out; have hnc23 := NB0_210.out; have hcz24_0 : w21.cell? ⟨gb210, 0, none⟩ = some (.int .i64 1) := (blk_cell BK210.out 0).trans rfl; have hcz24_1 : w21.cell? ⟨gb210, 1, none⟩ = some (.int .i64 t204) := (blk_cell BK210.out 1).trans rfl; have hcz24_2 : w21.cell? ⟨gb210, 2, none⟩ = some (.int .i64 t206) := (blk_cell BK210.out 2).trans rfl; have hcz24_3 : w21.cell? ⟨gb210, 3, none⟩ = some (.int .i64 t208) := (blk_cell BK210.out 3).trans rfl; have hcz24_4 : w21.cell? ⟨gb210, 4, none⟩ = some (.int .i64 0) := (blk_cell BK210.out 4).trans rfl; have hcz24_5 : w21.cell? ⟨gb210, 5, none⟩ = some (.int .i64 0) := (blk_cell BK210.out 5).trans rfl; have hfz24_0 := blk_frozen BK210.out 0; have hfz24_1 := blk_frozen BK210.out 1; have hfz24_2 := blk_frozen BK210.out 2; have hfz24_3 := blk_frozen BK210.out 3; have hfz24_4 := blk_frozen BK210.out 4; have hfz24_5 := blk_frozen BK210.out 5) | ((with_reducible refine gate_callee (f := 17) rfl ?_); refine goesL_ (some 23) rfl rfl Try.func17 (by kernel_rfl) rfl #[.pointer (some ⟨g, 0, none⟩), .int .i64 t213] rfl (by (try simp only [List.map_toArray, List.map_cons, List.map_nil]); first | done | rfl | (simp only [List.length_drop, List.length_take]; rfl)) ?_; (with_reducible refine (awardingbodymake_Tape_Next.calls g s0_0 t214 t213 t215 t216 w0 _ ?side1 ?side2 A19.out).mono ?_); (case side1 => repeat (first | (with_reducible first | exact HI0.out | apply IsS54.alloc | apply IsS54.drewN | apply IsS54.drew | apply IsS54.set_1 | refine IsS54.far ?_ NB0_203.out _ | refine IsS54.far ?_ NB0_210.out _) | exact HI0.out)); (case side2 => repeat (first | (with_reducible first | exact HB.out | apply below_alloc | apply pw_below_drewN | apply below_drew1 | refine below_set ?_ (IsS54.ge HI0.out) | refine below_set ?_ GE203.out | refine below_set ?_ GE210.out) | exact HB.out)); rintro e w25 ⟨rfl, hi, hb, hk⟩; refine ⟨_, rfl, ?_⟩; have n0_ := Aside0.mk (KeepBut.blk hk (g' := gb203) (o := .cells #[.int .i64 0, .int .i64 0, .int .i64 0, .int .i64 0, .int .i64 0, .int .i64 0] 23 (0, 0)) (by (with_reducible repeat (first | refine blk_drewN ?_ _ | refine blk_drew ?_ | refine blk_alloc ?_ _)); refine blk_far ?_ NB203_210.out _; (with_reducible repeat (first | refine blk_drewN ?_ _ | refine blk_drew ?_ | refine blk_alloc ?_ _)); refine blk_far ?_ NB203_210.out _; (with_reducible repeat (first | refine blk_drewN ?_ _ | refine blk_drew ?_ | refine blk_alloc ?_ _)); exact BK203.out) NB203_0.out (by simp)); have n1_ := Aside0.mk (KeepBut.blk hk (g' := gb210) (o := .cells #[.int .i64 2, .int .i64 t204, .int .i64 t206, .int .i64 t208, .int .i64 t213, .int .i64 0] 23 (0, 0)) (by (with_reducible repeat (first | refine blk_drewN ?_ _ | refine blk_drew ?_ | refine blk_alloc ?_ _)); refine blk_put (cs := #[.int .i64 2, .int .i64 t204, .int .i64 t206, .int .i64 t208, .int .i64 0, .int .i64 0]) ?_ 4 _ rfl; (with_reducible repeat (first | refine blk_drewN ?_ _ | refine blk_drew ?_ | refine blk_alloc ?_ _)); refine blk_put (cs := #[.int .i64 1, .int .i64 t204, .int .i64 t206, .int .i64 t208, .int .i64 0, .int .i64 0]) ?_ 0 _ rfl; (with_reducible repeat (first | refine blk_drewN ?_ _ | refine blk_drew ?_ | refine blk_alloc ?_ _)); exact BK210.out) NB210_0.out (by simp)); have n2_ := Aside0.mk (KeepBut.trans (by repeat (first | (with_reducible first | exact HK.out | apply KeepBut.set_ | apply keep_drewN | apply keep_drew | apply keep_alloc | refine keep_far ?_ GW203.out _ | refine keep_far ?_ GW210.out _) | exact HK.out)) hk (.inl rfl)); have n3_ := Aside0.mk (hb); have n4_ := Aside0.mk (hi); clear BK203; clear BK210; clear HK; clear HB; clear HI0; have BK203 := n0_; have BK210 := n1_; have HK := n2_; have HB := n3_; have HI0 := n4_; clear n0_ n1_ n2_ n3_ n4_; (try clear hb); (try clear hb2); (try clear hk); (try clear hi)) | ((with_reducible refine gate_callee (f := 18) rfl ?_); refine goesL_ (some 25) rfl rfl Try.func18 (by kernel_rfl) rfl #[.pointer (some ⟨g, 0, none⟩), .int .i64 1, .int .i64 3] rfl (by (try simp only [List.map_toArray, List.map_cons, List.map_nil]); first | done | rfl | (simp only [List.length_drop, List.length_take]; rfl)) ?_; (with_reducible refine (awardingbodymake_Tape_Range.calls g s0_0 t216 1 3 t217 t218 w0 _ ?side1 ?side2 A20.out).mono ?_); (case side1 => repeat (first | (with_reducible first | exact HI0.out | apply IsS54.alloc | apply IsS54.drewN | apply IsS54.drew | apply IsS54.set_1 | refine IsS54.far ?_ NB0_203.out _ | refine IsS54.far ?_ NB0_210.out _) | exact HI0.out)); (case side2 => repeat (first | (with_reducible first | exact HB.out | apply below_alloc | apply pw_below_drewN | apply below_drew1 | refine below_set ?_ (IsS54.ge HI0.out) | refine below_set ?_ GE203.out | refine below_set ?_ GE210.out) | exact HB.out)); rintro e w26 ⟨rfl, hi, hb, hk⟩; refine ⟨_, rfl, ?_⟩; have n0_ := Aside0.mk (KeepBut.blk hk (g' := gb203) (o := .cells #[.int .i64 0, .int .i64 0, .int .i64 0, .int .i64 0, .int .i64 0, .int .i64 0] 23 (0, 0)) (by (with_reducible repeat (first | refine blk_drewN ?_ _ | refine blk_drew ?_ | refine blk_alloc ?_ _)); exact BK203.out) NB203_0.out (by simp)); have n1_ := Aside0.mk (KeepBut.blk hk (g' := gb210) (o := .cells #[.int .i64 2, .int .i64 t204, .int .i64 t206, .int .i64 t208, .int .i64 t213, .int .i64 0] 23 (0, 0)) (by (with_reducible repeat (first | refine blk_drewN ?_ _ | refine blk_drew ?_ | refine blk_alloc ?_ _)); exact BK210.out) NB210_0.out (by simp)); have n2_ := Aside0.mk (KeepBut.trans (by repeat (first | (with_reducible first | exact HK.out | apply KeepBut.set_ | apply keep_drewN | apply keep_drew | apply keep_alloc | refine keep_far ?_ GW203.out _ | refine keep_far ?_ GW210.out _) | exact HK.out)) hk (.inl rfl)); have n3_ := Aside0.mk (hb); have n4_ := Aside0.mk (hi); clear BK203; clear BK210; clear HK; clear HB; clear HI0; have BK203 := n0_; have BK210 := n1_; have HK := n2_; have HB := n3_; have HI0 := n4_; clear n0_ n1_ n2_ n3_ n4_; (try clear hb); (try clear hb2); (try clear hk); (try clear hi); have hcz27_0 : w26.cell? ⟨gb210, 0, none⟩ = some (.int .i64 2) := (blk_cell BK210.out 0).trans rfl; have hcz27_1 : w26.cell? ⟨gb210, 1, none⟩ = some (.int .i64 t204) := (blk_cell BK210.out 1).trans rfl; have hcz27_2 : w26.cell? ⟨gb210, 2, none⟩ = some (.int .i64 t206) := (blk_cell BK210.out 2).trans rfl; have hcz27_3 : w26.cell? ⟨gb210, 3, none⟩ = some (.int .i64 t208) := (blk_cell BK210.out 3).trans rfl; have hcz27_4 : w26.cell? ⟨gb210, 4, none⟩ = some (.int .i64 t213) := (blk_cell BK210.out 4).trans rfl; have hcz27_5 : w26.cell? ⟨gb210, 5, none⟩ = some (.int .i64 0) := (blk_cell BK210.out 5).trans rfl; have hfz27_0 := blk_frozen BK210.out 0; have hfz27_1 := blk_frozen BK210.out 1; have hfz27_2 := blk_frozen BK210.out 2; have hfz27_3 := blk_frozen BK210.out 3; have hfz27_4 := blk_frozen BK210.out 4; have hfz27_5 := blk_frozen BK210.out 5))
   go_meet
   case rel => exact ⟨_, (t218), (2), (t217), (t213), (t215), H', ⟨by first | omega | exact Nat.le_refl _⟩, ⟨by (with_reducible repeat (first | refine blk_drewN ?_ _ | refine blk_drew ?_ | refine blk_alloc ?_ _)); refine blk_far ?_ NB203_210.out _; (with_reducible repeat (first | refine blk_drewN ?_ _ | refine blk_drew ?_ | refine blk_alloc ?_ _)); refine blk_far ?_ NB203_210.out _; (with_reducible repeat (first | refine blk_drewN ?_ _ | refine blk_drew ?_ | refine blk_alloc ?_ _)); exact BK203.out⟩, ⟨by (with_reducible repeat (first | refine blk_drewN ?_ _ | refine blk_drew ?_ | refine blk_alloc ?_ _)); refine blk_put (cs := #[.int .i64 2, .int .i64 t204, .int .i64 t206, .int .i64 t208, .int .i64 t213, .int .i64 t215]) ?_ 1 _ rfl; (with_reducible repeat (first | refine blk_drewN ?_ _ | refine blk_drew ?_ | refine blk_alloc ?_ _)); refine blk_put (cs := #[.int .i64 2, .int .i64 t204, .int .i64 t206, .int .i64 t208, .int .i64 t213, .int .i64 0]) ?_ 5 _ rfl; (with_reducible repeat (first | refine blk_drewN ?_ _ | refine blk_drew ?_ | refine blk_alloc ?_ _)); exact BK210.out⟩, ⟨by repeat (first | (with_reducible first | exact HI0.out | apply IsS54.alloc | apply IsS54.drewN | apply IsS54.drew | apply IsS54.set_1 | refine IsS54.far ?_ NB0_203.out _ | refine IsS54.far ?_ NB0_210.out _) | exact HI0.out)⟩, ⟨by repeat (first | (with_reducible first | exact HK.out | apply KeepBut.set_ | apply keep_drewN | apply keep_drew | apply keep_alloc | refine keep_far ?_ GW203.out _ | refine keep_far ?_ GW210.out _) | exact HK.out)⟩, ⟨by repeat (first | (with_reducible first | exact HB.out | apply below_alloc | apply pw_below_drewN | apply below_drew1 | refine below_set ?_ (IsS54.ge HI0.out) | refine below_set ?_ GE203.out | refine below_set ?_ GE210.out) | exact HB.out)⟩⟩
  ·rw [if_neg c17] at H
   have c17b0 : (t211 == 0) = false := beq_eq_false_iff_ne.mpr c17
   have c17b1 : (t211 != 0) = true := bne_iff_ne.mpr c17
   (first | rw [c17b0] | (simp only [i64_w, i32_w]; rw [c17b0]) | skip)
   have H' := Aside0.mk H
   clear H
   go_wp2
   go_meet
   case rel => exact ⟨_, (t212), (1), (t204), (0), (0), H', ⟨by first | omega | exact Nat.le_refl _⟩, ⟨by (with_reducible repeat (first | refine blk_drewN ?_ _ | refine blk_drew ?_ | refine blk_alloc ?_ _)); exact BK203.out⟩, ⟨by (with_reducible repeat (first | refine blk_drewN ?_ _ | refine blk_drew ?_ | refine blk_alloc ?_ _)); exact BK210.out⟩, ⟨by repeat (first | (with_reducible first | exact HI0.out | apply IsS54.alloc | apply IsS54.drewN | apply IsS54.drew | apply IsS54.set_1 | refine IsS54.far ?_ NB0_203.out _ | refine IsS54.far ?_ NB0_210.out _) | exact HI0.out)⟩, ⟨by repeat (first | (with_reducible first | exact HK.out | apply KeepBut.set_ | apply keep_drewN | apply keep_drew | apply keep_alloc | refine keep_far ?_ GW203.out _ | refine keep_far ?_ GW210.out _) | exact HK.out)⟩, ⟨by repeat (first | (with_reducible first | exact HB.out | apply below_alloc | apply pw_below_drewN | apply below_drew1 | refine below_set ?_ (IsS54.ge HI0.out) | refine below_set ?_ GE203.out | refine below_set ?_ GE210.out) | exact HB.out)⟩⟩
 case rest =>
  clear HC7
  try clear c1
  try clear c2
  try clear p2
  try clear c13
  try clear c14
  try clear c17
  try clear c17b0
  try clear c17b1
  try clear c18
  try clear c22
  try clear c23
  try clear hcz15_0
  try clear hcz15_1
  try clear hcz15_2
  try clear hcz15_3
  try clear hcz15_4
  try clear hcz15_5
  try clear hcz24_0
  try clear hcz24_1
  try clear hcz24_2
  try clear hcz24_3
  try clear hcz24_4
  try clear hcz24_5
  try clear hcz27_0
  try clear hcz27_1
  try clear hcz27_2
  try clear hcz27_3
  try clear hcz27_4
  try clear hcz27_5
  try clear hfz15_0
  try clear hfz15_1
  try clear hfz15_2
  try clear hfz15_3
  try clear hfz15_4
  try clear hfz15_5
  try clear hfz24_0
  try clear hfz24_1
  try clear hfz24_2
  try clear hfz24_3
  try clear hfz24_4
  try clear hfz24_5
  try clear hfz27_0
  try clear hfz27_1
  try clear hfz27_2
  try clear hfz27_3
  try clear hfz27_4
  try clear hfz27_5
  obtain ⟨kq, x1001_6, x211000_6, x211001_6, x211004_6, x211005_6, HA, HJ6, BK203, BK210, HI0, HK, HB⟩ := hcut
  cases kq with
  | zero => exact absurd HA.out (by simp [awardingbodymake_Tape_Part.j0])
  | succ kj6 =>
   have H := HA.out
   clear HA
   simp only [awardingbodymake_Tape_Part.j0] at H
   have HC28 := Aside0.mk H
   clear H
   go_upto_region 5 with (fail)
   go_cut [34] (fun v34 wc => ∃ (kq : Nat) (x34_27 : Bool) (x1001_27 : Int), v34 = .bool x34_27 ∧ Aside0 (awardingbodymake_Tape_Part.j1 kq x34_27 s0_0 x1001_27 x211000_6 x211001_6 t206 t208 x211004_6 x211005_6 = some (r1, r2, r3, r4, r5, r6, r7)) ∧ Aside0 (kq ≤ kj6) ∧ Aside0 (wc.heap[gb203]? = some (.cells #[.int .i64 0, .int .i64 0, .int .i64 0, .int .i64 0, .int .i64 0, .int .i64 0] 23 (0, 0))) ∧ Aside0 (wc.heap[gb210]? = some (.cells #[.int .i64 x211000_6, .int .i64 x211001_6, .int .i64 t206, .int .i64 t208, .int .i64 x211004_6, .int .i64 x211005_6] 23 (0, 0))) ∧ Aside0 (IsS54 w0 wc g s0_0 x1001_27) ∧ Aside0 (KeepBut w wc g none) ∧ Aside0 (Below w0.heap.size w0 wc))
   case first =>
    have H := HC28.out
    clear HC28
    by_cases c29 : a1 > 0
    ·rw [if_pos c29] at H
     have c29b0 : decide (0 < a1) = true := decide_eq_true c29
     clear c29
     (first | rw [c29b0] | (simp only [i64_w, i32_w]; rw [c29b0]) | skip)
     replace H := Option.bind_eq_some_iff.mp H
     obtain ⟨⟨t219, t220⟩, A300, H⟩ := H
     replace H : (awardingbodymake_Tape_Part.j1 kj6 t219 s0_0 t220 x211000_6 x211001_6 t206 t208 x211004_6 x211005_6) = some (r1, r2, r3, r4, r5, r6, r7) := H
     have A30 := Aside0.mk A300
     clear A300
     have H' := Aside0.mk H
     clear H
     go_wp2_with (first | (go_at_call 38; (with_reducible refine (awardingbodymake_Tape_One.calls g s0_0 x1001_6 a1 t219 t220 w0 _ ?side1 ?side2 A30.out).mono ?_); (case side1 => repeat (first | (with_reducible first | exact HI0.out | apply IsS54.alloc | apply IsS54.drewN | apply IsS54.drew | apply IsS54.set_1 | refine IsS54.far ?_ NB0_203.out _ | refine IsS54.far ?_ NB0_210.out _) | exact HI0.out)); (case side2 => repeat (first | (with_reducible first | exact HB.out | apply below_alloc | apply pw_below_drewN | apply below_drew1 | refine below_set ?_ (IsS54.ge HI0.out) | refine below_set ?_ GE203.out | refine below_set ?_ GE210.out) | exact HB.out)); rintro e w31 ⟨rfl, hi, hb, hk⟩; have n0_ := Aside0.mk (KeepBut.blk hk (g' := gb203) (o := .cells #[.int .i64 0, .int .i64 0, .int .i64 0, .int .i64 0, .int .i64 0, .int .i64 0] 23 (0, 0)) (by (with_reducible repeat (first | refine blk_drewN ?_ _ | refine blk_drew ?_ | refine blk_alloc ?_ _)); exact BK203.out) NB203_0.out (by simp)); have n1_ := Aside0.mk (KeepBut.blk hk (g' := gb210) (o := .cells #[.int .i64 x211000_6, .int .i64 x211001_6, .int .i64 t206, .int .i64 t208, .int .i64 x211004_6, .int .i64 x211005_6] 23 (0, 0)) (by (with_reducible repeat (first | refine blk_drewN ?_ _ | refine blk_drew ?_ | refine blk_alloc ?_ _)); exact BK210.out) NB210_0.out (by simp)); have n2_ := Aside0.mk (KeepBut.trans (by repeat (first | (with_reducible first | exact HK.out | apply KeepBut.set_ | apply keep_drewN | apply keep_drew | apply keep_alloc | refine keep_far ?_ GW203.out _ | refine keep_far ?_ GW210.out _) | exact HK.out)) hk (.inl rfl)); have n3_ := Aside0.mk (hb); have n4_ := Aside0.mk (hi); clear BK203; clear BK210; clear HK; clear HB; clear HI0; have BK203 := n0_; have BK210 := n1_; have HK := n2_; have HB := n3_; have HI0 := n4_; clear n0_ n1_ n2_ n3_ n4_; (try clear hb); (try clear hb2); (try clear hk); (try clear hi)))
     go_meet
     case rel => exact ⟨_, (t219), (t220), (by first | rfl | (simp; done) | (simp [*]; done)), H', ⟨by have := HJ6.out; first | omega | exact Nat.le_refl _⟩, ⟨by (with_reducible repeat (first | refine blk_drewN ?_ _ | refine blk_drew ?_ | refine blk_alloc ?_ _)); exact BK203.out⟩, ⟨by (with_reducible repeat (first | refine blk_drewN ?_ _ | refine blk_drew ?_ | refine blk_alloc ?_ _)); exact BK210.out⟩, ⟨by repeat (first | (with_reducible first | exact HI0.out | apply IsS54.alloc | apply IsS54.drewN | apply IsS54.drew | apply IsS54.set_1 | refine IsS54.far ?_ NB0_203.out _ | refine IsS54.far ?_ NB0_210.out _) | exact HI0.out)⟩, ⟨by repeat (first | (with_reducible first | exact HK.out | apply KeepBut.set_ | apply keep_drewN | apply keep_drew | apply keep_alloc | refine keep_far ?_ GW203.out _ | refine keep_far ?_ GW210.out _) | exact HK.out)⟩, ⟨by repeat (first | (with_reducible first | exact HB.out | apply below_alloc | apply pw_below_drewN | apply below_drew1 | refine below_set ?_ (IsS54.ge HI0.out) | refine below_set ?_ GE203.out | refine below_set ?_ GE210.out) | exact HB.out)⟩⟩
    ·rw [if_neg c29] at H
     have c29b0 : decide (0 < a1) = false := decide_eq_false c29
     clear c29
     (first | rw [c29b0] | (simp only [i64_w, i32_w]; rw [c29b0]) | skip)
     have H' := Aside0.mk H
     clear H
     go_wp2
     go_meet
     case rel => exact ⟨_, (false), (x1001_6), (by first | rfl | (simp; done) | (simp [*]; done)), H', ⟨by have := HJ6.out; first | omega | exact Nat.le_refl _⟩, ⟨by (with_reducible repeat (first | refine blk_drewN ?_ _ | refine blk_drew ?_ | refine blk_alloc ?_ _)); exact BK203.out⟩, ⟨by (with_reducible repeat (first | refine blk_drewN ?_ _ | refine blk_drew ?_ | refine blk_alloc ?_ _)); exact BK210.out⟩, ⟨by repeat (first | (with_reducible first | exact HI0.out | apply IsS54.alloc | apply IsS54.drewN | apply IsS54.drew | apply IsS54.set_1 | refine IsS54.far ?_ NB0_203.out _ | refine IsS54.far ?_ NB0_210.out _) | exact HI0.out)⟩, ⟨by repeat (first | (with_reducible first | exact HK.out | apply KeepBut.set_ | apply keep_drewN | apply keep_drew | apply keep_alloc | refine keep_far ?_ GW203.out _ | refine keep_far ?_ GW210.out _) | exact HK.out)⟩, ⟨by repeat (first | (with_reducible first | exact HB.out | apply below_alloc | apply pw_below_drewN | apply below_drew1 | refine below_set ?_ (IsS54.ge HI0.out) | refine below_set ?_ GE203.out | refine below_set ?_ GE210.out) | exact HB.out)⟩⟩
   case rest =>
    clear HC28
    try clear c1
    try clear c2
    try clear p2
    try clear c13
    try clear c14
    try clear c17
    try clear c17b0
    try clear c17b1
    try clear c18
    try clear c22
    try clear c23
    try clear c29
    try clear c29b0
    try clear hcz15_0
    try clear hcz15_1
    try clear hcz15_2
    try clear hcz15_3
    try clear hcz15_4
    try clear hcz15_5
    try clear hcz24_0
    try clear hcz24_1
    try clear hcz24_2
    try clear hcz24_3
    try clear hcz24_4
    try clear hcz24_5
    try clear hcz27_0
    try clear hcz27_1
    try clear hcz27_2
    try clear hcz27_3
    try clear hcz27_4
    try clear hcz27_5
    try clear hfz15_0
    try clear hfz15_1
    try clear hfz15_2
    try clear hfz15_3
    try clear hfz15_4
    try clear hfz15_5
    try clear hfz24_0
    try clear hfz24_1
    try clear hfz24_2
    try clear hfz24_3
    try clear hfz24_4
    try clear hfz24_5
    try clear hfz27_0
    try clear hfz27_1
    try clear hfz27_2
    try clear hfz27_3
    try clear hfz27_4
    try clear hfz27_5
    try clear p2
    obtain ⟨kq, x34_27, x1001_27, rfl, HA, HJ27, BK203, BK210, HI0, HK, HB⟩ := hcut
    cases kq with
    | zero => exact absurd HA.out (by simp [awardingbodymake_Tape_Part.j1])
    | succ kj27 =>
     have H := HA.out
     clear HA
     simp only [awardingbodymake_Tape_Part.j1] at H
     by_cases c32 : x34_27 = true
     ·subst c32
      have H1 : ((awardingbodymake_Tape_Next.f s0_0 x1001_27 6).bind fun bt221 => (if bt221.1 = 0 then ((awardingbodymake_Tape_Range.f s0_0 bt221.2 (-1) 3).bind fun bt223 => (some (bt223.1, x211001_6, t206, t208, x211004_6, x211005_6, bt223.2))) else (if bt221.1 = 1 then ((awardingbodymake_Tape_Pick.f s0_0 bt221.2 (([0, 40, 41, (-1)] : List Int))).bind fun bt228 => (some (x211000_6, bt228.1, t206, t208, x211004_6, x211005_6, bt228.2))) else (if bt221.1 = 2 then ((awardingbodymake_Tape_Wild.f s0_0 bt221.2).bind fun bt230 => (some (x211000_6, x211001_6, bt230.1, t208, x211004_6, x211005_6, bt230.2))) else (if bt221.1 = 3 then ((awardingbodymake_Tape_Wild.f s0_0 bt221.2).bind fun bt232 => (some (x211000_6, x211001_6, t206, bt232.1, x211004_6, x211005_6, bt232.2))) else (if bt221.1 = 4 then ((awardingbodymake_Tape_Range.f s0_0 bt221.2 (-1) 6).bind fun bt234 => (some (x211000_6, x211001_6, t206, t208, bt234.1, x211005_6, bt234.2))) else ((awardingbodymake_Tape_Range.f s0_0 bt221.2 (-1) 5).bind fun bt236 => (some (x211000_6, x211001_6, t206, t208, x211004_6, bt236.1, bt236.2))))))))) = some (r1, r2, r3, r4, r5, r6, r7) := by rw [if_pos rfl] at H; exact H
      clear H
      have H := H1
      clear H1
      replace H := Option.bind_eq_some_iff.mp H
      obtain ⟨⟨t221, t222⟩, A330, H⟩ := H
      replace H : (if t221 = 0 then ((awardingbodymake_Tape_Range.f s0_0 t222 (-1) 3).bind fun bt223 => (some (bt223.1, x211001_6, t206, t208, x211004_6, x211005_6, bt223.2))) else (if t221 = 1 then ((awardingbodymake_Tape_Pick.f s0_0 t222 (([0, 40, 41, (-1)] : List Int))).bind fun bt228 => (some (x211000_6, bt228.1, t206, t208, x211004_6, x211005_6, bt228.2))) else (if t221 = 2 then ((awardingbodymake_Tape_Wild.f s0_0 t222).bind fun bt230 => (some (x211000_6, x211001_6, bt230.1, t208, x211004_6, x211005_6, bt230.2))) else (if t221 = 3 then ((awardingbodymake_Tape_Wild.f s0_0 t222).bind fun bt232 => (some (x211000_6, x211001_6, t206, bt232.1, x211004_6, x211005_6, bt232.2))) else (if t221 = 4 then ((awardingbodymake_Tape_Range.f s0_0 t222 (-1) 6).bind fun bt234 => (some (x211000_6, x211001_6, t206, t208, bt234.1, x211005_6, bt234.2))) else ((awardingbodymake_Tape_Range.f s0_0 t222 (-1) 5).bind fun bt236 => (some (x211000_6, x211001_6, t206, t208, x211004_6, bt236.1, bt236.2)))))))) = some (r1, r2, r3, r4, r5, r6, r7) := H
      have A33 := Aside0.mk A330
      clear A330
      by_cases c34 : t221 = 0
      ·rw [if_pos c34] at H
       have c34b0 : (t221 == 0) = true := beq_iff_eq.mpr c34
       have c34b1 : (t221 != 0) = false := bne_eq_false_iff_eq.mpr c34
       clear c34
       replace H := Option.bind_eq_some_iff.mp H
       obtain ⟨⟨t223, t224⟩, A350, H⟩ := H
       replace H : (some (t223, x211001_6, t206, t208, x211004_6, x211005_6, t224)) = some (r1, r2, r3, r4, r5, r6, r7) := H
       have A35 := Aside0.mk A350
       clear A350
       simp only [Option.some.injEq, Prod.mk.injEq] at H
       obtain ⟨rfl, rfl, rfl, rfl, rfl, rfl, rfl⟩ := H
       go_wp2_with (first | ((with_reducible refine gate_callee (f := 17) rfl ?_); refine goesL_ (some 36) rfl rfl Try.func17 (by kernel_rfl) rfl #[.pointer (some ⟨g, 0, none⟩), .int .i64 6] rfl (by (try simp only [List.map_toArray, List.map_cons, List.map_nil]); first | done | rfl | (simp only [List.length_drop, List.length_take]; rfl)) ?_; (with_reducible refine (awardingbodymake_Tape_Next.calls g s0_0 x1001_27 6 t221 t222 w0 _ ?side1 ?side2 A33.out).mono ?_); (case side1 => repeat (first | (with_reducible first | exact HI0.out | apply IsS54.alloc | apply IsS54.drewN | apply IsS54.drew | apply IsS54.set_1 | refine IsS54.far ?_ NB0_203.out _ | refine IsS54.far ?_ NB0_210.out _) | exact HI0.out)); (case side2 => repeat (first | (with_reducible first | exact HB.out | apply below_alloc | apply pw_below_drewN | apply below_drew1 | refine below_set ?_ (IsS54.ge HI0.out) | refine below_set ?_ GE203.out | refine below_set ?_ GE210.out) | exact HB.out)); rintro e w36 ⟨rfl, hi, hb, hk⟩; refine ⟨_, rfl, ?_⟩; have n0_ := Aside0.mk (KeepBut.blk hk (g' := gb203) (o := .cells #[.int .i64 0, .int .i64 0, .int .i64 0, .int .i64 0, .int .i64 0, .int .i64 0] 23 (0, 0)) (by (with_reducible repeat (first | refine blk_drewN ?_ _ | refine blk_drew ?_ | refine blk_alloc ?_ _)); exact BK203.out) NB203_0.out (by simp)); have n1_ := Aside0.mk (KeepBut.blk hk (g' := gb210) (o := .cells #[.int .i64 x211000_6, .int .i64 x211001_6, .int .i64 t206, .int .i64 t208, .int .i64 x211004_6, .int .i64 x211005_6] 23 (0, 0)) (by (with_reducible repeat (first | refine blk_drewN ?_ _ | refine blk_drew ?_ | refine blk_alloc ?_ _)); exact BK210.out) NB210_0.out (by simp)); have n2_ := Aside0.mk (KeepBut.trans (by repeat (first | (with_reducible first | exact HK.out | apply KeepBut.set_ | apply keep_drewN | apply keep_drew | apply keep_alloc | refine keep_far ?_ GW203.out _ | refine keep_far ?_ GW210.out _) | exact HK.out)) hk (.inl rfl)); have n3_ := Aside0.mk (hb); have n4_ := Aside0.mk (hi); clear BK203; clear BK210; clear HK; clear HB; clear HI0; have BK203 := n0_; have BK210 := n1_; have HK := n2_; have HB := n3_; have HI0 := n4_; clear n0_ n1_ n2_ n3_ n4_; (try clear hb); (try clear hb2); (try clear hk); (try clear hi)) | ((with_reducible refine gate_callee (f := 18) rfl ?_); refine goesL_ (some 43) rfl rfl Try.func18 (by kernel_rfl) rfl #[.pointer (some ⟨g, 0, none⟩), .int .i64 (-1), .int .i64 3] rfl (by (try simp only [List.map_toArray, List.map_cons, List.map_nil]); first | done | rfl | (simp only [List.length_drop, List.length_take]; rfl)) ?_; (with_reducible refine (awardingbodymake_Tape_Range.calls g s0_0 t222 (-1) 3 t223 t224 w0 _ ?side1 ?side2 A35.out).mono ?_); (case side1 => repeat (first | (with_reducible first | exact HI0.out | apply IsS54.alloc | apply IsS54.drewN | apply IsS54.drew | apply IsS54.set_1 | refine IsS54.far ?_ NB0_203.out _ | refine IsS54.far ?_ NB0_210.out _) | exact HI0.out)); (case side2 => repeat (first | (with_reducible first | exact HB.out | apply below_alloc | apply pw_below_drewN | apply below_drew1 | refine below_set ?_ (IsS54.ge HI0.out) | refine below_set ?_ GE203.out | refine below_set ?_ GE210.out) | exact HB.out)); rintro e w37 ⟨rfl, hi, hb, hk⟩; refine ⟨_, rfl, ?_⟩; have n0_ := Aside0.mk (KeepBut.blk hk (g' := gb203) (o := .cells #[.int .i64 0, .int .i64 0, .int .i64 0, .int .i64 0, .int .i64 0, .int .i64 0] 23 (0, 0)) (by (with_reducible repeat (first | refine blk_drewN ?_ _ | refine blk_drew ?_ | refine blk_alloc ?_ _)); exact BK203.out) NB203_0.out (by simp)); have n1_ := Aside0.mk (KeepBut.blk hk (g' := gb210) (o := .cells #[.int .i64 x211000_6, .int .i64 x211001_6, .int .i64 t206, .int .i64 t208, .int .i64 x211004_6, .int .i64 x211005_6] 23 (0, 0)) (by (with_reducible repeat (first | refine blk_drewN ?_ _ | refine blk_drew ?_ | refine blk_alloc ?_ _)); exact BK210.out) NB210_0.out (by simp)); have n2_ := Aside0.mk (KeepBut.trans (by repeat (first | (with_reducible first | exact HK.out | apply KeepBut.set_ | apply keep_drewN | apply keep_drew | apply keep_alloc | refine keep_far ?_ GW203.out _ | refine keep_far ?_ GW210.out _) | exact HK.out)) hk (.inl rfl)); have n3_ := Aside0.mk (hb); have n4_ := Aside0.mk (hi); clear BK203; clear BK210; clear HK; clear HB; clear HI0; have BK203 := n0_; have BK210 := n1_; have HK := n2_; have HB := n3_; have HI0 := n4_; clear n0_ n1_ n2_ n3_ n4_; (try clear hb); (try clear hb2); (try clear hk); (try clear hi); have hnb38 := NB210_203.out; have hnc38 := NB203_210.out; have hnb39 := NB210_0.out; have hnc39 := NB0_210.out; have hcz40_0 : w37.cell? ⟨gb210, 0, none⟩ = some (.int .i64 x211000_6) := (blk_cell BK210.out 0).trans rfl; have hcz40_1 : w37.cell? ⟨gb210, 1, none⟩ = some (.int .i64 x211001_6) := (blk_cell BK210.out 1).trans rfl; have hcz40_2 : w37.cell? ⟨gb210, 2, none⟩ = some (.int .i64 t206) := (blk_cell BK210.out 2).trans rfl; have hcz40_3 : w37.cell? ⟨gb210, 3, none⟩ = some (.int .i64 t208) := (blk_cell BK210.out 3).trans rfl; have hcz40_4 : w37.cell? ⟨gb210, 4, none⟩ = some (.int .i64 x211004_6) := (blk_cell BK210.out 4).trans rfl; have hcz40_5 : w37.cell? ⟨gb210, 5, none⟩ = some (.int .i64 x211005_6) := (blk_cell BK210.out 5).trans rfl; have hfz40_0 := blk_frozen BK210.out 0; have hfz40_1 := blk_frozen BK210.out 1; have hfz40_2 := blk_frozen BK210.out 2; have hfz40_3 := blk_frozen BK210.out 3; have hfz40_4 := blk_frozen BK210.out 4; have hfz40_5 := blk_frozen BK210.out 5; have hnb41 := NB203_0.out; have hnc41 := NB0_203.out; have hcz42_0 : w37.cell? ⟨gb203, 0, none⟩ = some (.int .i64 0) := (blk_cell BK203.out 0).trans rfl; have hcz42_1 : w37.cell? ⟨gb203, 1, none⟩ = some (.int .i64 0) := (blk_cell BK203.out 1).trans rfl; have hcz42_2 : w37.cell? ⟨gb203, 2, none⟩ = some (.int .i64 0) := (blk_cell BK203.out 2).trans rfl; have hcz42_3 : w37.cell? ⟨gb203, 3, none⟩ = some (.int .i64 0) := (blk_cell BK203.out 3).trans rfl; have hcz42_4 : w37.cell? ⟨gb203, 4, none⟩ = some (.int .i64 0) := (blk_cell BK203.out 4).trans rfl; have hcz42_5 : w37.cell? ⟨gb203, 5, none⟩ = some (.int .i64 0) := (blk_cell BK203.out 5).trans rfl; have hfz42_0 := blk_frozen BK203.out 0; have hfz42_1 := blk_frozen BK203.out 1; have hfz42_2 := blk_frozen BK203.out 2; have hfz42_3 := blk_frozen BK203.out 3; have hfz42_4 := blk_frozen BK203.out 4; have hfz42_5 := blk_frozen BK203.out 5))
       refine bodyPost_ret (results_cell_row rfl _ _ gb203 23 #[.int .i64 t223, .int .i64 x211001_6, .int .i64 t206, .int .i64 t208, .int .i64 x211004_6, .int .i64 x211005_6] (0, 0) _ rfl (by (with_reducible repeat (first | refine blk_drewN ?_ _ | refine blk_drew ?_ | refine blk_alloc ?_ _)); refine blk_put (cs := #[.int .i64 t223, .int .i64 x211001_6, .int .i64 t206, .int .i64 t208, .int .i64 x211004_6, .int .i64 0]) ?_ 5 _ rfl; (with_reducible repeat (first | refine blk_drewN ?_ _ | refine blk_drew ?_ | refine blk_alloc ?_ _)); refine blk_put (cs := #[.int .i64 t223, .int .i64 x211001_6, .int .i64 t206, .int .i64 t208, .int .i64 0, .int .i64 0]) ?_ 4 _ rfl; (with_reducible repeat (first | refine blk_drewN ?_ _ | refine blk_drew ?_ | refine blk_alloc ?_ _)); refine blk_put (cs := #[.int .i64 t223, .int .i64 x211001_6, .int .i64 t206, .int .i64 0, .int .i64 0, .int .i64 0]) ?_ 3 _ rfl; (with_reducible repeat (first | refine blk_drewN ?_ _ | refine blk_drew ?_ | refine blk_alloc ?_ _)); refine blk_put (cs := #[.int .i64 t223, .int .i64 x211001_6, .int .i64 0, .int .i64 0, .int .i64 0, .int .i64 0]) ?_ 2 _ rfl; (with_reducible repeat (first | refine blk_drewN ?_ _ | refine blk_drew ?_ | refine blk_alloc ?_ _)); refine blk_put (cs := #[.int .i64 t223, .int .i64 0, .int .i64 0, .int .i64 0, .int .i64 0, .int .i64 0]) ?_ 1 _ rfl; (with_reducible repeat (first | refine blk_drewN ?_ _ | refine blk_drew ?_ | refine blk_alloc ?_ _)); refine blk_put (cs := #[.int .i64 0, .int .i64 0, .int .i64 0, .int .i64 0, .int .i64 0, .int .i64 0]) ?_ 0 _ rfl; (with_reducible repeat (first | refine blk_drewN ?_ _ | refine blk_drew ?_ | refine blk_alloc ?_ _)); refine blk_far ?_ NB203_210.out _; (with_reducible repeat (first | refine blk_drewN ?_ _ | refine blk_drew ?_ | refine blk_alloc ?_ _)); exact BK203.out) Try.underlying23 rfl (by kernel_rfl)) rfl ?_
       exact ⟨by first | rfl | (simp [errW_none, errW_some] <;> rfl) | (simp [*, errW_none, errW_some] <;> rfl), by repeat (first | (with_reducible first | exact HI0.out | apply IsS54.alloc | apply IsS54.drewN | apply IsS54.drew | apply IsS54.set_1 | refine IsS54.far ?_ NB0_203.out _ | refine IsS54.far ?_ NB0_210.out _) | exact HI0.out), by repeat (first | (with_reducible first | exact HB.out | apply below_alloc | apply pw_below_drewN | apply below_drew1 | refine below_set ?_ (IsS54.ge HI0.out) | refine below_set ?_ GE203.out | refine below_set ?_ GE210.out) | exact HB.out), by repeat (first | (with_reducible first | exact HK.out | apply KeepBut.set_ | apply keep_drewN | apply keep_drew | apply keep_alloc | refine keep_far ?_ GW203.out _ | refine keep_far ?_ GW210.out _) | exact HK.out)⟩
      ·rw [if_neg c34] at H
       have c34b0 : (t221 == 0) = false := beq_eq_false_iff_ne.mpr c34
       have c34b1 : (t221 != 0) = true := bne_iff_ne.mpr c34
       by_cases c43 : t221 = 1
       ·rw [if_pos c43] at H
        have c43b0 : (t221 == 1) = true := beq_iff_eq.mpr c43
        have c43b1 : (t221 != 1) = false := bne_eq_false_iff_eq.mpr c43
        clear c43
        obtain ⟨y225, hy225⟩ : ∃ y_ : List Int, y_ = (([0, 40, 41, (-1)] : List Int)) := ⟨_, rfl⟩
        replace H : ((awardingbodymake_Tape_Pick.f s0_0 t222 y225).bind fun bt228 => (some (x211000_6, bt228.1, t206, t208, x211004_6, x211005_6, bt228.2))) = some (r1, r2, r3, r4, r5, r6, r7) := by first | (rw [hy225]; with_reducible exact H) | (have H2_ := (Option.bind_some _ _).symm.trans H; rw [hy225]; with_reducible exact H2_) | (have H2_ := (Option.bind_some _ _).symm.trans H; with_reducible exact H2_) | with_reducible exact H | (rw [hy225]; exact H) | exact H
        have Ny225 := Aside0.mk hy225
        clear hy225
        replace H := Option.bind_eq_some_iff.mp H
        obtain ⟨⟨t228, t229⟩, A440, H⟩ := H
        replace H : (some (x211000_6, t228, t206, t208, x211004_6, x211005_6, t229)) = some (r1, r2, r3, r4, r5, r6, r7) := H
        have A44 := Aside0.mk A440
        clear A440
        simp only [Option.some.injEq, Prod.mk.injEq] at H
        obtain ⟨rfl, rfl, rfl, rfl, rfl, rfl, rfl⟩ := H
        go_wp2_with (first | ((with_reducible refine gate_callee (f := 17) rfl ?_); refine goesL_ (some 36) rfl rfl Try.func17 (by kernel_rfl) rfl #[.pointer (some ⟨g, 0, none⟩), .int .i64 6] rfl (by (try simp only [List.map_toArray, List.map_cons, List.map_nil]); first | done | rfl | (simp only [List.length_drop, List.length_take]; rfl)) ?_; (with_reducible refine (awardingbodymake_Tape_Next.calls g s0_0 x1001_27 6 t221 t222 w0 _ ?side1 ?side2 A33.out).mono ?_); (case side1 => repeat (first | (with_reducible first | exact HI0.out | apply IsS54.alloc | apply IsS54.drewN | apply IsS54.drew | apply IsS54.set_1 | refine IsS54.far ?_ NB0_203.out _ | refine IsS54.far ?_ NB0_210.out _) | exact HI0.out)); (case side2 => repeat (first | (with_reducible first | exact HB.out | apply below_alloc | apply pw_below_drewN | apply below_drew1 | refine below_set ?_ (IsS54.ge HI0.out) | refine below_set ?_ GE203.out | refine below_set ?_ GE210.out) | exact HB.out)); rintro e w45 ⟨rfl, hi, hb, hk⟩; refine ⟨_, rfl, ?_⟩; have n0_ := Aside0.mk (KeepBut.blk hk (g' := gb203) (o := .cells #[.int .i64 0, .int .i64 0, .int .i64 0, .int .i64 0, .int .i64 0, .int .i64 0] 23 (0, 0)) (by (with_reducible repeat (first | refine blk_drewN ?_ _ | refine blk_drew ?_ | refine blk_alloc ?_ _)); exact BK203.out) NB203_0.out (by simp)); have n1_ := Aside0.mk (KeepBut.blk hk (g' := gb210) (o := .cells #[.int .i64 x211000_6, .int .i64 x211001_6, .int .i64 t206, .int .i64 t208, .int .i64 x211004_6, .int .i64 x211005_6] 23 (0, 0)) (by (with_reducible repeat (first | refine blk_drewN ?_ _ | refine blk_drew ?_ | refine blk_alloc ?_ _)); exact BK210.out) NB210_0.out (by simp)); have n2_ := Aside0.mk (KeepBut.trans (by repeat (first | (with_reducible first | exact HK.out | apply KeepBut.set_ | apply keep_drewN | apply keep_drew | apply keep_alloc | refine keep_far ?_ GW203.out _ | refine keep_far ?_ GW210.out _) | exact HK.out)) hk (.inl rfl)); have n3_ := Aside0.mk (hb); have n4_ := Aside0.mk (hi); clear BK203; clear BK210; clear HK; clear HB; clear HI0; have BK203 := n0_; have BK210 := n1_; have HK := n2_; have HB := n3_; have HI0 := n4_; clear n0_ n1_ n2_ n3_ n4_; (try clear hb); (try clear hb2); (try clear hk); (try clear hi)) | ((with_reducible refine gate_dst (N := 48) rfl ?_); refine Kd.R_lit (Kd.int .i64) _ 3 ?hg (N := 48) ?hd (xs := ([0, 40, 41, (-1)] : List Int)) (inner := [.int .i64 0, .int .i64 40, .int .i64 41, .int .i64 (-1)]) (ok := fun _ => True) (okp := fun _ => True) ?hr ?hp (fun _ hk => hk) trivial (Below.refl _ _) (Nat.le_refl _) (by simp) ?_; (case hd => rfl); (case hg => rfl); (case hr => first | (go_simp; done) | (go_simp; rfl)); (case hp => exact (Reps.one (show Kd.M (Kd.int .i64) _ _ _ 0 [.int .i64 0] from rfl) (Reps.one (show Kd.M (Kd.int .i64) _ _ _ 40 [.int .i64 40] from rfl) (Reps.one (show Kd.M (Kd.int .i64) _ _ _ 41 [.int .i64 41] from rfl) (Reps.one (show Kd.M (Kd.int .i64) _ _ _ (-1) [.int .i64 (-1)] from rfl) (Reps.none _ _)))))); intro v226 w46 ho47 hb hg_ hnew_; clear hg_ hnew_; (first | rw [← Ny225.out] at ho47 | (simp only [Int.reduceToNat] at ho47; rw [← Ny225.out] at ho47)); have n0_ := Aside0.mk (Kd.R_lower ho47 (keep_size (w := w) (g := g) (row := none) (by repeat (first | (with_reducible first | exact HK.out | apply KeepBut.set_ | apply keep_drewN | apply keep_drew | apply keep_alloc | refine keep_far ?_ GW203.out _ | refine keep_far ?_ GW210.out _) | exact HK.out)))); have n1_ := Aside0.mk (blk_below (g := gb203) (o := .cells #[.int .i64 0, .int .i64 0, .int .i64 0, .int .i64 0, .int .i64 0, .int .i64 0] 23 (0, 0)) (by (with_reducible repeat (first | refine blk_drewN ?_ _ | refine blk_drew ?_ | refine blk_alloc ?_ _)); exact BK203.out) hb); have n2_ := Aside0.mk (blk_below (g := gb210) (o := .cells #[.int .i64 x211000_6, .int .i64 x211001_6, .int .i64 t206, .int .i64 t208, .int .i64 x211004_6, .int .i64 x211005_6] 23 (0, 0)) (by (with_reducible repeat (first | refine blk_drewN ?_ _ | refine blk_drew ?_ | refine blk_alloc ?_ _)); exact BK210.out) hb); have n3_ := Aside0.mk (IsS54.below (by repeat (first | (with_reducible first | exact HI0.out | apply IsS54.alloc | apply IsS54.drewN | apply IsS54.drew | apply IsS54.set_1 | refine IsS54.far ?_ NB0_203.out _ | refine IsS54.far ?_ NB0_210.out _) | exact HI0.out)) hb); have n4_ := Aside0.mk (KeepBut.trans (by repeat (first | (with_reducible first | exact HK.out | apply KeepBut.set_ | apply keep_drewN | apply keep_drew | apply keep_alloc | refine keep_far ?_ GW203.out _ | refine keep_far ?_ GW210.out _) | exact HK.out)) (KeepBut.of_below hb g none) (.inl rfl)); have n5_ := Aside0.mk (below_step (by repeat (first | (with_reducible first | exact HB.out | apply below_alloc | apply pw_below_drewN | apply below_drew1 | refine below_set ?_ (IsS54.ge HI0.out) | refine below_set ?_ GE203.out | refine below_set ?_ GE210.out) | exact HB.out)) hb); clear BK203; clear BK210; clear HI0; clear HK; clear HB; have HO227 := n0_; have BK203 := n1_; have BK210 := n2_; have HI0 := n3_; have HK := n4_; have HB := n5_; clear n0_ n1_ n2_ n3_ n4_ n5_; clear hb ho47; obtain ⟨Ao48, co48, eo48⟩ := Kd.R_slice HO227.out; subst eo48) | ((with_reducible refine gate_callee (f := 40) rfl ?_); refine goesL_ (some 49) rfl rfl Try.func40 (by kernel_rfl) rfl #[.pointer (some ⟨g, 0, none⟩), .slice Ao48 y225.length co48] rfl (by (try simp only [List.map_toArray, List.map_cons, List.map_nil]); first | done | rfl | (simp only [List.length_drop, List.length_take]; rfl)) ?_; (with_reducible refine (awardingbodymake_Tape_Pick.calls g s0_0 t222 _ _ y225 t228 t229 w0 _ ?side1 ?side2 ?side3 ?side4 ?side5 A44.out).mono ?_); (case side1 => repeat (first | (with_reducible first | exact HI0.out | apply IsS54.alloc | apply IsS54.drewN | apply IsS54.drew | apply IsS54.set_1 | refine IsS54.far ?_ NB0_203.out _ | refine IsS54.far ?_ NB0_210.out _) | exact HI0.out)); (case side2 => repeat (first | (with_reducible first | exact HB.out | apply below_alloc | apply pw_below_drewN | apply below_drew1 | refine below_set ?_ (IsS54.ge HI0.out) | refine below_set ?_ GE203.out | refine below_set ?_ GE210.out) | exact HB.out)); (case side3 => repeat (first | exact (Kd.R_reads' HO227.out).2.2 | (with_reducible refine Kd.C_alloc ?_ _) | (with_reducible refine Kd.C_drewN ?_ _) | (with_reducible refine Kd.C_drew ?_))); (case side4 => exact (Kd.R_reads' HO227.out).2.1); (case side5 => exact far_slice (IsS54.own_ne HI0.out HO227.out (by decide))); rintro e w49 ⟨rfl, hi, hb, hk⟩; refine ⟨_, rfl, ?_⟩; have n0_ := Aside0.mk (KeepBut.blk hk (g' := gb203) (o := .cells #[.int .i64 0, .int .i64 0, .int .i64 0, .int .i64 0, .int .i64 0, .int .i64 0] 23 (0, 0)) (by (with_reducible repeat (first | refine blk_drewN ?_ _ | refine blk_drew ?_ | refine blk_alloc ?_ _)); exact BK203.out) NB203_0.out (by simp)); have n1_ := Aside0.mk (KeepBut.blk hk (g' := gb210) (o := .cells #[.int .i64 x211000_6, .int .i64 x211001_6, .int .i64 t206, .int .i64 t208, .int .i64 x211004_6, .int .i64 x211005_6] 23 (0, 0)) (by (with_reducible repeat (first | refine blk_drewN ?_ _ | refine blk_drew ?_ | refine blk_alloc ?_ _)); exact BK210.out) NB210_0.out (by simp)); have n2_ := Aside0.mk (Kd.R_mono (Kd.R_keep (IsS54.apart (show IsS54 w0 _ g s0_0 t222 from by repeat (first | (with_reducible first | exact HI0.out | apply IsS54.alloc | apply IsS54.drewN | apply IsS54.drew | apply IsS54.set_1 | refine IsS54.far ?_ NB0_203.out _ | refine IsS54.far ?_ NB0_210.out _) | exact HI0.out)) (by (with_reducible repeat (first | apply Kd.R_alloc | apply Kd.R_drewN | apply Kd.R_drew)); exact HO227.out) (by decide)) hk (fun _ h => h.2)) (fun _ h => h.1)); have n3_ := Aside0.mk (KeepBut.trans (by repeat (first | (with_reducible first | exact HK.out | apply KeepBut.set_ | apply keep_drewN | apply keep_drew | apply keep_alloc | refine keep_far ?_ GW203.out _ | refine keep_far ?_ GW210.out _) | exact HK.out)) hk (.inl rfl)); have n4_ := Aside0.mk (hb); have n5_ := Aside0.mk (hi); clear BK203; clear BK210; clear HO227; clear HK; clear HB; clear HI0; have BK203 := n0_; have BK210 := n1_; have HO227 := n2_; have HK := n3_; have HB := n4_; have HI0 := n5_; clear n0_ n1_ n2_ n3_ n4_ n5_; (try clear hb); (try clear hb2); (try clear hk); (try clear hi); have hnb50 := NB210_203.out; have hnc50 := NB203_210.out; have hnb51 := NB210_0.out; have hnc51 := NB0_210.out; have hcz52_0 : w49.cell? ⟨gb210, 0, none⟩ = some (.int .i64 x211000_6) := (blk_cell BK210.out 0).trans rfl; have hcz52_1 : w49.cell? ⟨gb210, 1, none⟩ = some (.int .i64 x211001_6) := (blk_cell BK210.out 1).trans rfl; have hcz52_2 : w49.cell? ⟨gb210, 2, none⟩ = some (.int .i64 t206) := (blk_cell BK210.out 2).trans rfl; have hcz52_3 : w49.cell? ⟨gb210, 3, none⟩ = some (.int .i64 t208) := (blk_cell BK210.out 3).trans rfl; have hcz52_4 : w49.cell? ⟨gb210, 4, none⟩ = some (.int .i64 x211004_6) := (blk_cell BK210.out 4).trans rfl; have hcz52_5 : w49.cell? ⟨gb210, 5, none⟩ = some (.int .i64 x211005_6) := (blk_cell BK210.out 5).trans rfl; have hfz52_0 := blk_frozen BK210.out 0; have hfz52_1 := blk_frozen BK210.out 1; have hfz52_2 := blk_frozen BK210.out 2; have hfz52_3 := blk_frozen BK210.out 3; have hfz52_4 := blk_frozen BK210.out 4; have hfz52_5 := blk_frozen BK210.out 5; have hnb53 := NB203_0.out; have hnc53 := NB0_203.out; have hcz54_0 : w49.cell? ⟨gb203, 0, none⟩ = some (.int .i64 0) := (blk_cell BK203.out 0).trans rfl; have hcz54_1 : w49.cell? ⟨gb203, 1, none⟩ = some (.int .i64 0) := (blk_cell BK203.out 1).trans rfl; have hcz54_2 : w49.cell? ⟨gb203, 2, none⟩ = some (.int .i64 0) := (blk_cell BK203.out 2).trans rfl; have hcz54_3 : w49.cell? ⟨gb203, 3, none⟩ = some (.int .i64 0) := (blk_cell BK203.out 3).trans rfl; have hcz54_4 : w49.cell? ⟨gb203, 4, none⟩ = some (.int .i64 0) := (blk_cell BK203.out 4).trans rfl; have hcz54_5 : w49.cell? ⟨gb203, 5, none⟩ = some (.int .i64 0) := (blk_cell BK203.out 5).trans rfl; have hfz54_0 := blk_frozen BK203.out 0; have hfz54_1 := blk_frozen BK203.out 1; have hfz54_2 := blk_frozen BK203.out 2; have hfz54_3 := blk_frozen BK203.out 3; have hfz54_4 := blk_frozen BK203.out 4; have hfz54_5 := blk_frozen BK203.out 5))
        refine bodyPost_ret (results_cell_row rfl _ _ gb203 23 #[.int .i64 x211000_6, .int .i64 t228, .int .i64 t206, .int .i64 t208, .int .i64 x211004_6, .int .i64 x211005_6] (0, 0) _ rfl (by (with_reducible repeat (first | refine blk_drewN ?_ _ | refine blk_drew ?_ | refine blk_alloc ?_ _)); refine blk_put (cs := #[.int .i64 x211000_6, .int .i64 t228, .int .i64 t206, .int .i64 t208, .int .i64 x211004_6, .int .i64 0]) ?_ 5 _ rfl; (with_reducible repeat (first | refine blk_drewN ?_ _ | refine blk_drew ?_ | refine blk_alloc ?_ _)); refine blk_put (cs := #[.int .i64 x211000_6, .int .i64 t228, .int .i64 t206, .int .i64 t208, .int .i64 0, .int .i64 0]) ?_ 4 _ rfl; (with_reducible repeat (first | refine blk_drewN ?_ _ | refine blk_drew ?_ | refine blk_alloc ?_ _)); refine blk_put (cs := #[.int .i64 x211000_6, .int .i64 t228, .int .i64 t206, .int .i64 0, .int .i64 0, .int .i64 0]) ?_ 3 _ rfl; (with_reducible repeat (first | refine blk_drewN ?_ _ | refine blk_drew ?_ | refine blk_alloc ?_ _)); refine blk_put (cs := #[.int .i64 x211000_6, .int .i64 t228, .int .i64 0, .int .i64 0, .int .i64 0, .int .i64 0]) ?_ 2 _ rfl; (with_reducible repeat (first | refine blk_drewN ?_ _ | refine blk_drew ?_ | refine blk_alloc ?_ _)); refine blk_put (cs := #[.int .i64 x211000_6, .int .i64 0, .int .i64 0, .int .i64 0, .int .i64 0, .int .i64 0]) ?_ 1 _ rfl; (with_reducible repeat (first | refine blk_drewN ?_ _ | refine blk_drew ?_ | refine blk_alloc ?_ _)); refine blk_put (cs := #[.int .i64 0, .int .i64 0, .int .i64 0, .int .i64 0, .int .i64 0, .int .i64 0]) ?_ 0 _ rfl; (with_reducible repeat (first | refine blk_drewN ?_ _ | refine blk_drew ?_ | refine blk_alloc ?_ _)); refine blk_far ?_ NB203_210.out _; (with_reducible repeat (first | refine blk_drewN ?_ _ | refine blk_drew ?_ | refine blk_alloc ?_ _)); exact BK203.out) Try.underlying23 rfl (by kernel_rfl)) rfl ?_
        exact ⟨by first | rfl | (simp [errW_none, errW_some] <;> rfl) | (simp [*, errW_none, errW_some] <;> rfl), by repeat (first | (with_reducible first | exact HI0.out | apply IsS54.alloc | apply IsS54.drewN | apply IsS54.drew | apply IsS54.set_1 | refine IsS54.far ?_ NB0_203.out _ | refine IsS54.far ?_ NB0_210.out _) | exact HI0.out), by repeat (first | (with_reducible first | exact HB.out | apply below_alloc | apply pw_below_drewN | apply below_drew1 | refine below_set ?_ (IsS54.ge HI0.out) | refine below_set ?_ GE203.out | refine below_set ?_ GE210.out) | exact HB.out), by repeat (first | (with_reducible first | exact HK.out | apply KeepBut.set_ | apply keep_drewN | apply keep_drew | apply keep_alloc | refine keep_far ?_ GW203.out _ | refine keep_far ?_ GW210.out _) | exact HK.out)⟩
       ·rw [if_neg c43] at H
        have c43b0 : (t221 == 1) = false := beq_eq_false_iff_ne.mpr c43
        have c43b1 : (t221 != 1) = true := bne_iff_ne.mpr c43
        by_cases c55 : t221 = 2
        ·rw [if_pos c55] at H
         have c55b0 : (t221 == 2) = true := beq_iff_eq.mpr c55
         have c55b1 : (t221 != 2) = false := bne_eq_false_iff_eq.mpr c55
         clear c55
         replace H := Option.bind_eq_some_iff.mp H
         obtain ⟨⟨t230, t231⟩, A560, H⟩ := H
         replace H : (some (x211000_6, x211001_6, t230, t208, x211004_6, x211005_6, t231)) = some (r1, r2, r3, r4, r5, r6, r7) := H
         have A56 := Aside0.mk A560
         clear A560
         simp only [Option.some.injEq, Prod.mk.injEq] at H
         obtain ⟨rfl, rfl, rfl, rfl, rfl, rfl, rfl⟩ := H
         go_wp2_with (first | ((with_reducible refine gate_callee (f := 17) rfl ?_); refine goesL_ (some 36) rfl rfl Try.func17 (by kernel_rfl) rfl #[.pointer (some ⟨g, 0, none⟩), .int .i64 6] rfl (by (try simp only [List.map_toArray, List.map_cons, List.map_nil]); first | done | rfl | (simp only [List.length_drop, List.length_take]; rfl)) ?_; (with_reducible refine (awardingbodymake_Tape_Next.calls g s0_0 x1001_27 6 t221 t222 w0 _ ?side1 ?side2 A33.out).mono ?_); (case side1 => repeat (first | (with_reducible first | exact HI0.out | apply IsS54.alloc | apply IsS54.drewN | apply IsS54.drew | apply IsS54.set_1 | refine IsS54.far ?_ NB0_203.out _ | refine IsS54.far ?_ NB0_210.out _) | exact HI0.out)); (case side2 => repeat (first | (with_reducible first | exact HB.out | apply below_alloc | apply pw_below_drewN | apply below_drew1 | refine below_set ?_ (IsS54.ge HI0.out) | refine below_set ?_ GE203.out | refine below_set ?_ GE210.out) | exact HB.out)); rintro e w57 ⟨rfl, hi, hb, hk⟩; refine ⟨_, rfl, ?_⟩; have n0_ := Aside0.mk (KeepBut.blk hk (g' := gb203) (o := .cells #[.int .i64 0, .int .i64 0, .int .i64 0, .int .i64 0, .int .i64 0, .int .i64 0] 23 (0, 0)) (by (with_reducible repeat (first | refine blk_drewN ?_ _ | refine blk_drew ?_ | refine blk_alloc ?_ _)); exact BK203.out) NB203_0.out (by simp)); have n1_ := Aside0.mk (KeepBut.blk hk (g' := gb210) (o := .cells #[.int .i64 x211000_6, .int .i64 x211001_6, .int .i64 t206, .int .i64 t208, .int .i64 x211004_6, .int .i64 x211005_6] 23 (0, 0)) (by (with_reducible repeat (first | refine blk_drewN ?_ _ | refine blk_drew ?_ | refine blk_alloc ?_ _)); exact BK210.out) NB210_0.out (by simp)); have n2_ := Aside0.mk (KeepBut.trans (by repeat (first | (with_reducible first | exact HK.out | apply KeepBut.set_ | apply keep_drewN | apply keep_drew | apply keep_alloc | refine keep_far ?_ GW203.out _ | refine keep_far ?_ GW210.out _) | exact HK.out)) hk (.inl rfl)); have n3_ := Aside0.mk (hb); have n4_ := Aside0.mk (hi); clear BK203; clear BK210; clear HK; clear HB; clear HI0; have BK203 := n0_; have BK210 := n1_; have HK := n2_; have HB := n3_; have HI0 := n4_; clear n0_ n1_ n2_ n3_ n4_; (try clear hb); (try clear hb2); (try clear hk); (try clear hi)) | ((with_reducible refine gate_callee (f := 39) rfl ?_); refine goesL_ (some 54) rfl rfl Try.func39 (by kernel_rfl) rfl #[.pointer (some ⟨g, 0, none⟩)] rfl (by (try simp only [List.map_toArray, List.map_cons, List.map_nil]); first | done | rfl | (simp only [List.length_drop, List.length_take]; rfl)) ?_; (with_reducible refine (awardingbodymake_Tape_Wild.calls g s0_0 t222 t230 t231 w0 _ ?side1 ?side2 A56.out).mono ?_); (case side1 => repeat (first | (with_reducible first | exact HI0.out | apply IsS54.alloc | apply IsS54.drewN | apply IsS54.drew | apply IsS54.set_1 | refine IsS54.far ?_ NB0_203.out _ | refine IsS54.far ?_ NB0_210.out _) | exact HI0.out)); (case side2 => repeat (first | (with_reducible first | exact HB.out | apply below_alloc | apply pw_below_drewN | apply below_drew1 | refine below_set ?_ (IsS54.ge HI0.out) | refine below_set ?_ GE203.out | refine below_set ?_ GE210.out) | exact HB.out)); rintro e w58 ⟨rfl, hi, hb, hk⟩; refine ⟨_, rfl, ?_⟩; have n0_ := Aside0.mk (KeepBut.blk hk (g' := gb203) (o := .cells #[.int .i64 0, .int .i64 0, .int .i64 0, .int .i64 0, .int .i64 0, .int .i64 0] 23 (0, 0)) (by (with_reducible repeat (first | refine blk_drewN ?_ _ | refine blk_drew ?_ | refine blk_alloc ?_ _)); exact BK203.out) NB203_0.out (by simp)); have n1_ := Aside0.mk (KeepBut.blk hk (g' := gb210) (o := .cells #[.int .i64 x211000_6, .int .i64 x211001_6, .int .i64 t206, .int .i64 t208, .int .i64 x211004_6, .int .i64 x211005_6] 23 (0, 0)) (by (with_reducible repeat (first | refine blk_drewN ?_ _ | refine blk_drew ?_ | refine blk_alloc ?_ _)); exact BK210.out) NB210_0.out (by simp)); have n2_ := Aside0.mk (KeepBut.trans (by repeat (first | (with_reducible first | exact HK.out | apply KeepBut.set_ | apply keep_drewN | apply keep_drew | apply keep_alloc | refine keep_far ?_ GW203.out _ | refine keep_far ?_ GW210.out _) | exact HK.out)) hk (.inl rfl)); have n3_ := Aside0.mk (hb); have n4_ := Aside0.mk (hi); clear BK203; clear BK210; clear HK; clear HB; clear HI0; have BK203 := n0_; have BK210 := n1_; have HK := n2_; have HB := n3_; have HI0 := n4_; clear n0_ n1_ n2_ n3_ n4_; (try clear hb); (try clear hb2); (try clear hk); (try clear hi); have hnb59 := NB210_203.out; have hnc59 := NB203_210.out; have hnb60 := NB210_0.out; have hnc60 := NB0_210.out; have hcz61_0 : w58.cell? ⟨gb210, 0, none⟩ = some (.int .i64 x211000_6) := (blk_cell BK210.out 0).trans rfl; have hcz61_1 : w58.cell? ⟨gb210, 1, none⟩ = some (.int .i64 x211001_6) := (blk_cell BK210.out 1).trans rfl; have hcz61_2 : w58.cell? ⟨gb210, 2, none⟩ = some (.int .i64 t206) := (blk_cell BK210.out 2).trans rfl; have hcz61_3 : w58.cell? ⟨gb210, 3, none⟩ = some (.int .i64 t208) := (blk_cell BK210.out 3).trans rfl; have hcz61_4 : w58.cell? ⟨gb210, 4, none⟩ = some (.int .i64 x211004_6) := (blk_cell BK210.out 4).trans rfl; have hcz61_5 : w58.cell? ⟨gb210, 5, none⟩ = some (.int .i64 x211005_6) := (blk_cell BK210.out 5).trans rfl; have hfz61_0 := blk_frozen BK210.out 0; have hfz61_1 := blk_frozen BK210.out 1; have hfz61_2 := blk_frozen BK210.out 2; have hfz61_3 := blk_frozen BK210.out 3; have hfz61_4 := blk_frozen BK210.out 4; have hfz61_5 := blk_frozen BK210.out 5; have hnb62 := NB203_0.out; have hnc62 := NB0_203.out; have hcz63_0 : w58.cell? ⟨gb203, 0, none⟩ = some (.int .i64 0) := (blk_cell BK203.out 0).trans rfl; have hcz63_1 : w58.cell? ⟨gb203, 1, none⟩ = some (.int .i64 0) := (blk_cell BK203.out 1).trans rfl; have hcz63_2 : w58.cell? ⟨gb203, 2, none⟩ = some (.int .i64 0) := (blk_cell BK203.out 2).trans rfl; have hcz63_3 : w58.cell? ⟨gb203, 3, none⟩ = some (.int .i64 0) := (blk_cell BK203.out 3).trans rfl; have hcz63_4 : w58.cell? ⟨gb203, 4, none⟩ = some (.int .i64 0) := (blk_cell BK203.out 4).trans rfl; have hcz63_5 : w58.cell? ⟨gb203, 5, none⟩ = some (.int .i64 0) := (blk_cell BK203.out 5).trans rfl; have hfz63_0 := blk_frozen BK203.out 0; have hfz63_1 := blk_frozen BK203.out 1; have hfz63_2 := blk_frozen BK203.out 2; have hfz63_3 := blk_frozen BK203.out 3; have hfz63_4 := blk_frozen BK203.out 4; have hfz63_5 := blk_frozen BK203.out 5))
         refine bodyPost_ret (results_cell_row rfl _ _ gb203 23 #[.int .i64 x211000_6, .int .i64 x211001_6, .int .i64 t230, .int .i64 t208, .int .i64 x211004_6, .int .i64 x211005_6] (0, 0) _ rfl (by (with_reducible repeat (first | refine blk_drewN ?_ _ | refine blk_drew ?_ | refine blk_alloc ?_ _)); refine blk_put (cs := #[.int .i64 x211000_6, .int .i64 x211001_6, .int .i64 t230, .int .i64 t208, .int .i64 x211004_6, .int .i64 0]) ?_ 5 _ rfl; (with_reducible repeat (first | refine blk_drewN ?_ _ | refine blk_drew ?_ | refine blk_alloc ?_ _)); refine blk_put (cs := #[.int .i64 x211000_6, .int .i64 x211001_6, .int .i64 t230, .int .i64 t208, .int .i64 0, .int .i64 0]) ?_ 4 _ rfl; (with_reducible repeat (first | refine blk_drewN ?_ _ | refine blk_drew ?_ | refine blk_alloc ?_ _)); refine blk_put (cs := #[.int .i64 x211000_6, .int .i64 x211001_6, .int .i64 t230, .int .i64 0, .int .i64 0, .int .i64 0]) ?_ 3 _ rfl; (with_reducible repeat (first | refine blk_drewN ?_ _ | refine blk_drew ?_ | refine blk_alloc ?_ _)); refine blk_put (cs := #[.int .i64 x211000_6, .int .i64 x211001_6, .int .i64 0, .int .i64 0, .int .i64 0, .int .i64 0]) ?_ 2 _ rfl; (with_reducible repeat (first | refine blk_drewN ?_ _ | refine blk_drew ?_ | refine blk_alloc ?_ _)); refine blk_put (cs := #[.int .i64 x211000_6, .int .i64 0, .int .i64 0, .int .i64 0, .int .i64 0, .int .i64 0]) ?_ 1 _ rfl; (with_reducible repeat (first | refine blk_drewN ?_ _ | refine blk_drew ?_ | refine blk_alloc ?_ _)); refine blk_put (cs := #[.int .i64 0, .int .i64 0, .int .i64 0, .int .i64 0, .int .i64 0, .int .i64 0]) ?_ 0 _ rfl; (with_reducible repeat (first | refine blk_drewN ?_ _ | refine blk_drew ?_ | refine blk_alloc ?_ _)); refine blk_far ?_ NB203_210.out _; (with_reducible repeat (first | refine blk_drewN ?_ _ | refine blk_drew ?_ | refine blk_alloc ?_ _)); exact BK203.out) Try.underlying23 rfl (by kernel_rfl)) rfl ?_
         exact ⟨by first | rfl | (simp [errW_none, errW_some] <;> rfl) | (simp [*, errW_none, errW_some] <;> rfl), by repeat (first | (with_reducible first | exact HI0.out | apply IsS54.alloc | apply IsS54.drewN | apply IsS54.drew | apply IsS54.set_1 | refine IsS54.far ?_ NB0_203.out _ | refine IsS54.far ?_ NB0_210.out _) | exact HI0.out), by repeat (first | (with_reducible first | exact HB.out | apply below_alloc | apply pw_below_drewN | apply below_drew1 | refine below_set ?_ (IsS54.ge HI0.out) | refine below_set ?_ GE203.out | refine below_set ?_ GE210.out) | exact HB.out), by repeat (first | (with_reducible first | exact HK.out | apply KeepBut.set_ | apply keep_drewN | apply keep_drew | apply keep_alloc | refine keep_far ?_ GW203.out _ | refine keep_far ?_ GW210.out _) | exact HK.out)⟩
        ·rw [if_neg c55] at H
         have c55b0 : (t221 == 2) = false := beq_eq_false_iff_ne.mpr c55
         have c55b1 : (t221 != 2) = true := bne_iff_ne.mpr c55
         by_cases c64 : t221 = 3
         ·rw [if_pos c64] at H
          have c64b0 : (t221 == 3) = true := beq_iff_eq.mpr c64
          have c64b1 : (t221 != 3) = false := bne_eq_false_iff_eq.mpr c64
          clear c64
          replace H := Option.bind_eq_some_iff.mp H
          obtain ⟨⟨t232, t233⟩, A650, H⟩ := H
          replace H : (some (x211000_6, x211001_6, t206, t232, x211004_6, x211005_6, t233)) = some (r1, r2, r3, r4, r5, r6, r7) := H
          have A65 := Aside0.mk A650
          clear A650
          simp only [Option.some.injEq, Prod.mk.injEq] at H
          obtain ⟨rfl, rfl, rfl, rfl, rfl, rfl, rfl⟩ := H
          go_wp2_with (first | ((with_reducible refine gate_callee (f := 17) rfl ?_); refine goesL_ (some 36) rfl rfl Try.func17 (by kernel_rfl) rfl #[.pointer (some ⟨g, 0, none⟩), .int .i64 6] rfl (by (try simp only [List.map_toArray, List.map_cons, List.map_nil]); first | done | rfl | (simp only [List.length_drop, List.length_take]; rfl)) ?_; (with_reducible refine (awardingbodymake_Tape_Next.calls g s0_0 x1001_27 6 t221 t222 w0 _ ?side1 ?side2 A33.out).mono ?_); (case side1 => repeat (first | (with_reducible first | exact HI0.out | apply IsS54.alloc | apply IsS54.drewN | apply IsS54.drew | apply IsS54.set_1 | refine IsS54.far ?_ NB0_203.out _ | refine IsS54.far ?_ NB0_210.out _) | exact HI0.out)); (case side2 => repeat (first | (with_reducible first | exact HB.out | apply below_alloc | apply pw_below_drewN | apply below_drew1 | refine below_set ?_ (IsS54.ge HI0.out) | refine below_set ?_ GE203.out | refine below_set ?_ GE210.out) | exact HB.out)); rintro e w66 ⟨rfl, hi, hb, hk⟩; refine ⟨_, rfl, ?_⟩; have n0_ := Aside0.mk (KeepBut.blk hk (g' := gb203) (o := .cells #[.int .i64 0, .int .i64 0, .int .i64 0, .int .i64 0, .int .i64 0, .int .i64 0] 23 (0, 0)) (by (with_reducible repeat (first | refine blk_drewN ?_ _ | refine blk_drew ?_ | refine blk_alloc ?_ _)); exact BK203.out) NB203_0.out (by simp)); have n1_ := Aside0.mk (KeepBut.blk hk (g' := gb210) (o := .cells #[.int .i64 x211000_6, .int .i64 x211001_6, .int .i64 t206, .int .i64 t208, .int .i64 x211004_6, .int .i64 x211005_6] 23 (0, 0)) (by (with_reducible repeat (first | refine blk_drewN ?_ _ | refine blk_drew ?_ | refine blk_alloc ?_ _)); exact BK210.out) NB210_0.out (by simp)); have n2_ := Aside0.mk (KeepBut.trans (by repeat (first | (with_reducible first | exact HK.out | apply KeepBut.set_ | apply keep_drewN | apply keep_drew | apply keep_alloc | refine keep_far ?_ GW203.out _ | refine keep_far ?_ GW210.out _) | exact HK.out)) hk (.inl rfl)); have n3_ := Aside0.mk (hb); have n4_ := Aside0.mk (hi); clear BK203; clear BK210; clear HK; clear HB; clear HI0; have BK203 := n0_; have BK210 := n1_; have HK := n2_; have HB := n3_; have HI0 := n4_; clear n0_ n1_ n2_ n3_ n4_; (try clear hb); (try clear hb2); (try clear hk); (try clear hi)) | ((with_reducible refine gate_callee (f := 39) rfl ?_); refine goesL_ (some 59) rfl rfl Try.func39 (by kernel_rfl) rfl #[.pointer (some ⟨g, 0, none⟩)] rfl (by (try simp only [List.map_toArray, List.map_cons, List.map_nil]); first | done | rfl | (simp only [List.length_drop, List.length_take]; rfl)) ?_; (with_reducible refine (awardingbodymake_Tape_Wild.calls g s0_0 t222 t232 t233 w0 _ ?side1 ?side2 A65.out).mono ?_); (case side1 => repeat (first | (with_reducible first | exact HI0.out | apply IsS54.alloc | apply IsS54.drewN | apply IsS54.drew | apply IsS54.set_1 | refine IsS54.far ?_ NB0_203.out _ | refine IsS54.far ?_ NB0_210.out _) | exact HI0.out)); (case side2 => repeat (first | (with_reducible first | exact HB.out | apply below_alloc | apply pw_below_drewN | apply below_drew1 | refine below_set ?_ (IsS54.ge HI0.out) | refine below_set ?_ GE203.out | refine below_set ?_ GE210.out) | exact HB.out)); rintro e w67 ⟨rfl, hi, hb, hk⟩; refine ⟨_, rfl, ?_⟩; have n0_ := Aside0.mk (KeepBut.blk hk (g' := gb203) (o := .cells #[.int .i64 0, .int .i64 0, .int .i64 0, .int .i64 0, .int .i64 0, .int .i64 0] 23 (0, 0)) (by (with_reducible repeat (first | refine blk_drewN ?_ _ | refine blk_drew ?_ | refine blk_alloc ?_ _)); exact BK203.out) NB203_0.out (by simp)); have n1_ := Aside0.mk (KeepBut.blk hk (g' := gb210) (o := .cells #[.int .i64 x211000_6, .int .i64 x211001_6, .int .i64 t206, .int .i64 t208, .int .i64 x211004_6, .int .i64 x211005_6] 23 (0, 0)) (by (with_reducible repeat (first | refine blk_drewN ?_ _ | refine blk_drew ?_ | refine blk_alloc ?_ _)); exact BK210.out) NB210_0.out (by simp)); have n2_ := Aside0.mk (KeepBut.trans (by repeat (first | (with_reducible first | exact HK.out | apply KeepBut.set_ | apply keep_drewN | apply keep_drew | apply keep_alloc | refine keep_far ?_ GW203.out _ | refine keep_far ?_ GW210.out _) | exact HK.out)) hk (.inl rfl)); have n3_ := Aside0.mk (hb); have n4_ := Aside0.mk (hi); clear BK203; clear BK210; clear HK; clear HB; clear HI0; have BK203 := n0_; have BK210 := n1_; have HK := n2_; have HB := n3_; have HI0 := n4_; clear n0_ n1_ n2_ n3_ n4_; (try clear hb); (try clear hb2); (try clear hk); (try clear hi); have hnb68 := NB210_203.out; have hnc68 := NB203_210.out; have hnb69 := NB210_0.out; have hnc69 := NB0_210.out; have hcz70_0 : w67.cell? ⟨gb210, 0, none⟩ = some (.int .i64 x211000_6) := (blk_cell BK210.out 0).trans rfl; have hcz70_1 : w67.cell? ⟨gb210, 1, none⟩ = some (.int .i64 x211001_6) := (blk_cell BK210.out 1).trans rfl; have hcz70_2 : w67.cell? ⟨gb210, 2, none⟩ = some (.int .i64 t206) := (blk_cell BK210.out 2).trans rfl; have hcz70_3 : w67.cell? ⟨gb210, 3, none⟩ = some (.int .i64 t208) := (blk_cell BK210.out 3).trans rfl; have hcz70_4 : w67.cell? ⟨gb210, 4, none⟩ = some (.int .i64 x211004_6) := (blk_cell BK210.out 4).trans rfl; have hcz70_5 : w67.cell? ⟨gb210, 5, none⟩ = some (.int .i64 x211005_6) := (blk_cell BK210.out 5).trans rfl; have hfz70_0 := blk_frozen BK210.out 0; have hfz70_1 := blk_frozen BK210.out 1; have hfz70_2 := blk_frozen BK210.out 2; have hfz70_3 := blk_frozen BK210.out 3; have hfz70_4 := blk_frozen BK210.out 4; have hfz70_5 := blk_frozen BK210.out 5; have hnb71 := NB203_0.out; have hnc71 := NB0_203.out; have hcz72_0 : w67.cell? ⟨gb203, 0, none⟩ = some (.int .i64 0) := (blk_cell BK203.out 0).trans rfl; have hcz72_1 : w67.cell? ⟨gb203, 1, none⟩ = some (.int .i64 0) := (blk_cell BK203.out 1).trans rfl; have hcz72_2 : w67.cell? ⟨gb203, 2, none⟩ = some (.int .i64 0) := (blk_cell BK203.out 2).trans rfl; have hcz72_3 : w67.cell? ⟨gb203, 3, none⟩ = some (.int .i64 0) := (blk_cell BK203.out 3).trans rfl; have hcz72_4 : w67.cell? ⟨gb203, 4, none⟩ = some (.int .i64 0) := (blk_cell BK203.out 4).trans rfl; have hcz72_5 : w67.cell? ⟨gb203, 5, none⟩ = some (.int .i64 0) := (blk_cell BK203.out 5).trans rfl; have hfz72_0 := blk_frozen BK203.out 0; have hfz72_1 := blk_frozen BK203.out 1; have hfz72_2 := blk_frozen BK203.out 2; have hfz72_3 := blk_frozen BK203.out 3; have hfz72_4 := blk_frozen BK203.out 4; have hfz72_5 := blk_frozen BK203.out 5))
          refine bodyPost_ret (results_cell_row rfl _ _ gb203 23 #[.int .i64 x211000_6, .int .i64 x211001_6, .int .i64 t206, .int .i64 t232, .int .i64 x211004_6, .int .i64 x211005_6] (0, 0) _ rfl (by (with_reducible repeat (first | refine blk_drewN ?_ _ | refine blk_drew ?_ | refine blk_alloc ?_ _)); refine blk_put (cs := #[.int .i64 x211000_6, .int .i64 x211001_6, .int .i64 t206, .int .i64 t232, .int .i64 x211004_6, .int .i64 0]) ?_ 5 _ rfl; (with_reducible repeat (first | refine blk_drewN ?_ _ | refine blk_drew ?_ | refine blk_alloc ?_ _)); refine blk_put (cs := #[.int .i64 x211000_6, .int .i64 x211001_6, .int .i64 t206, .int .i64 t232, .int .i64 0, .int .i64 0]) ?_ 4 _ rfl; (with_reducible repeat (first | refine blk_drewN ?_ _ | refine blk_drew ?_ | refine blk_alloc ?_ _)); refine blk_put (cs := #[.int .i64 x211000_6, .int .i64 x211001_6, .int .i64 t206, .int .i64 0, .int .i64 0, .int .i64 0]) ?_ 3 _ rfl; (with_reducible repeat (first | refine blk_drewN ?_ _ | refine blk_drew ?_ | refine blk_alloc ?_ _)); refine blk_put (cs := #[.int .i64 x211000_6, .int .i64 x211001_6, .int .i64 0, .int .i64 0, .int .i64 0, .int .i64 0]) ?_ 2 _ rfl; (with_reducible repeat (first | refine blk_drewN ?_ _ | refine blk_drew ?_ | refine blk_alloc ?_ _)); refine blk_put (cs := #[.int .i64 x211000_6, .int .i64 0, .int .i64 0, .int .i64 0, .int .i64 0, .int .i64 0]) ?_ 1 _ rfl; (with_reducible repeat (first | refine blk_drewN ?_ _ | refine blk_drew ?_ | refine blk_alloc ?_ _)); refine blk_put (cs := #[.int .i64 0, .int .i64 0, .int .i64 0, .int .i64 0, .int .i64 0, .int .i64 0]) ?_ 0 _ rfl; (with_reducible repeat (first | refine blk_drewN ?_ _ | refine blk_drew ?_ | refine blk_alloc ?_ _)); refine blk_far ?_ NB203_210.out _; (with_reducible repeat (first | refine blk_drewN ?_ _ | refine blk_drew ?_ | refine blk_alloc ?_ _)); exact BK203.out) Try.underlying23 rfl (by kernel_rfl)) rfl ?_
          exact ⟨by first | rfl | (simp [errW_none, errW_some] <;> rfl) | (simp [*, errW_none, errW_some] <;> rfl), by repeat (first | (with_reducible first | exact HI0.out | apply IsS54.alloc | apply IsS54.drewN | apply IsS54.drew | apply IsS54.set_1 | refine IsS54.far ?_ NB0_203.out _ | refine IsS54.far ?_ NB0_210.out _) | exact HI0.out), by repeat (first | (with_reducible first | exact HB.out | apply below_alloc | apply pw_below_drewN | apply below_drew1 | refine below_set ?_ (IsS54.ge HI0.out) | refine below_set ?_ GE203.out | refine below_set ?_ GE210.out) | exact HB.out), by repeat (first | (with_reducible first | exact HK.out | apply KeepBut.set_ | apply keep_drewN | apply keep_drew | apply keep_alloc | refine keep_far ?_ GW203.out _ | refine keep_far ?_ GW210.out _) | exact HK.out)⟩
         ·rw [if_neg c64] at H
          have c64b0 : (t221 == 3) = false := beq_eq_false_iff_ne.mpr c64
          have c64b1 : (t221 != 3) = true := bne_iff_ne.mpr c64
          by_cases c73 : t221 = 4
          ·rw [if_pos c73] at H
           have c73b0 : (t221 == 4) = true := beq_iff_eq.mpr c73
           have c73b1 : (t221 != 4) = false := bne_eq_false_iff_eq.mpr c73
           clear c73
           replace H := Option.bind_eq_some_iff.mp H
           obtain ⟨⟨t234, t235⟩, A740, H⟩ := H
           replace H : (some (x211000_6, x211001_6, t206, t208, t234, x211005_6, t235)) = some (r1, r2, r3, r4, r5, r6, r7) := H
           have A74 := Aside0.mk A740
           clear A740
           simp only [Option.some.injEq, Prod.mk.injEq] at H
           obtain ⟨rfl, rfl, rfl, rfl, rfl, rfl, rfl⟩ := H
           go_wp2_with (first | ((with_reducible refine gate_callee (f := 17) rfl ?_); refine goesL_ (some 36) rfl rfl Try.func17 (by kernel_rfl) rfl #[.pointer (some ⟨g, 0, none⟩), .int .i64 6] rfl (by (try simp only [List.map_toArray, List.map_cons, List.map_nil]); first | done | rfl | (simp only [List.length_drop, List.length_take]; rfl)) ?_; (with_reducible refine (awardingbodymake_Tape_Next.calls g s0_0 x1001_27 6 t221 t222 w0 _ ?side1 ?side2 A33.out).mono ?_); (case side1 => repeat (first | (with_reducible first | exact HI0.out | apply IsS54.alloc | apply IsS54.drewN | apply IsS54.drew | apply IsS54.set_1 | refine IsS54.far ?_ NB0_203.out _ | refine IsS54.far ?_ NB0_210.out _) | exact HI0.out)); (case side2 => repeat (first | (with_reducible first | exact HB.out | apply below_alloc | apply pw_below_drewN | apply below_drew1 | refine below_set ?_ (IsS54.ge HI0.out) | refine below_set ?_ GE203.out | refine below_set ?_ GE210.out) | exact HB.out)); rintro e w75 ⟨rfl, hi, hb, hk⟩; refine ⟨_, rfl, ?_⟩; have n0_ := Aside0.mk (KeepBut.blk hk (g' := gb203) (o := .cells #[.int .i64 0, .int .i64 0, .int .i64 0, .int .i64 0, .int .i64 0, .int .i64 0] 23 (0, 0)) (by (with_reducible repeat (first | refine blk_drewN ?_ _ | refine blk_drew ?_ | refine blk_alloc ?_ _)); exact BK203.out) NB203_0.out (by simp)); have n1_ := Aside0.mk (KeepBut.blk hk (g' := gb210) (o := .cells #[.int .i64 x211000_6, .int .i64 x211001_6, .int .i64 t206, .int .i64 t208, .int .i64 x211004_6, .int .i64 x211005_6] 23 (0, 0)) (by (with_reducible repeat (first | refine blk_drewN ?_ _ | refine blk_drew ?_ | refine blk_alloc ?_ _)); exact BK210.out) NB210_0.out (by simp)); have n2_ := Aside0.mk (KeepBut.trans (by repeat (first | (with_reducible first | exact HK.out | apply KeepBut.set_ | apply keep_drewN | apply keep_drew | apply keep_alloc | refine keep_far ?_ GW203.out _ | refine keep_far ?_ GW210.out _) | exact HK.out)) hk (.inl rfl)); have n3_ := Aside0.mk (hb); have n4_ := Aside0.mk (hi); clear BK203; clear BK210; clear HK; clear HB; clear HI0; have BK203 := n0_; have BK210 := n1_; have HK := n2_; have HB := n3_; have HI0 := n4_; clear n0_ n1_ n2_ n3_ n4_; (try clear hb); (try clear hb2); (try clear hk); (try clear hi)) | ((with_reducible refine gate_callee (f := 18) rfl ?_); refine goesL_ (some 64) rfl rfl Try.func18 (by kernel_rfl) rfl #[.pointer (some ⟨g, 0, none⟩), .int .i64 (-1), .int .i64 6] rfl (by (try simp only [List.map_toArray, List.map_cons, List.map_nil]); first | done | rfl | (simp only [List.length_drop, List.length_take]; rfl)) ?_; (with_reducible refine (awardingbodymake_Tape_Range.calls g s0_0 t222 (-1) 6 t234 t235 w0 _ ?side1 ?side2 A74.out).mono ?_); (case side1 => repeat (first | (with_reducible first | exact HI0.out | apply IsS54.alloc | apply IsS54.drewN | apply IsS54.drew | apply IsS54.set_1 | refine IsS54.far ?_ NB0_203.out _ | refine IsS54.far ?_ NB0_210.out _) | exact HI0.out)); (case side2 => repeat (first | (with_reducible first | exact HB.out | apply below_alloc | apply pw_below_drewN | apply below_drew1 | refine below_set ?_ (IsS54.ge HI0.out) | refine below_set ?_ GE203.out | refine below_set ?_ GE210.out) | exact HB.out)); rintro e w76 ⟨rfl, hi, hb, hk⟩; refine ⟨_, rfl, ?_⟩; have n0_ := Aside0.mk (KeepBut.blk hk (g' := gb203) (o := .cells #[.int .i64 0, .int .i64 0, .int .i64 0, .int .i64 0, .int .i64 0, .int .i64 0] 23 (0, 0)) (by (with_reducible repeat (first | refine blk_drewN ?_ _ | refine blk_drew ?_ | refine blk_alloc ?_ _)); exact BK203.out) NB203_0.out (by simp)); have n1_ := Aside0.mk (KeepBut.blk hk (g' := gb210) (o := .cells #[.int .i64 x211000_6, .int .i64 x211001_6, .int .i64 t206, .int .i64 t208, .int .i64 x211004_6, .int .i64 x211005_6] 23 (0, 0)) (by (with_reducible repeat (first | refine blk_drewN ?_ _ | refine blk_drew ?_ | refine blk_alloc ?_ _)); exact BK210.out) NB210_0.out (by simp)); have n2_ := Aside0.mk (KeepBut.trans (by repeat (first | (with_reducible first | exact HK.out | apply KeepBut.set_ | apply keep_drewN | apply keep_drew | apply keep_alloc | refine keep_far ?_ GW203.out _ | refine keep_far ?_ GW210.out _) | exact HK.out)) hk (.inl rfl)); have n3_ := Aside0.mk (hb); have n4_ := Aside0.mk (hi); clear BK203; clear BK210; clear HK; clear HB; clear HI0; have BK203 := n0_; have BK210 := n1_; have HK := n2_; have HB := n3_; have HI0 := n4_; clear n0_ n1_ n2_ n3_ n4_; (try clear hb); (try clear hb2); (try clear hk); (try clear hi); have hnb77 := NB210_203.out; have hnc77 := NB203_210.out; have hnb78 := NB210_0.out; have hnc78 := NB0_210.out; have hcz79_0 : w76.cell? ⟨gb210, 0, none⟩ = some (.int .i64 x211000_6) := (blk_cell BK210.out 0).trans rfl; have hcz79_1 : w76.cell? ⟨gb210, 1, none⟩ = some (.int .i64 x211001_6) := (blk_cell BK210.out 1).trans rfl; have hcz79_2 : w76.cell? ⟨gb210, 2, none⟩ = some (.int .i64 t206) := (blk_cell BK210.out 2).trans rfl; have hcz79_3 : w76.cell? ⟨gb210, 3, none⟩ = some (.int .i64 t208) := (blk_cell BK210.out 3).trans rfl; have hcz79_4 : w76.cell? ⟨gb210, 4, none⟩ = some (.int .i64 x211004_6) := (blk_cell BK210.out 4).trans rfl; have hcz79_5 : w76.cell? ⟨gb210, 5, none⟩ = some (.int .i64 x211005_6) := (blk_cell BK210.out 5).trans rfl; have hfz79_0 := blk_frozen BK210.out 0; have hfz79_1 := blk_frozen BK210.out 1; have hfz79_2 := blk_frozen BK210.out 2; have hfz79_3 := blk_frozen BK210.out 3; have hfz79_4 := blk_frozen BK210.out 4; have hfz79_5 := blk_frozen BK210.out 5; have hnb80 := NB203_0.out; have hnc80 := NB0_203.out; have hcz81_0 : w76.cell? ⟨gb203, 0, none⟩ = some (.int .i64 0) := (blk_cell BK203.out 0).trans rfl; have hcz81_1 : w76.cell? ⟨gb203, 1, none⟩ = some (.int .i64 0) := (blk_cell BK203.out 1).trans rfl; have hcz81_2 : w76.cell? ⟨gb203, 2, none⟩ = some (.int .i64 0) := (blk_cell BK203.out 2).trans rfl; have hcz81_3 : w76.cell? ⟨gb203, 3, none⟩ = some (.int .i64 0) := (blk_cell BK203.out 3).trans rfl; have hcz81_4 : w76.cell? ⟨gb203, 4, none⟩ = some (.int .i64 0) := (blk_cell BK203.out 4).trans rfl; have hcz81_5 : w76.cell? ⟨gb203, 5, none⟩ = some (.int .i64 0) := (blk_cell BK203.out 5).trans rfl; have hfz81_0 := blk_frozen BK203.out 0; have hfz81_1 := blk_frozen BK203.out 1; have hfz81_2 := blk_frozen BK203.out 2; have hfz81_3 := blk_frozen BK203.out 3; have hfz81_4 := blk_frozen BK203.out 4; have hfz81_5 := blk_frozen BK203.out 5))
           refine bodyPost_ret (results_cell_row rfl _ _ gb203 23 #[.int .i64 x211000_6, .int .i64 x211001_6, .int .i64 t206, .int .i64 t208, .int .i64 t234, .int .i64 x211005_6] (0, 0) _ rfl (by (with_reducible repeat (first | refine blk_drewN ?_ _ | refine blk_drew ?_ | refine blk_alloc ?_ _)); refine blk_put (cs := #[.int .i64 x211000_6, .int .i64 x211001_6, .int .i64 t206, .int .i64 t208, .int .i64 t234, .int .i64 0]) ?_ 5 _ rfl; (with_reducible repeat (first | refine blk_drewN ?_ _ | refine blk_drew ?_ | refine blk_alloc ?_ _)); refine blk_put (cs := #[.int .i64 x211000_6, .int .i64 x211001_6, .int .i64 t206, .int .i64 t208, .int .i64 0, .int .i64 0]) ?_ 4 _ rfl; (with_reducible repeat (first | refine blk_drewN ?_ _ | refine blk_drew ?_ | refine blk_alloc ?_ _)); refine blk_put (cs := #[.int .i64 x211000_6, .int .i64 x211001_6, .int .i64 t206, .int .i64 0, .int .i64 0, .int .i64 0]) ?_ 3 _ rfl; (with_reducible repeat (first | refine blk_drewN ?_ _ | refine blk_drew ?_ | refine blk_alloc ?_ _)); refine blk_put (cs := #[.int .i64 x211000_6, .int .i64 x211001_6, .int .i64 0, .int .i64 0, .int .i64 0, .int .i64 0]) ?_ 2 _ rfl; (with_reducible repeat (first | refine blk_drewN ?_ _ | refine blk_drew ?_ | refine blk_alloc ?_ _)); refine blk_put (cs := #[.int .i64 x211000_6, .int .i64 0, .int .i64 0, .int .i64 0, .int .i64 0, .int .i64 0]) ?_ 1 _ rfl; (with_reducible repeat (first | refine blk_drewN ?_ _ | refine blk_drew ?_ | refine blk_alloc ?_ _)); refine blk_put (cs := #[.int .i64 0, .int .i64 0, .int .i64 0, .int .i64 0, .int .i64 0, .int .i64 0]) ?_ 0 _ rfl; (with_reducible repeat (first | refine blk_drewN ?_ _ | refine blk_drew ?_ | refine blk_alloc ?_ _)); refine blk_far ?_ NB203_210.out _; (with_reducible repeat (first | refine blk_drewN ?_ _ | refine blk_drew ?_ | refine blk_alloc ?_ _)); exact BK203.out) Try.underlying23 rfl (by kernel_rfl)) rfl ?_
           exact ⟨by first | rfl | (simp [errW_none, errW_some] <;> rfl) | (simp [*, errW_none, errW_some] <;> rfl), by repeat (first | (with_reducible first | exact HI0.out | apply IsS54.alloc | apply IsS54.drewN | apply IsS54.drew | apply IsS54.set_1 | refine IsS54.far ?_ NB0_203.out _ | refine IsS54.far ?_ NB0_210.out _) | exact HI0.out), by repeat (first | (with_reducible first | exact HB.out | apply below_alloc | apply pw_below_drewN | apply below_drew1 | refine below_set ?_ (IsS54.ge HI0.out) | refine below_set ?_ GE203.out | refine below_set ?_ GE210.out) | exact HB.out), by repeat (first | (with_reducible first | exact HK.out | apply KeepBut.set_ | apply keep_drewN | apply keep_drew | apply keep_alloc | refine keep_far ?_ GW203.out _ | refine keep_far ?_ GW210.out _) | exact HK.out)⟩
          ·rw [if_neg c73] at H
           have c73b0 : (t221 == 4) = false := beq_eq_false_iff_ne.mpr c73
           have c73b1 : (t221 != 4) = true := bne_iff_ne.mpr c73
           replace H := Option.bind_eq_some_iff.mp H
           obtain ⟨⟨t236, t237⟩, A820, H⟩ := H
           replace H : (some (x211000_6, x211001_6, t206, t208, x211004_6, t236, t237)) = some (r1, r2, r3, r4, r5, r6, r7) := H
           have A82 := Aside0.mk A820
           clear A820
           simp only [Option.some.injEq, Prod.mk.injEq] at H
           obtain ⟨rfl, rfl, rfl, rfl, rfl, rfl, rfl⟩ := H
           go_wp2_with (first | ((with_reducible refine gate_callee (f := 17) rfl ?_); refine goesL_ (some 36) rfl rfl Try.func17 (by kernel_rfl) rfl #[.pointer (some ⟨g, 0, none⟩), .int .i64 6] rfl (by (try simp only [List.map_toArray, List.map_cons, List.map_nil]); first | done | rfl | (simp only [List.length_drop, List.length_take]; rfl)) ?_; (with_reducible refine (awardingbodymake_Tape_Next.calls g s0_0 x1001_27 6 t221 t222 w0 _ ?side1 ?side2 A33.out).mono ?_); (case side1 => repeat (first | (with_reducible first | exact HI0.out | apply IsS54.alloc | apply IsS54.drewN | apply IsS54.drew | apply IsS54.set_1 | refine IsS54.far ?_ NB0_203.out _ | refine IsS54.far ?_ NB0_210.out _) | exact HI0.out)); (case side2 => repeat (first | (with_reducible first | exact HB.out | apply below_alloc | apply pw_below_drewN | apply below_drew1 | refine below_set ?_ (IsS54.ge HI0.out) | refine below_set ?_ GE203.out | refine below_set ?_ GE210.out) | exact HB.out)); rintro e w83 ⟨rfl, hi, hb, hk⟩; refine ⟨_, rfl, ?_⟩; have n0_ := Aside0.mk (KeepBut.blk hk (g' := gb203) (o := .cells #[.int .i64 0, .int .i64 0, .int .i64 0, .int .i64 0, .int .i64 0, .int .i64 0] 23 (0, 0)) (by (with_reducible repeat (first | refine blk_drewN ?_ _ | refine blk_drew ?_ | refine blk_alloc ?_ _)); exact BK203.out) NB203_0.out (by simp)); have n1_ := Aside0.mk (KeepBut.blk hk (g' := gb210) (o := .cells #[.int .i64 x211000_6, .int .i64 x211001_6, .int .i64 t206, .int .i64 t208, .int .i64 x211004_6, .int .i64 x211005_6] 23 (0, 0)) (by (with_reducible repeat (first | refine blk_drewN ?_ _ | refine blk_drew ?_ | refine blk_alloc ?_ _)); exact BK210.out) NB210_0.out (by simp)); have n2_ := Aside0.mk (KeepBut.trans (by repeat (first | (with_reducible first | exact HK.out | apply KeepBut.set_ | apply keep_drewN | apply keep_drew | apply keep_alloc | refine keep_far ?_ GW203.out _ | refine keep_far ?_ GW210.out _) | exact HK.out)) hk (.inl rfl)); have n3_ := Aside0.mk (hb); have n4_ := Aside0.mk (hi); clear BK203; clear BK210; clear HK; clear HB; clear HI0; have BK203 := n0_; have BK210 := n1_; have HK := n2_; have HB := n3_; have HI0 := n4_; clear n0_ n1_ n2_ n3_ n4_; (try clear hb); (try clear hb2); (try clear hk); (try clear hi)) | ((with_reducible refine gate_callee (f := 18) rfl ?_); refine goesL_ (some 38) rfl rfl Try.func18 (by kernel_rfl) rfl #[.pointer (some ⟨g, 0, none⟩), .int .i64 (-1), .int .i64 5] rfl (by (try simp only [List.map_toArray, List.map_cons, List.map_nil]); first | done | rfl | (simp only [List.length_drop, List.length_take]; rfl)) ?_; (with_reducible refine (awardingbodymake_Tape_Range.calls g s0_0 t222 (-1) 5 t236 t237 w0 _ ?side1 ?side2 A82.out).mono ?_); (case side1 => repeat (first | (with_reducible first | exact HI0.out | apply IsS54.alloc | apply IsS54.drewN | apply IsS54.drew | apply IsS54.set_1 | refine IsS54.far ?_ NB0_203.out _ | refine IsS54.far ?_ NB0_210.out _) | exact HI0.out)); (case side2 => repeat (first | (with_reducible first | exact HB.out | apply below_alloc | apply pw_below_drewN | apply below_drew1 | refine below_set ?_ (IsS54.ge HI0.out) | refine below_set ?_ GE203.out | refine below_set ?_ GE210.out) | exact HB.out)); rintro e w84 ⟨rfl, hi, hb, hk⟩; refine ⟨_, rfl, ?_⟩; have n0_ := Aside0.mk (KeepBut.blk hk (g' := gb203) (o := .cells #[.int .i64 0, .int .i64 0, .int .i64 0, .int .i64 0, .int .i64 0, .int .i64 0] 23 (0, 0)) (by (with_reducible repeat (first | refine blk_drewN ?_ _ | refine blk_drew ?_ | refine blk_alloc ?_ _)); exact BK203.out) NB203_0.out (by simp)); have n1_ := Aside0.mk (KeepBut.blk hk (g' := gb210) (o := .cells #[.int .i64 x211000_6, .int .i64 x211001_6, .int .i64 t206, .int .i64 t208, .int .i64 x211004_6, .int .i64 x211005_6] 23 (0, 0)) (by (with_reducible repeat (first | refine blk_drewN ?_ _ | refine blk_drew ?_ | refine blk_alloc ?_ _)); exact BK210.out) NB210_0.out (by simp)); have n2_ := Aside0.mk (KeepBut.trans (by repeat (first | (with_reducible first | exact HK.out | apply KeepBut.set_ | apply keep_drewN | apply keep_drew | apply keep_alloc | refine keep_far ?_ GW203.out _ | refine keep_far ?_ GW210.out _) | exact HK.out)) hk (.inl rfl)); have n3_ := Aside0.mk (hb); have n4_ := Aside0.mk (hi); clear BK203; clear BK210; clear HK; clear HB; clear HI0; have BK203 := n0_; have BK210 := n1_; have HK := n2_; have HB := n3_; have HI0 := n4_; clear n0_ n1_ n2_ n3_ n4_; (try clear hb); (try clear hb2); (try clear hk); (try clear hi); have hnb85 := NB210_203.out; have hnc85 := NB203_210.out; have hnb86 := NB210_0.out; have hnc86 := NB0_210.out; have hcz87_0 : w84.cell? ⟨gb210, 0, none⟩ = some (.int .i64 x211000_6) := (blk_cell BK210.out 0).trans rfl; have hcz87_1 : w84.cell? ⟨gb210, 1, none⟩ = some (.int .i64 x211001_6) := (blk_cell BK210.out 1).trans rfl; have hcz87_2 : w84.cell? ⟨gb210, 2, none⟩ = some (.int .i64 t206) := (blk_cell BK210.out 2).trans rfl; have hcz87_3 : w84.cell? ⟨gb210, 3, none⟩ = some (.int .i64 t208) := (blk_cell BK210.out 3).trans rfl; have hcz87_4 : w84.cell? ⟨gb210, 4, none⟩ = some (.int .i64 x211004_6) := (blk_cell BK210.out 4).trans rfl; have hcz87_5 : w84.cell? ⟨gb210, 5, none⟩ = some (.int .i64 x211005_6) := (blk_cell BK210.out 5).trans rfl; have hfz87_0 := blk_frozen BK210.out 0; have hfz87_1 := blk_frozen BK210.out 1; have hfz87_2 := blk_frozen BK210.out 2; have hfz87_3 := blk_frozen BK210.out 3; have hfz87_4 := blk_frozen BK210.out 4; have hfz87_5 := blk_frozen BK210.out 5; have hnb88 := NB203_0.out; have hnc88 := NB0_203.out; have hcz89_0 : w84.cell? ⟨gb203, 0, none⟩ = some (.int .i64 0) := (blk_cell BK203.out 0).trans rfl; have hcz89_1 : w84.cell? ⟨gb203, 1, none⟩ = some (.int .i64 0) := (blk_cell BK203.out 1).trans rfl; have hcz89_2 : w84.cell? ⟨gb203, 2, none⟩ = some (.int .i64 0) := (blk_cell BK203.out 2).trans rfl; have hcz89_3 : w84.cell? ⟨gb203, 3, none⟩ = some (.int .i64 0) := (blk_cell BK203.out 3).trans rfl; have hcz89_4 : w84.cell? ⟨gb203, 4, none⟩ = some (.int .i64 0) := (blk_cell BK203.out 4).trans rfl; have hcz89_5 : w84.cell? ⟨gb203, 5, none⟩ = some (.int .i64 0) := (blk_cell BK203.out 5).trans rfl; have hfz89_0 := blk_frozen BK203.out 0; have hfz89_1 := blk_frozen BK203.out 1; have hfz89_2 := blk_frozen BK203.out 2; have hfz89_3 := blk_frozen BK203.out 3; have hfz89_4 := blk_frozen BK203.out 4; have hfz89_5 := blk_frozen BK203.out 5))
           refine bodyPost_ret (results_cell_row rfl _ _ gb203 23 #[.int .i64 x211000_6, .int .i64 x211001_6, .int .i64 t206, .int .i64 t208, .int .i64 x211004_6, .int .i64 t236] (0, 0) _ rfl (by (with_reducible repeat (first | refine blk_drewN ?_ _ | refine blk_drew ?_ | refine blk_alloc ?_ _)); refine blk_put (cs := #[.int .i64 x211000_6, .int .i64 x211001_6, .int .i64 t206, .int .i64 t208, .int .i64 x211004_6, .int .i64 0]) ?_ 5 _ rfl; (with_reducible repeat (first | refine blk_drewN ?_ _ | refine blk_drew ?_ | refine blk_alloc ?_ _)); refine blk_put (cs := #[.int .i64 x211000_6, .int .i64 x211001_6, .int .i64 t206, .int .i64 t208, .int .i64 0, .int .i64 0]) ?_ 4 _ rfl; (with_reducible repeat (first | refine blk_drewN ?_ _ | refine blk_drew ?_ | refine blk_alloc ?_ _)); refine blk_put (cs := #[.int .i64 x211000_6, .int .i64 x211001_6, .int .i64 t206, .int .i64 0, .int .i64 0, .int .i64 0]) ?_ 3 _ rfl; (with_reducible repeat (first | refine blk_drewN ?_ _ | refine blk_drew ?_ | refine blk_alloc ?_ _)); refine blk_put (cs := #[.int .i64 x211000_6, .int .i64 x211001_6, .int .i64 0, .int .i64 0, .int .i64 0, .int .i64 0]) ?_ 2 _ rfl; (with_reducible repeat (first | refine blk_drewN ?_ _ | refine blk_drew ?_ | refine blk_alloc ?_ _)); refine blk_put (cs := #[.int .i64 x211000_6, .int .i64 0, .int .i64 0, .int .i64 0, .int .i64 0, .int .i64 0]) ?_ 1 _ rfl; (with_reducible repeat (first | refine blk_drewN ?_ _ | refine blk_drew ?_ | refine blk_alloc ?_ _)); refine blk_put (cs := #[.int .i64 0, .int .i64 0, .int .i64 0, .int .i64 0, .int .i64 0, .int .i64 0]) ?_ 0 _ rfl; (with_reducible repeat (first | refine blk_drewN ?_ _ | refine blk_drew ?_ | refine blk_alloc ?_ _)); refine blk_far ?_ NB203_210.out _; (with_reducible repeat (first | refine blk_drewN ?_ _ | refine blk_drew ?_ | refine blk_alloc ?_ _)); exact BK203.out) Try.underlying23 rfl (by kernel_rfl)) rfl ?_
           exact ⟨by first | rfl | (simp [errW_none, errW_some] <;> rfl) | (simp [*, errW_none, errW_some] <;> rfl), by repeat (first | (with_reducible first | exact HI0.out | apply IsS54.alloc | apply IsS54.drewN | apply IsS54.drew | apply IsS54.set_1 | refine IsS54.far ?_ NB0_203.out _ | refine IsS54.far ?_ NB0_210.out _) | exact HI0.out), by repeat (first | (with_reducible first | exact HB.out | apply below_alloc | apply pw_below_drewN | apply below_drew1 | refine below_set ?_ (IsS54.ge HI0.out) | refine below_set ?_ GE203.out | refine below_set ?_ GE210.out) | exact HB.out), by repeat (first | (with_reducible first | exact HK.out | apply KeepBut.set_ | apply keep_drewN | apply keep_drew | apply keep_alloc | refine keep_far ?_ GW203.out _ | refine keep_far ?_ GW210.out _) | exact HK.out)⟩
     ·replace c32 := Bool.eq_false_iff.mpr c32
      subst c32
      have H1 : (some (x211000_6, x211001_6, t206, t208, x211004_6, x211005_6, x1001_27)) = some (r1, r2, r3, r4, r5, r6, r7) := by rw [if_neg (show ¬ (false = true) by decide)] at H; exact H
      clear H
      have H := H1
      clear H1
      simp only [Option.some.injEq, Prod.mk.injEq] at H
      obtain ⟨rfl, rfl, rfl, rfl, rfl, rfl, rfl⟩ := H
      have hnb90 := NB210_203.out
      have hnc90 := NB203_210.out
      have hnb91 := NB210_0.out
      have hnc91 := NB0_210.out
      have hcz92_0 : wc.cell? ⟨gb210, 0, none⟩ = some (.int .i64 x211000_6) := (blk_cell BK210.out 0).trans rfl
      have hcz92_1 : wc.cell? ⟨gb210, 1, none⟩ = some (.int .i64 x211001_6) := (blk_cell BK210.out 1).trans rfl
      have hcz92_2 : wc.cell? ⟨gb210, 2, none⟩ = some (.int .i64 t206) := (blk_cell BK210.out 2).trans rfl
      have hcz92_3 : wc.cell? ⟨gb210, 3, none⟩ = some (.int .i64 t208) := (blk_cell BK210.out 3).trans rfl
      have hcz92_4 : wc.cell? ⟨gb210, 4, none⟩ = some (.int .i64 x211004_6) := (blk_cell BK210.out 4).trans rfl
      have hcz92_5 : wc.cell? ⟨gb210, 5, none⟩ = some (.int .i64 x211005_6) := (blk_cell BK210.out 5).trans rfl
      have hfz92_0 := blk_frozen BK210.out 0
      have hfz92_1 := blk_frozen BK210.out 1
      have hfz92_2 := blk_frozen BK210.out 2
      have hfz92_3 := blk_frozen BK210.out 3
      have hfz92_4 := blk_frozen BK210.out 4
      have hfz92_5 := blk_frozen BK210.out 5
      have hnb93 := NB203_0.out
      have hnc93 := NB0_203.out
      have hcz94_0 : wc.cell? ⟨gb203, 0, none⟩ = some (.int .i64 0) := (blk_cell BK203.out 0).trans rfl
      have hcz94_1 : wc.cell? ⟨gb203, 1, none⟩ = some (.int .i64 0) := (blk_cell BK203.out 1).trans rfl
      have hcz94_2 : wc.cell? ⟨gb203, 2, none⟩ = some (.int .i64 0) := (blk_cell BK203.out 2).trans rfl
      have hcz94_3 : wc.cell? ⟨gb203, 3, none⟩ = some (.int .i64 0) := (blk_cell BK203.out 3).trans rfl
      have hcz94_4 : wc.cell? ⟨gb203, 4, none⟩ = some (.int .i64 0) := (blk_cell BK203.out 4).trans rfl
      have hcz94_5 : wc.cell? ⟨gb203, 5, none⟩ = some (.int .i64 0) := (blk_cell BK203.out 5).trans rfl
      have hfz94_0 := blk_frozen BK203.out 0
      have hfz94_1 := blk_frozen BK203.out 1
      have hfz94_2 := blk_frozen BK203.out 2
      have hfz94_3 := blk_frozen BK203.out 3
      have hfz94_4 := blk_frozen BK203.out 4
      have hfz94_5 := blk_frozen BK203.out 5
      go_wp2
      refine bodyPost_ret (results_cell_row rfl _ _ gb203 23 #[.int .i64 x211000_6, .int .i64 x211001_6, .int .i64 t206, .int .i64 t208, .int .i64 x211004_6, .int .i64 x211005_6] (0, 0) _ rfl (by (with_reducible repeat (first | refine blk_drewN ?_ _ | refine blk_drew ?_ | refine blk_alloc ?_ _)); refine blk_put (cs := #[.int .i64 x211000_6, .int .i64 x211001_6, .int .i64 t206, .int .i64 t208, .int .i64 x211004_6, .int .i64 0]) ?_ 5 _ rfl; (with_reducible repeat (first | refine blk_drewN ?_ _ | refine blk_drew ?_ | refine blk_alloc ?_ _)); refine blk_put (cs := #[.int .i64 x211000_6, .int .i64 x211001_6, .int .i64 t206, .int .i64 t208, .int .i64 0, .int .i64 0]) ?_ 4 _ rfl; (with_reducible repeat (first | refine blk_drewN ?_ _ | refine blk_drew ?_ | refine blk_alloc ?_ _)); refine blk_put (cs := #[.int .i64 x211000_6, .int .i64 x211001_6, .int .i64 t206, .int .i64 0, .int .i64 0, .int .i64 0]) ?_ 3 _ rfl; (with_reducible repeat (first | refine blk_drewN ?_ _ | refine blk_drew ?_ | refine blk_alloc ?_ _)); refine blk_put (cs := #[.int .i64 x211000_6, .int .i64 x211001_6, .int .i64 0, .int .i64 0, .int .i64 0, .int .i64 0]) ?_ 2 _ rfl; (with_reducible repeat (first | refine blk_drewN ?_ _ | refine blk_drew ?_ | refine blk_alloc ?_ _)); refine blk_put (cs := #[.int .i64 x211000_6, .int .i64 0, .int .i64 0, .int .i64 0, .int .i64 0, .int .i64 0]) ?_ 1 _ rfl; (with_reducible repeat (first | refine blk_drewN ?_ _ | refine blk_drew ?_ | refine blk_alloc ?_ _)); refine blk_put (cs := #[.int .i64 0, .int .i64 0, .int .i64 0, .int .i64 0, .int .i64 0, .int .i64 0]) ?_ 0 _ rfl; (with_reducible repeat (first | refine blk_drewN ?_ _ | refine blk_drew ?_ | refine blk_alloc ?_ _)); exact BK203.out) Try.underlying23 rfl (by kernel_rfl)) rfl ?_
      exact ⟨by first | rfl | (simp [errW_none, errW_some] <;> rfl) | (simp [*, errW_none, errW_some] <;> rfl), by repeat (first | (with_reducible first | exact HI0.out | apply IsS54.alloc | apply IsS54.drewN | apply IsS54.drew | apply IsS54.set_1 | refine IsS54.far ?_ NB0_203.out _ | refine IsS54.far ?_ NB0_210.out _) | exact HI0.out), by repeat (first | (with_reducible first | exact HB.out | apply below_alloc | apply pw_below_drewN | apply below_drew1 | refine below_set ?_ (IsS54.ge HI0.out) | refine below_set ?_ GE203.out | refine below_set ?_ GE210.out) | exact HB.out), by repeat (first | (with_reducible first | exact HK.out | apply KeepBut.set_ | apply keep_drewN | apply keep_drew | apply keep_alloc | refine keep_far ?_ GW203.out _ | refine keep_far ?_ GW210.out _) | exact HK.out)⟩

/-! ### awardingbodymake_Tape_Word: function 37 -/
def awardingbodymake_Tape_Word.l0 : Nat → ByteArray → Int → List Int → Int → Option (ByteArray × Int)
  | 0, _, _, _, _ => none
  | k + 1, x5, x6, x1000, x1001 => if x6 > 0 then ((awardingbodymake_Tape_Next.f x1000 x1001 3).bind fun bt240 => ((some (([(wrap64 (97 + bt240.1)) % 256] : List Int) : List Int)).bind fun y242 => (if x5.size + (strOfNums y242).size ≤ 9223372036854775807 then (awardingbodymake_Tape_Word.l0 k (x5 ++ (strOfNums y242)) (wrap64 (x6 - 1)) x1000 bt240.2) else (none)))) else (some (x5, x1001))
def awardingbodymake_Tape_Word.f (k : Nat) (s0_0 : List Int) (s0_1 : Int) (a1 : Int) : Option (ByteArray × Int) := (awardingbodymake_Tape_Range.f s0_0 s0_1 1 a1).bind fun bt238 => (awardingbodymake_Tape_Word.l0 k (⟨#[]⟩ : ByteArray) bt238.1 s0_0 bt238.2)
theorem awardingbodymake_Tape_Word.mono_l : ∀ k, (∀ y0 y1 y2 y3, LeO (awardingbodymake_Tape_Word.l0 k y0 y1 y2 y3) (awardingbodymake_Tape_Word.l0 (k + 1) y0 y1 y2 y3))
  | 0 => fun _ _ _ _ r h => by simp [awardingbodymake_Tape_Word.l0] at h
  | k + 1 => by
    have ih0 := awardingbodymake_Tape_Word.mono_l k
    · intro y0 y1 y2 y3
      unfold awardingbodymake_Tape_Word.l0
      repeat' first
      | (with_reducible exact ih0 _ _ _ _)
      | (with_reducible exact LeO.refl _)
      | (with_reducible exact LeO.none _)
      | (with_reducible refine LeO.ite ?_ ?_)
      | (with_reducible refine LeO.bind ?_ (fun _ => ?_))
      | exact ih0 _ _ _ _
      | exact LeO.none _
      | refine LeO.ite ?_ ?_
      | refine LeO.bind ?_ (fun _ => ?_)
theorem awardingbodymake_Tape_Word.mono : ∀ a0 a1 a2 k, LeO (awardingbodymake_Tape_Word.f k a0 a1 a2) (awardingbodymake_Tape_Word.f (k + 1) a0 a1 a2) := by
  intro a0 a1 a2 k
  have ih0 := awardingbodymake_Tape_Word.mono_l k
  unfold awardingbodymake_Tape_Word.f
  repeat' first
      | (with_reducible exact ih0 _ _ _ _)
      | (with_reducible exact LeO.refl _)
      | (with_reducible exact LeO.none _)
      | (with_reducible refine LeO.ite ?_ ?_)
      | (with_reducible refine LeO.bind ?_ (fun _ => ?_))
      | exact ih0 _ _ _ _
      | exact LeO.none _
      | refine LeO.ite ?_ ?_
      | refine LeO.bind ?_ (fun _ => ?_)
set_option maxHeartbeats 8000000 in
set_option maxRecDepth 100000 in
theorem awardingbodymake_Tape_Word.calls (k : Nat) (g : Nat) (s0_0 : List Int) (s0_1 : Int) (a1 : Int) (r1 : ByteArray) (r2 : Int) (w0 w : World) (hI : IsS54 w0 w g s0_0 s0_1) (hB : Below w0.heap.size w0 w) (h : awardingbodymake_Tape_Word.f k s0_0 s0_1 a1 = some (r1, r2)) :
    Calls Try.prog 37 #[.pointer (some ⟨g, 0, none⟩), .int .i64 a1] w fun e w' => e = .returned (.string r1) ∧ IsS54 w0 w' g s0_0 r2 ∧ Below w0.heap.size w0 w' ∧ KeepBut w w' g none := by
 have HI0 := Aside0.mk hI
 have HK := Aside0.mk (KeepBut.refl w g none)
 have HL := Aside0.mk hB.size
 clear hI
 have HW0 := Aside0.mk hB.size
 have HB := Aside0.mk hB
 clear hB
 have H : ((awardingbodymake_Tape_Range.f s0_0 s0_1 1 a1).bind fun bt238 => (awardingbodymake_Tape_Word.l0 k (⟨#[]⟩ : ByteArray) bt238.1 s0_0 bt238.2)) = some (r1, r2) := h
 clear h
 replace H := Option.bind_eq_some_iff.mp H
 obtain ⟨⟨t238, t239⟩, A30, H⟩ := H
 replace H : (awardingbodymake_Tape_Word.l0 k (⟨#[]⟩ : ByteArray) t238 s0_0 t239) = some (r1, r2) := H
 have A3 := Aside0.mk A30
 clear A30
 have H' := Aside0.mk H
 clear H
 go_enter Try.func37, Try.ntmps37
 go_wp2_with (first | ((with_reducible refine gate_callee (f := 18) rfl ?_); refine goesL_ (some 9) rfl rfl Try.func18 (by kernel_rfl) rfl #[.pointer (some ⟨g, 0, none⟩), .int .i64 1, .int .i64 a1] rfl (by (try simp only [List.map_toArray, List.map_cons, List.map_nil]); first | done | rfl | (simp only [List.length_drop, List.length_take]; rfl)) ?_; (with_reducible refine (awardingbodymake_Tape_Range.calls g s0_0 s0_1 1 a1 t238 t239 w0 _ ?side1 ?side2 A3.out).mono ?_); (case side1 => repeat (first | (with_reducible first | exact HI0.out | apply IsS54.alloc | apply IsS54.drewN | apply IsS54.drew | apply IsS54.set_1) | exact HI0.out)); (case side2 => repeat (first | (with_reducible first | exact HB.out | apply below_alloc | apply pw_below_drewN | apply below_drew1 | refine below_set ?_ (IsS54.ge HI0.out)) | exact HB.out)); rintro e w4 ⟨rfl, hi, hb, hk⟩; refine ⟨_, rfl, ?_⟩; have n0_ := Aside0.mk (KeepBut.trans (by repeat (first | (with_reducible first | exact HK.out | apply KeepBut.set_ | apply keep_drewN | apply keep_drew | apply keep_alloc) | exact HK.out)) hk (.inl rfl)); have n1_ := Aside0.mk (hb); have n2_ := Aside0.mk (hi); clear HK; clear HB; clear HI0; have HK := n0_; have HB := n1_; have HI0 := n2_; clear n0_ n1_ n2_; (try clear hb); (try clear hb2); (try clear hk); (try clear hi)))
 go_loopg [5, 6] k (fun kq v5 v6 w' => ∃ (x5_1 : ByteArray) (x6_1 : Int) (x1001_1 : Int), v5 = .string x5_1 ∧ v6 = .int .i64 x6_1 ∧ Aside0 (awardingbodymake_Tape_Word.l0 kq x5_1 x6_1 s0_0 x1001_1 = some (r1, r2)) ∧ Aside0 (kq ≤ k) ∧ Aside0 (IsS54 w0 w' g s0_0 x1001_1) ∧ Aside0 (KeepBut w w' g none) ∧ Aside0 (Below w0.heap.size w0 w'))
 case atStart => exact ⟨((⟨#[]⟩ : ByteArray)), (t238), (t239), (by first | rfl | (simp; done) | (simp [*]; done)), (by first | rfl | (simp; done) | (simp [*]; done)), H', ⟨Nat.le_refl _⟩, ⟨by repeat (first | (with_reducible first | exact HI0.out | apply IsS54.alloc | apply IsS54.drewN | apply IsS54.drew | apply IsS54.set_1) | exact HI0.out)⟩, ⟨by repeat (first | (with_reducible first | exact HK.out | apply KeepBut.set_ | apply keep_drewN | apply keep_drew | apply keep_alloc) | exact HK.out)⟩, ⟨by repeat (first | (with_reducible first | exact HB.out | apply below_alloc | apply pw_below_drewN | apply below_drew1 | refine below_set ?_ (IsS54.ge HI0.out)) | exact HB.out)⟩⟩
 case round =>
  clear H'
  try clear c1
  try clear p2
  try clear c3
  obtain ⟨x5_1, x6_1, x1001_1, rfl, rfl, HA, HK1, HI0, HK, HB⟩ := hrel
  cases gk with
  | zero => exact absurd HA.out (by simp [awardingbodymake_Tape_Word.l0])
  | succ k1 =>
   have H := HA.out
   clear HA
   simp only [awardingbodymake_Tape_Word.l0] at H
   by_cases c5 : x6_1 > 0
   ·rw [if_pos c5] at H
    have c5b0 : decide (0 < x6_1) = true := decide_eq_true c5
    clear c5
    replace H := Option.bind_eq_some_iff.mp H
    obtain ⟨⟨t240, t241⟩, A60, H⟩ := H
    replace H : ((some (([(wrap64 (97 + t240)) % 256] : List Int) : List Int)).bind fun y242 => (if x5_1.size + (strOfNums y242).size ≤ 9223372036854775807 then (awardingbodymake_Tape_Word.l0 k1 (x5_1 ++ (strOfNums y242)) (wrap64 (x6_1 - 1)) s0_0 t241) else (none))) = some (r1, r2) := H
    have A6 := Aside0.mk A60
    clear A60
    obtain ⟨y242, hy242⟩ : ∃ y_ : List Int, y_ = (([(wrap64 (97 + t240)) % 256] : List Int)) := ⟨_, rfl⟩
    replace H : (if x5_1.size + (strOfNums y242).size ≤ 9223372036854775807 then (awardingbodymake_Tape_Word.l0 k1 (x5_1 ++ (strOfNums y242)) (wrap64 (x6_1 - 1)) s0_0 t241) else (none)) = some (r1, r2) := by first | (rw [hy242]; with_reducible exact H) | (have H2_ := (Option.bind_some _ _).symm.trans H; rw [hy242]; with_reducible exact H2_) | (have H2_ := (Option.bind_some _ _).symm.trans H; with_reducible exact H2_) | with_reducible exact H | (rw [hy242]; exact H) | exact H
    have Ny242 := Aside0.mk hy242
    clear hy242
    by_cases c7 : x5_1.size + (strOfNums y242).size ≤ 9223372036854775807
    ·rw [if_pos c7] at H
     have c7b0 := eq_true c7
     have c7b1 : decide (x5_1.size + (strOfNums y242).size ≤ 9223372036854775807) = true := decide_eq_true c7
     try have c7b2 : (9223372036854775807 < x5_1.size + (strOfNums y242).size) = False := eq_false (Nat.not_lt.2 c7)
     have H' := Aside0.mk H
     clear H
     go_wp2_with (first | ((with_reducible refine gate_callee (f := 17) rfl ?_); refine goesL_ (some 16) rfl rfl Try.func17 (by kernel_rfl) rfl #[.pointer (some ⟨g, 0, none⟩), .int .i64 3] rfl (by (try simp only [List.map_toArray, List.map_cons, List.map_nil]); first | done | rfl | (simp only [List.length_drop, List.length_take]; rfl)) ?_; (with_reducible refine (awardingbodymake_Tape_Next.calls g s0_0 x1001_1 3 t240 t241 w0 _ ?side1 ?side2 A6.out).mono ?_); (case side1 => repeat (first | (with_reducible first | exact HI0.out | apply IsS54.alloc | apply IsS54.drewN | apply IsS54.drew | apply IsS54.set_1) | exact HI0.out)); (case side2 => repeat (first | (with_reducible first | exact HB.out | apply below_alloc | apply pw_below_drewN | apply below_drew1 | refine below_set ?_ (IsS54.ge HI0.out)) | exact HB.out)); rintro e w8 ⟨rfl, hi, hb, hk⟩; refine ⟨_, rfl, ?_⟩; have n0_ := Aside0.mk (KeepBut.trans (by repeat (first | (with_reducible first | exact HK.out | apply KeepBut.set_ | apply keep_drewN | apply keep_drew | apply keep_alloc) | exact HK.out)) hk (.inl rfl)); have n1_ := Aside0.mk (hb); have n2_ := Aside0.mk (hi); clear HK; clear HB; clear HI0; have HK := n0_; have HB := n1_; have HI0 := n2_; clear n0_ n1_ n2_; (try clear hb); (try clear hb2); (try clear hk); (try clear hi)) | ((with_reducible refine gate_dst (N := 19) rfl ?_); refine Kd.R_lit (Kd.int .u8) _ 5 ?hg (N := 19) ?hd (xs := ([(wrap64 (97 + t240)) % 256] : List Int)) (inner := [.int .u8 ((wrap64 (97 + t240)) % 256)]) (ok := fun _ => True) (okp := fun _ => True) ?hr ?hp (fun _ hk => hk) trivial (Below.refl _ _) (Nat.le_refl _) (by simp) ?_; (case hd => rfl); (case hg => rfl); (case hr => first | (go_simp; done) | (go_simp; rfl)); (case hp => exact (Reps.one (show Kd.M (Kd.int .u8) _ _ _ ((wrap64 (97 + t240)) % 256) [.int .u8 ((wrap64 (97 + t240)) % 256)] from rfl) (Reps.none _ _))); intro v243 w9 ho10 hb hg_ hnew_; clear hg_ hnew_; (first | rw [← Ny242.out] at ho10 | (simp only [Int.reduceToNat] at ho10; rw [← Ny242.out] at ho10)); have n0_ := Aside0.mk (Kd.R_lower ho10 (keep_size (w := w) (g := g) (row := none) (by repeat (first | (with_reducible first | exact HK.out | apply KeepBut.set_ | apply keep_drewN | apply keep_drew | apply keep_alloc) | exact HK.out)))); have n1_ := Aside0.mk (IsS54.below (by repeat (first | (with_reducible first | exact HI0.out | apply IsS54.alloc | apply IsS54.drewN | apply IsS54.drew | apply IsS54.set_1) | exact HI0.out)) hb); have n2_ := Aside0.mk (KeepBut.trans (by repeat (first | (with_reducible first | exact HK.out | apply KeepBut.set_ | apply keep_drewN | apply keep_drew | apply keep_alloc) | exact HK.out)) (KeepBut.of_below hb g none) (.inl rfl)); have n3_ := Aside0.mk (below_step (by repeat (first | (with_reducible first | exact HB.out | apply below_alloc | apply pw_below_drewN | apply below_drew1 | refine below_set ?_ (IsS54.ge HI0.out)) | exact HB.out)) hb); clear HI0; clear HK; clear HB; have HO244 := n0_; have HI0 := n1_; have HK := n2_; have HB := n3_; clear n0_ n1_ n2_ n3_; clear hb ho10; have hcv11 := own_string (P := Try.prog) Try.underlying61 Try.underlying5 Try.underlying9 (Kd.own_of_R HO244.out)))
     go_roundg k1
     case measure => have := HK1.out; omega
     case rel => exact ⟨(x5_1 ++ (strOfNums y242)), (wrap64 (x6_1 - 1)), (t241), (by first | rfl | (simp; done) | (simp [*]; done)), (by first | rfl | (simp; done) | (simp [*]; done)), H', ⟨by have := HK1.out; omega⟩, ⟨by repeat (first | (with_reducible first | exact HI0.out | apply IsS54.alloc | apply IsS54.drewN | apply IsS54.drew | apply IsS54.set_1) | exact HI0.out)⟩, ⟨by repeat (first | (with_reducible first | exact HK.out | apply KeepBut.set_ | apply keep_drewN | apply keep_drew | apply keep_alloc) | exact HK.out)⟩, ⟨by repeat (first | (with_reducible first | exact HB.out | apply below_alloc | apply pw_below_drewN | apply below_drew1 | refine below_set ?_ (IsS54.ge HI0.out)) | exact HB.out)⟩⟩
    ·rw [if_neg c7] at H
     exact absurd H (by simp)
   ·rw [if_neg c5] at H
    have c5b0 : decide (0 < x6_1) = false := decide_eq_false c5
    clear c5
    simp only [Option.some.injEq, Prod.mk.injEq] at H
    obtain ⟨rfl, rfl⟩ := H
    go_wp2
    go_ret
    exact ⟨by first | rfl | (simp [errW_none, errW_some] <;> rfl) | (simp [*, errW_none, errW_some] <;> rfl), by repeat (first | (with_reducible first | exact HI0.out | apply IsS54.alloc | apply IsS54.drewN | apply IsS54.drew | apply IsS54.set_1) | exact HI0.out), by repeat (first | (with_reducible first | exact HB.out | apply below_alloc | apply pw_below_drewN | apply below_drew1 | refine below_set ?_ (IsS54.ge HI0.out)) | exact HB.out), by repeat (first | (with_reducible first | exact HK.out | apply KeepBut.set_ | apply keep_drewN | apply keep_drew | apply keep_alloc) | exact HK.out)⟩

end Go.Proofs.Ytinmdoemkejanaa.Print
