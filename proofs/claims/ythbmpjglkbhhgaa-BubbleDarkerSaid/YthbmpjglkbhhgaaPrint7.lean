-- Printed by a program of this session (wip/own_print.py) out of the translation; Lean checks it.
import Derived.Test.YthbmpjglkbhhgaaPrint0
import Derived.Test.YthbmpjglkbhhgaaPrint4
namespace Go.Proofs.Ythbmpjglkbhhgaa.Print
open Go.RowKit Go.Proofs.YthbmpjglkbhhgaaW.PrintWords Go.Proofs.YthbmpjglkbhhgaaW.PrintLast Go.Proofs.YthbmpjglkbhhgaaW.PrintMore
attribute [local go_sem] max2_int min2_int max_two min_two max_three min_three max_four min_four   -- for this text's walks alone
set_option linter.unusedVariables false
set_option linter.unusedSimpArgs false

/-! ### awardingbodylaw20_values: function 23 -/
def awardingbodylaw20_values.f (k : Nat) (s0_0 : List Int) (s0_1 : Int) : Option (List Int × Int) := (awardingbodymake_Tape_Next.f s0_0 s0_1 10).bind fun bt236 => ((awardingbodymake_Tape_Next.f s0_0 bt236.2 10).bind fun bt238 => ((some (([bt236.1, bt238.1] : List Int) : List Int)).bind fun y240 => ((awardingbodymake_Tape_Ints.f k s0_0 bt238.2 3 0 9).bind fun bt243 => (if y240.length + bt243.1.length < 17592186044416 then (some ((y240 ++ bt243.1), bt243.2)) else (none)))))
theorem awardingbodylaw20_values.mono : ∀ a0 a1 k, LeO (awardingbodylaw20_values.f k a0 a1) (awardingbodylaw20_values.f (k + 1) a0 a1) := by
  intro a0 a1 k
  unfold awardingbodylaw20_values.f
  repeat' first
      | (with_reducible exact awardingbodymake_Tape_Ints.mono _ _ _ _ _ _)
      | (with_reducible exact LeO.refl _)
      | (with_reducible exact LeO.none _)
      | (with_reducible refine LeO.ite ?_ ?_)
      | (with_reducible refine LeO.bind ?_ (fun _ => ?_))
      | exact awardingbodymake_Tape_Ints.mono _ _ _ _ _ _
      | exact LeO.none _
      | refine LeO.ite ?_ ?_
      | refine LeO.bind ?_ (fun _ => ?_)
set_option maxHeartbeats 8000000 in
set_option maxRecDepth 100000 in
theorem awardingbodylaw20_values.calls (k : Nat) (g : Nat) (s0_0 : List Int) (s0_1 : Int) (r1 : List Int) (r2 : Int) (w0 w : World) (hI : IsS68 w0 w g s0_0 s0_1) (hB : Below w0.heap.size w0 w) (h : awardingbodylaw20_values.f k s0_0 s0_1 = some (r1, r2)) :
    Calls Try.prog 23 #[.pointer (some ⟨g, 0, none⟩)] w fun e w' => ∃ v0_ : Value, e = .returned (v0_) ∧ Kd.R (Kd.int .i64) 3 w' w.heap.size (fun _ => True) v0_ r1 ∧ IsS68 w0 w' g s0_0 r2 ∧ Below w0.heap.size w0 w' ∧ KeepBut w w' g none := by
 have HI0 := Aside0.mk hI
 have HK := Aside0.mk (KeepBut.refl w g none)
 have HL := Aside0.mk hB.size
 clear hI
 have HW0 := Aside0.mk hB.size
 have HB := Aside0.mk hB
 clear hB
 have H : ((awardingbodymake_Tape_Next.f s0_0 s0_1 10).bind fun bt236 => ((awardingbodymake_Tape_Next.f s0_0 bt236.2 10).bind fun bt238 => ((some (([bt236.1, bt238.1] : List Int) : List Int)).bind fun y240 => ((awardingbodymake_Tape_Ints.f k s0_0 bt238.2 3 0 9).bind fun bt243 => (if y240.length + bt243.1.length < 17592186044416 then (some ((y240 ++ bt243.1), bt243.2)) else (none)))))) = some (r1, r2) := h
 clear h
 replace H := Option.bind_eq_some_iff.mp H
 obtain ⟨⟨t236, t237⟩, A20, H⟩ := H
 replace H : ((awardingbodymake_Tape_Next.f s0_0 t237 10).bind fun bt238 => ((some (([t236, bt238.1] : List Int) : List Int)).bind fun y240 => ((awardingbodymake_Tape_Ints.f k s0_0 bt238.2 3 0 9).bind fun bt243 => (if y240.length + bt243.1.length < 17592186044416 then (some ((y240 ++ bt243.1), bt243.2)) else (none))))) = some (r1, r2) := H
 have A2 := Aside0.mk A20
 clear A20
 replace H := Option.bind_eq_some_iff.mp H
 obtain ⟨⟨t238, t239⟩, A30, H⟩ := H
 replace H : ((some (([t236, t238] : List Int) : List Int)).bind fun y240 => ((awardingbodymake_Tape_Ints.f k s0_0 t239 3 0 9).bind fun bt243 => (if y240.length + bt243.1.length < 17592186044416 then (some ((y240 ++ bt243.1), bt243.2)) else (none)))) = some (r1, r2) := H
 have A3 := Aside0.mk A30
 clear A30
 obtain ⟨y240, hy240⟩ : ∃ y_ : List Int, y_ = (([t236, t238] : List Int)) := ⟨_, rfl⟩
 replace H : ((awardingbodymake_Tape_Ints.f k s0_0 t239 3 0 9).bind fun bt243 => (if y240.length + bt243.1.length < 17592186044416 then (some ((y240 ++ bt243.1), bt243.2)) else (none))) = some (r1, r2) := by first | (rw [hy240]; with_reducible exact H) | (have H2_ := (Option.bind_some _ _).symm.trans H; rw [hy240]; with_reducible exact H2_) | (have H2_ := (Option.bind_some _ _).symm.trans H; with_reducible exact H2_) | with_reducible exact H | (rw [hy240]; exact H) | exact H
 have Ny240 := Aside0.mk hy240
 clear hy240
 replace H := Option.bind_eq_some_iff.mp H
 obtain ⟨⟨t243, t246⟩, A40, H⟩ := H
 replace H : (if y240.length + t243.length < 17592186044416 then (some ((y240 ++ t243), t246)) else (none)) = some (r1, r2) := H
 have A4 := Aside0.mk A40
 clear A40
 by_cases c5 : y240.length + t243.length < 17592186044416
 ·rw [if_pos c5] at H
  have LMc5 := Aside0.mk c5
  clear c5
  obtain ⟨y247, hy247⟩ : ∃ y_ : List Int, y_ = (y240 ++ t243) := ⟨_, rfl⟩
  replace H : (some (y247, t246)) = some (r1, r2) := by first | (rw [hy247]; with_reducible exact H) | (have H2_ := (Option.bind_some _ _).symm.trans H; rw [hy247]; with_reducible exact H2_) | (have H2_ := (Option.bind_some _ _).symm.trans H; with_reducible exact H2_) | with_reducible exact H | (rw [hy247]; exact H) | exact H
  have Ny247 := Aside0.mk hy247
  clear hy247
  simp only [Option.some.injEq, Prod.mk.injEq] at H
  obtain ⟨rfl, rfl⟩ := H
  go_enter Try.func23, Try.ntmps23
  go_wp2_with (first | ((with_reducible refine gate_callee (f := 20) rfl ?_); refine goesL_ (some 5) rfl rfl Try.func20 (by kernel_rfl) rfl #[.pointer (some ⟨g, 0, none⟩), .int .i64 10] rfl (by (try simp only [List.map_toArray, List.map_cons, List.map_nil]); first | done | rfl | (simp only [List.length_drop, List.length_take]; rfl)) ?_; (with_reducible refine (awardingbodymake_Tape_Next.calls g s0_0 s0_1 10 t236 t237 w0 _ ?side1 ?side2 A2.out).mono ?_); (case side1 => repeat (first | (with_reducible first | exact HI0.out | apply IsS68.alloc | apply IsS68.drewN | apply IsS68.drew | apply IsS68.set_1) | exact HI0.out)); (case side2 => repeat (first | (with_reducible first | exact HB.out | apply below_alloc | apply pw_below_drewN | apply below_drew1 | refine below_set ?_ (IsS68.ge HI0.out)) | exact HB.out)); rintro e w6 ⟨rfl, hi, hb, hk⟩; refine ⟨_, rfl, ?_⟩; have n0_ := Aside0.mk (KeepBut.trans (by repeat (first | (with_reducible first | exact HK.out | apply KeepBut.set_ | apply keep_drewN | apply keep_drew | apply keep_alloc) | exact HK.out)) hk (.inl rfl)); have n1_ := Aside0.mk (hb); have n2_ := Aside0.mk (hi); clear HK; clear HB; clear HI0; have HK := n0_; have HB := n1_; have HI0 := n2_; clear n0_ n1_ n2_; (try clear hb); (try clear hb2); (try clear hk); (try clear hi)) | ((with_reducible refine gate_callee (f := 20) rfl ?_); refine goesL_ (some 7) rfl rfl Try.func20 (by kernel_rfl) rfl #[.pointer (some ⟨g, 0, none⟩), .int .i64 10] rfl (by (try simp only [List.map_toArray, List.map_cons, List.map_nil]); first | done | rfl | (simp only [List.length_drop, List.length_take]; rfl)) ?_; (with_reducible refine (awardingbodymake_Tape_Next.calls g s0_0 t237 10 t238 t239 w0 _ ?side1 ?side2 A3.out).mono ?_); (case side1 => repeat (first | (with_reducible first | exact HI0.out | apply IsS68.alloc | apply IsS68.drewN | apply IsS68.drew | apply IsS68.set_1) | exact HI0.out)); (case side2 => repeat (first | (with_reducible first | exact HB.out | apply below_alloc | apply pw_below_drewN | apply below_drew1 | refine below_set ?_ (IsS68.ge HI0.out)) | exact HB.out)); rintro e w7 ⟨rfl, hi, hb, hk⟩; refine ⟨_, rfl, ?_⟩; have n0_ := Aside0.mk (KeepBut.trans (by repeat (first | (with_reducible first | exact HK.out | apply KeepBut.set_ | apply keep_drewN | apply keep_drew | apply keep_alloc) | exact HK.out)) hk (.inl rfl)); have n1_ := Aside0.mk (hb); have n2_ := Aside0.mk (hi); clear HK; clear HB; clear HI0; have HK := n0_; have HB := n1_; have HI0 := n2_; clear n0_ n1_ n2_; (try clear hb); (try clear hb2); (try clear hk); (try clear hi)) | ((with_reducible refine gate_dst (N := 8) rfl ?_); refine Kd.R_lit (Kd.int .i64) _ 3 ?hg (N := 8) ?hd (xs := ([t236, t238] : List Int)) (inner := [.int .i64 t236, .int .i64 t238]) (ok := fun _ => True) (okp := fun _ => True) ?hr ?hp (fun _ hk => hk) trivial (Below.refl _ _) (Nat.le_refl _) (by simp) ?_; (case hd => rfl); (case hg => rfl); (case hr => first | (go_simp; done) | (go_simp; rfl)); (case hp => exact (Reps.one (show Kd.M (Kd.int .i64) _ _ _ t236 [.int .i64 t236] from rfl) (Reps.one (show Kd.M (Kd.int .i64) _ _ _ t238 [.int .i64 t238] from rfl) (Reps.none _ _)))); intro v241 w8 ho9 hb hg_ hnew_; clear hg_ hnew_; (first | rw [← Ny240.out] at ho9 | (simp only [Int.reduceToNat] at ho9; rw [← Ny240.out] at ho9)); have n0_ := Aside0.mk (Kd.R_lower ho9 (keep_size (w := w) (g := g) (row := none) (by repeat (first | (with_reducible first | exact HK.out | apply KeepBut.set_ | apply keep_drewN | apply keep_drew | apply keep_alloc) | exact HK.out)))); have n1_ := Aside0.mk (IsS68.below (by repeat (first | (with_reducible first | exact HI0.out | apply IsS68.alloc | apply IsS68.drewN | apply IsS68.drew | apply IsS68.set_1) | exact HI0.out)) hb); have n2_ := Aside0.mk (KeepBut.trans (by repeat (first | (with_reducible first | exact HK.out | apply KeepBut.set_ | apply keep_drewN | apply keep_drew | apply keep_alloc) | exact HK.out)) (KeepBut.of_below hb g none) (.inl rfl)); have n3_ := Aside0.mk (below_step (by repeat (first | (with_reducible first | exact HB.out | apply below_alloc | apply pw_below_drewN | apply below_drew1 | refine below_set ?_ (IsS68.ge HI0.out)) | exact HB.out)) hb); clear HI0; clear HK; clear HB; have HO242 := n0_; have HI0 := n1_; have HK := n2_; have HB := n3_; clear n0_ n1_ n2_ n3_; clear hb ho9) | ((with_reducible refine gate_callee (f := 17) rfl ?_); refine goesL_ (some 11) rfl rfl Try.func17 (by kernel_rfl) rfl #[.pointer (some ⟨g, 0, none⟩), .int .i64 3, .int .i64 0, .int .i64 9] rfl (by (try simp only [List.map_toArray, List.map_cons, List.map_nil]); first | done | rfl | (simp only [List.length_drop, List.length_take]; rfl)) ?_; (with_reducible refine (awardingbodymake_Tape_Ints.calls k g s0_0 t239 3 0 9 t243 t246 w0 _ ?side1 ?side2 A4.out).mono ?_); (case side1 => repeat (first | (with_reducible first | exact HI0.out | apply IsS68.alloc | apply IsS68.drewN | apply IsS68.drew | apply IsS68.set_1) | exact HI0.out)); (case side2 => repeat (first | (with_reducible first | exact HB.out | apply below_alloc | apply pw_below_drewN | apply below_drew1 | refine below_set ?_ (IsS68.ge HI0.out)) | exact HB.out)); rintro e w10 ⟨v244, rfl, ho0, hi, hb, hk⟩; refine ⟨_, rfl, ?_⟩; have n0_ := Aside0.mk (Kd.R_mono (Kd.R_told (Kd.R_oldK (IsS68.apart (show IsS68 w0 _ g s0_0 t239 from by repeat (first | (with_reducible first | exact HI0.out | apply IsS68.alloc | apply IsS68.drewN | apply IsS68.drew | apply IsS68.set_1) | exact HI0.out)) (by (with_reducible repeat (first | apply Kd.R_alloc | apply Kd.R_drewN | apply Kd.R_drew)); exact HO242.out) (by decide)) hk) (Kd.R_base ho0)) (fun _ h_ => h_.1)); have n1_ := Aside0.mk (Kd.R_lower (Kd.R_new' ho0 (Kd.R_lt (by (with_reducible repeat (first | apply Kd.R_alloc | apply Kd.R_drewN | apply Kd.R_drew)); exact HO242.out))) (keep_size (w := w) (g := g) (row := none) (by repeat (first | (with_reducible first | exact HK.out | apply KeepBut.set_ | apply keep_drewN | apply keep_drew | apply keep_alloc) | exact HK.out)))); have n2_ := Aside0.mk (KeepBut.trans (by repeat (first | (with_reducible first | exact HK.out | apply KeepBut.set_ | apply keep_drewN | apply keep_drew | apply keep_alloc) | exact HK.out)) hk (.inl rfl)); have n3_ := Aside0.mk (hb); have n4_ := Aside0.mk (hi); clear HO242; clear HK; clear HB; clear HI0; have HO242 := n0_; have HO245 := n1_; have HK := n2_; have HB := n3_; have HI0 := n4_; clear n0_ n1_ n2_ n3_ n4_; (try clear hb); (try clear hb2); (try clear hk); (try clear hi); (try clear ho0); obtain ⟨Ao12, co12, eo12⟩ := Kd.R_slice HO245.out; subst eo12) | ((with_reducible refine gate_builtin (b := .append) (xs := #[.tmp 9, .tmp 11]) rfl ?_); at_builtin; refine Kd.R_append_rows (Kd.int .i64) w.heap.size rfl (.tmp 9) (.tmp 11) 28 3 (.int .i64 0) 8 rfl Try.underlying28 info3 rfl (by decide) (by omega) v241 y240 t243 _ _ _ (fun k_ => some k_ ≠ (.slice Ao12 t243.length co12 : Value).ownBlock) (fun _ => False) rfl rfl ?aO ?aR (fun _ _ h => h) (fun _ h => h.elim) ?aF (Below.refl _ _) ?aS ?aL ?_; (case aR => repeat (first | exact (Kd.R_reads' HO245.out).2.2 | (with_reducible refine Kd.C_alloc ?_ _) | (with_reducible refine Kd.C_drewN ?_ _) | (with_reducible refine Kd.C_drew ?_))); (case aF => exact (fun k_ hk => Kd.fresh' (Kd.R_lt (by (with_reducible repeat (first | apply Kd.R_alloc | apply Kd.R_drewN | apply Kd.R_drew)); exact HO245.out)) k_ hk)); (case aO => exact (by (with_reducible repeat (first | apply Kd.R_alloc | apply Kd.R_drewN | apply Kd.R_drew)); exact Kd.R_mono HO242.out (fun _ hk => hk.2))); (case aS => exact (keep_size (w := w) (g := g) (row := none) (by repeat (first | (with_reducible first | exact HK.out | apply KeepBut.set_ | apply keep_drewN | apply keep_drew | apply keep_alloc) | exact HK.out)))); (case aL => have := LMc5.out; omega); intro v248 w11 ho hb hg hat; rw [← Ny247.out] at ho; have n0_ := Aside0.mk (IsS68.grown (by repeat (first | (with_reducible first | exact HI0.out | apply IsS68.alloc | apply IsS68.drewN | apply IsS68.drew | apply IsS68.set_1) | exact HI0.out)) hg (IsS68.own_ne HI0.out HO242.out (by decide))); have n1_ := Aside0.mk (Kd.R_after (ok := (fun _ => True)) (by (with_reducible repeat (first | apply Kd.R_alloc | apply Kd.R_drewN | apply Kd.R_drew)); exact HO245.out) hg hat); have n2_ := Aside0.mk (below_weaken (by repeat (first | (with_reducible first | exact HB.out | apply below_alloc | apply pw_below_drewN | apply below_drew1 | refine below_set ?_ (IsS68.ge HI0.out)) | exact HB.out)) HL.out hb); have n3_ := Aside0.mk (KeepBut.trans (by repeat (first | (with_reducible first | exact HK.out | apply KeepBut.set_ | apply keep_drewN | apply keep_drew | apply keep_alloc) | exact HK.out)) (KeepBut.of_grown hg g) (Kd.R_base2 HO242.out)); have n4_ := Aside0.mk (ho); clear HI0; clear HO245; clear HB; clear HK; clear HO242; have HI0 := n0_; have HO245 := n1_; have HB := n2_; have HK := n3_; have HO249 := n4_; clear n0_ n1_ n2_ n3_ n4_; clear ho hb hg hat))
  go_ret
  exact ⟨_, by first | rfl | (simp [errW_none, errW_some] <;> rfl) | (simp [*, errW_none, errW_some] <;> rfl), by (with_reducible repeat (first | apply Kd.R_alloc | apply Kd.R_drewN | apply Kd.R_drew)); exact Kd.R_mono HO249.out (fun _ hk => trivial), by repeat (first | (with_reducible first | exact HI0.out | apply IsS68.alloc | apply IsS68.drewN | apply IsS68.drew | apply IsS68.set_1) | exact HI0.out), by repeat (first | (with_reducible first | exact HB.out | apply below_alloc | apply pw_below_drewN | apply below_drew1 | refine below_set ?_ (IsS68.ge HI0.out)) | exact HB.out), by repeat (first | (with_reducible first | exact HK.out | apply KeepBut.set_ | apply keep_drewN | apply keep_drew | apply keep_alloc) | exact HK.out)⟩
 ·rw [if_neg c5] at H
  exact absurd H (by simp)

/-! ### awardingbodymake_Tape_Order: function 24 -/
def awardingbodymake_Tape_Order.l0 : Nat → Int → List Int → Int → List Int → Int → Option (List Int × Int)
  | 0, _, _, _, _, _ => none
  | k + 1, x1, x5, x6, x1000, x1001 => if x6 < x1 then ((awardingbodymake_Tape_Next.f x1000 x1001 (wrap64 (x6 + 1))).bind fun bt250 => (if 0 ≤ bt250.1 then (if bt250.1 ≤ (x5.length : Int) then ((some (x5.take (bt250.1 : Int).toNat : List Int)).bind fun y252 => (if ([] : List Int).length + y252.length < 17592186044416 then ((some (([] : List Int) ++ y252 : List Int)).bind fun y256 => (if y256.length < 17592186044416 then ((some (y256 ++ [x6] : List Int)).bind fun y259 => ((some (x5.drop (bt250.1 : Int).toNat : List Int)).bind fun y262 => (if y259.length + y262.length < 17592186044416 then (awardingbodymake_Tape_Order.l0 k x1 (y259 ++ y262) (wrap64 (x6 + 1)) x1000 bt250.2) else (none)))) else (none))) else (none))) else (none)) else (none))) else (some (x5, x1001))
def awardingbodymake_Tape_Order.f (k : Nat) (s0_0 : List Int) (s0_1 : Int) (a1 : Int) : Option (List Int × Int) := awardingbodymake_Tape_Order.l0 k a1 ([] : List Int) 0 s0_0 s0_1
theorem awardingbodymake_Tape_Order.mono_l : ∀ k, (∀ y0 y1 y2 y3 y4, LeO (awardingbodymake_Tape_Order.l0 k y0 y1 y2 y3 y4) (awardingbodymake_Tape_Order.l0 (k + 1) y0 y1 y2 y3 y4))
  | 0 => fun _ _ _ _ _ r h => by simp [awardingbodymake_Tape_Order.l0] at h
  | k + 1 => by
    have ih0 := awardingbodymake_Tape_Order.mono_l k
    · intro y0 y1 y2 y3 y4
      unfold awardingbodymake_Tape_Order.l0
      repeat' first
      | (with_reducible exact ih0 _ _ _ _ _)
      | (with_reducible exact LeO.refl _)
      | (with_reducible exact LeO.none _)
      | (with_reducible refine LeO.ite ?_ ?_)
      | (with_reducible refine LeO.bind ?_ (fun _ => ?_))
      | exact ih0 _ _ _ _ _
      | exact LeO.none _
      | refine LeO.ite ?_ ?_
      | refine LeO.bind ?_ (fun _ => ?_)
theorem awardingbodymake_Tape_Order.mono : ∀ a0 a1 a2 k, LeO (awardingbodymake_Tape_Order.f k a0 a1 a2) (awardingbodymake_Tape_Order.f (k + 1) a0 a1 a2) := by
  intro a0 a1 a2 k
  have ih0 := awardingbodymake_Tape_Order.mono_l k
  unfold awardingbodymake_Tape_Order.f
  repeat' first
      | (with_reducible exact ih0 _ _ _ _ _)
      | (with_reducible exact LeO.refl _)
      | (with_reducible exact LeO.none _)
      | (with_reducible refine LeO.ite ?_ ?_)
      | (with_reducible refine LeO.bind ?_ (fun _ => ?_))
      | exact ih0 _ _ _ _ _
      | exact LeO.none _
      | refine LeO.ite ?_ ?_
      | refine LeO.bind ?_ (fun _ => ?_)
set_option maxHeartbeats 8000000 in
set_option maxRecDepth 100000 in
theorem awardingbodymake_Tape_Order.calls (k : Nat) (g : Nat) (s0_0 : List Int) (s0_1 : Int) (a1 : Int) (r1 : List Int) (r2 : Int) (w0 w : World) (hI : IsS68 w0 w g s0_0 s0_1) (hB : Below w0.heap.size w0 w) (h : awardingbodymake_Tape_Order.f k s0_0 s0_1 a1 = some (r1, r2)) :
    Calls Try.prog 24 #[.pointer (some ⟨g, 0, none⟩), .int .i64 a1] w fun e w' => ∃ v0_ : Value, e = .returned (v0_) ∧ Kd.R (Kd.int .i64) 3 w' w.heap.size (fun _ => True) v0_ r1 ∧ IsS68 w0 w' g s0_0 r2 ∧ Below w0.heap.size w0 w' ∧ KeepBut w w' g none := by
 have HI0 := Aside0.mk hI
 have HK := Aside0.mk (KeepBut.refl w g none)
 have HL := Aside0.mk hB.size
 clear hI
 have HW0 := Aside0.mk hB.size
 have HB := Aside0.mk hB
 clear hB
 have H : (awardingbodymake_Tape_Order.l0 k a1 ([] : List Int) 0 s0_0 s0_1) = some (r1, r2) := h
 clear h
 have H' := Aside0.mk H
 clear H
 go_enter Try.func24, Try.ntmps24
 go_wp2
 go_loopg [5, 6] k (fun kq v5 v6 w' => ∃ (x5_1 : List Int) (x6_1 : Int) (x1001_1 : Int), v6 = .int .i64 x6_1 ∧ Aside0 (awardingbodymake_Tape_Order.l0 kq a1 x5_1 x6_1 s0_0 x1001_1 = some (r1, r2)) ∧ Aside0 (kq ≤ k) ∧ Aside0 (Kd.R (Kd.int .i64) 3 w' w.heap.size (fun _ => True) v5 x5_1) ∧ Aside0 (IsS68 w0 w' g s0_0 x1001_1) ∧ Aside0 (KeepBut w w' g none) ∧ Aside0 (Below w0.heap.size w0 w'))
 case atStart => exact ⟨(([] : List Int)), (0), (s0_1), (by first | rfl | (simp; done) | (simp [*]; done)), H', ⟨Nat.le_refl _⟩, ⟨by first | exact Kd.R_nil _ _ _ _ _ | exact Kd.N_nil _ _ _ _ _ | exact Kd.V_nil _ _ _ _ _ | exact Kd.Q_nil _ _ _ _ _ | exact Kd.S_nil _ _ _ _ _⟩, ⟨by repeat (first | (with_reducible first | exact HI0.out | apply IsS68.alloc | apply IsS68.drewN | apply IsS68.drew | apply IsS68.set_1) | exact HI0.out)⟩, ⟨by repeat (first | (with_reducible first | exact HK.out | apply KeepBut.set_ | apply keep_drewN | apply keep_drew | apply keep_alloc) | exact HK.out)⟩, ⟨by repeat (first | (with_reducible first | exact HB.out | apply below_alloc | apply pw_below_drewN | apply below_drew1 | refine below_set ?_ (IsS68.ge HI0.out)) | exact HB.out)⟩⟩
 case round =>
  clear H'
  try clear c2
  try clear p2
  obtain ⟨x5_1, x6_1, x1001_1, rfl, HA, HK1, HO_5, HI0, HK, HB⟩ := hrel
  cases gk with
  | zero => exact absurd HA.out (by simp [awardingbodymake_Tape_Order.l0])
  | succ k1 =>
   have H := HA.out
   clear HA
   simp only [awardingbodymake_Tape_Order.l0] at H
   by_cases c3 : x6_1 < a1
   ·rw [if_pos c3] at H
    have c3b0 : decide (x6_1 < a1) = true := decide_eq_true c3
    clear c3
    replace H := Option.bind_eq_some_iff.mp H
    obtain ⟨⟨t250, t251⟩, A40, H⟩ := H
    replace H : (if 0 ≤ t250 then (if t250 ≤ (x5_1.length : Int) then ((some (x5_1.take (t250 : Int).toNat : List Int)).bind fun y252 => (if ([] : List Int).length + y252.length < 17592186044416 then ((some (([] : List Int) ++ y252 : List Int)).bind fun y256 => (if y256.length < 17592186044416 then ((some (y256 ++ [x6_1] : List Int)).bind fun y259 => ((some (x5_1.drop (t250 : Int).toNat : List Int)).bind fun y262 => (if y259.length + y262.length < 17592186044416 then (awardingbodymake_Tape_Order.l0 k1 a1 (y259 ++ y262) (wrap64 (x6_1 + 1)) s0_0 t251) else (none)))) else (none))) else (none))) else (none)) else (none)) = some (r1, r2) := H
    have A4 := Aside0.mk A40
    clear A40
    by_cases c5 : 0 ≤ t250
    ·rw [if_pos c5] at H
     have c5b0 := eq_true c5
     have c5b1 : decide (0 ≤ t250) = true := decide_eq_true c5
     clear c5
     by_cases c6 : t250 ≤ (x5_1.length : Int)
     ·rw [if_pos c6] at H
      have c6b0 := eq_true c6
      have c6b1 : decide (t250 ≤ (x5_1.length : Int)) = true := decide_eq_true c6
      clear c6
      obtain ⟨y252, hy252⟩ : ∃ y_ : List Int, y_ = (x5_1.take (t250 : Int).toNat) := ⟨_, rfl⟩
      replace H : (if ([] : List Int).length + y252.length < 17592186044416 then ((some (([] : List Int) ++ y252 : List Int)).bind fun y256 => (if y256.length < 17592186044416 then ((some (y256 ++ [x6_1] : List Int)).bind fun y259 => ((some (x5_1.drop (t250 : Int).toNat : List Int)).bind fun y262 => (if y259.length + y262.length < 17592186044416 then (awardingbodymake_Tape_Order.l0 k1 a1 (y259 ++ y262) (wrap64 (x6_1 + 1)) s0_0 t251) else (none)))) else (none))) else (none)) = some (r1, r2) := by first | (rw [hy252]; with_reducible exact H) | (have H2_ := (Option.bind_some _ _).symm.trans H; rw [hy252]; with_reducible exact H2_) | (have H2_ := (Option.bind_some _ _).symm.trans H; with_reducible exact H2_) | with_reducible exact H | (rw [hy252]; exact H) | exact H
      have Ny252 := Aside0.mk hy252
      clear hy252
      by_cases c7 : ([] : List Int).length + y252.length < 17592186044416
      ·rw [if_pos c7] at H
       have LMc7 := Aside0.mk c7
       clear c7
       obtain ⟨y256, hy256⟩ : ∃ y_ : List Int, y_ = (([] : List Int) ++ y252) := ⟨_, rfl⟩
       replace H : (if y256.length < 17592186044416 then ((some (y256 ++ [x6_1] : List Int)).bind fun y259 => ((some (x5_1.drop (t250 : Int).toNat : List Int)).bind fun y262 => (if y259.length + y262.length < 17592186044416 then (awardingbodymake_Tape_Order.l0 k1 a1 (y259 ++ y262) (wrap64 (x6_1 + 1)) s0_0 t251) else (none)))) else (none)) = some (r1, r2) := by first | (rw [hy256]; with_reducible exact H) | (have H2_ := (Option.bind_some _ _).symm.trans H; rw [hy256]; with_reducible exact H2_) | (have H2_ := (Option.bind_some _ _).symm.trans H; with_reducible exact H2_) | with_reducible exact H | (rw [hy256]; exact H) | exact H
       have Ny256 := Aside0.mk hy256
       clear hy256
       by_cases c8 : y256.length < 17592186044416
       ·rw [if_pos c8] at H
        have LMc8 := Aside0.mk c8
        clear c8
        obtain ⟨y259, hy259⟩ : ∃ y_ : List Int, y_ = (y256 ++ [x6_1]) := ⟨_, rfl⟩
        replace H : ((some (x5_1.drop (t250 : Int).toNat : List Int)).bind fun y262 => (if y259.length + y262.length < 17592186044416 then (awardingbodymake_Tape_Order.l0 k1 a1 (y259 ++ y262) (wrap64 (x6_1 + 1)) s0_0 t251) else (none))) = some (r1, r2) := by first | (rw [hy259]; with_reducible exact H) | (have H2_ := (Option.bind_some _ _).symm.trans H; rw [hy259]; with_reducible exact H2_) | (have H2_ := (Option.bind_some _ _).symm.trans H; with_reducible exact H2_) | with_reducible exact H | (rw [hy259]; exact H) | exact H
        have Ny259 := Aside0.mk hy259
        clear hy259
        have c9b0 := eq_true (of_decide_eq_true (by first | (with_reducible assumption) | assumption) : 0 ≤ t250)
        have c10b0 := eq_true (of_decide_eq_true (by first | (with_reducible assumption) | assumption) : t250 ≤ (x5_1.length : Int))
        obtain ⟨y262, hy262⟩ : ∃ y_ : List Int, y_ = (x5_1.drop (t250 : Int).toNat) := ⟨_, rfl⟩
        replace H : (if y259.length + y262.length < 17592186044416 then (awardingbodymake_Tape_Order.l0 k1 a1 (y259 ++ y262) (wrap64 (x6_1 + 1)) s0_0 t251) else (none)) = some (r1, r2) := by first | (rw [hy262]; with_reducible exact H) | (have H2_ := (Option.bind_some _ _).symm.trans H; rw [hy262]; with_reducible exact H2_) | (have H2_ := (Option.bind_some _ _).symm.trans H; with_reducible exact H2_) | with_reducible exact H | (rw [hy262]; exact H) | exact H
        have Ny262 := Aside0.mk hy262
        clear hy262
        by_cases c11 : y259.length + y262.length < 17592186044416
        ·rw [if_pos c11] at H
         have LMc11 := Aside0.mk c11
         clear c11
         obtain ⟨y266, hy266⟩ : ∃ y_ : List Int, y_ = (y259 ++ y262) := ⟨_, rfl⟩
         replace H : (awardingbodymake_Tape_Order.l0 k1 a1 y266 (wrap64 (x6_1 + 1)) s0_0 t251) = some (r1, r2) := by first | (rw [hy266]; with_reducible exact H) | (have H2_ := (Option.bind_some _ _).symm.trans H; rw [hy266]; with_reducible exact H2_) | (have H2_ := (Option.bind_some _ _).symm.trans H; with_reducible exact H2_) | with_reducible exact H | (rw [hy266]; exact H) | exact H
         have Ny266 := Aside0.mk hy266
         clear hy266
         have H' := Aside0.mk H
         clear H
         go_wp2_with (first | ((with_reducible refine gate_callee (f := 20) rfl ?_); refine goesL_ (some 17) rfl rfl Try.func20 (by kernel_rfl) rfl #[.pointer (some ⟨g, 0, none⟩), .int .i64 (wrap64 (x6_1 + 1))] rfl (by (try simp only [List.map_toArray, List.map_cons, List.map_nil]); first | done | rfl | (simp only [List.length_drop, List.length_take]; rfl)) ?_; (with_reducible refine (awardingbodymake_Tape_Next.calls g s0_0 x1001_1 (wrap64 (x6_1 + 1)) t250 t251 w0 _ ?side1 ?side2 A4.out).mono ?_); (case side1 => repeat (first | (with_reducible first | exact HI0.out | apply IsS68.alloc | apply IsS68.drewN | apply IsS68.drew | apply IsS68.set_1) | exact HI0.out)); (case side2 => repeat (first | (with_reducible first | exact HB.out | apply below_alloc | apply pw_below_drewN | apply below_drew1 | refine below_set ?_ (IsS68.ge HI0.out)) | exact HB.out)); rintro e w12 ⟨rfl, hi, hb, hk⟩; refine ⟨_, rfl, ?_⟩; have n0_ := Aside0.mk (Kd.R_mono (Kd.R_keep (IsS68.apart (show IsS68 w0 _ g s0_0 x1001_1 from by repeat (first | (with_reducible first | exact HI0.out | apply IsS68.alloc | apply IsS68.drewN | apply IsS68.drew | apply IsS68.set_1) | exact HI0.out)) (by (with_reducible repeat (first | apply Kd.R_alloc | apply Kd.R_drewN | apply Kd.R_drew)); exact HO_5.out) (by decide)) hk (fun _ h => h.2)) (fun _ h => h.1)); have n1_ := Aside0.mk (KeepBut.trans (by repeat (first | (with_reducible first | exact HK.out | apply KeepBut.set_ | apply keep_drewN | apply keep_drew | apply keep_alloc) | exact HK.out)) hk (.inl rfl)); have n2_ := Aside0.mk (hb); have n3_ := Aside0.mk (hi); clear HO_5; clear HK; clear HB; clear HI0; have HO_5 := n0_; have HK := n1_; have HB := n2_; have HI0 := n3_; clear n0_ n1_ n2_ n3_; (try clear hb); (try clear hb2); (try clear hk); (try clear hi); obtain ⟨Ao14, co14, eo14⟩ := Kd.R_slice HO_5.out; subst eo14; have q13 : (t250 : Int) ≤ ((x5_1.length : Int) : Int) := of_decide_eq_true (by first | (with_reducible assumption) | assumption); obtain ⟨i013, hi013, _, hsz13, _⟩ := info_parts info3; have hroom13 : x5_1.length ≤ co14 := (Kd.R_reads' HO_5.out).2.1; have hC13 : Kd.C (Kd.int .i64) _ Ao14 x5_1.length x5_1 := (Kd.R_reads' HO_5.out).2.2; have hcut13 := cut_to (P := Try.prog) 28 3 .i64 Try.underlying28 hi013 Ao14 x5_1.length co14 t250 (of_decide_eq_true (by first | (with_reducible assumption) | assumption)) q13 hroom13; have hr13 := Kd.C_take (m := (t250 : Int).toNat) hC13 (by omega); have hy13 : y252.length = (t250 : Int).toNat := (by rw [Ny252.out, List.length_take]; omega); rw [← Ny252.out] at hr13; rw [← hy13] at hcut13; have HR255 := Aside0.mk hr13; have HC255 := Aside0.mk (show y252.length ≤ co14 from by omega); clear hr13 hC13 hroom13 hi013 hsz13; have KY13 := Aside0.mk hy13; clear hy13; have KL13 := Aside0.mk (show (t250 : Int).toNat ≤ x5_1.length from by omega); replace q13 := eq_true q13) | ((with_reducible refine gate_builtin (b := .append) (xs := #[.tmp 18, .tmp 21]) rfl ?_); at_builtin; refine Kd.R_append_rows (Kd.int .i64) w.heap.size rfl (.tmp 18) (.tmp 21) 28 3 (.int .i64 0) 8 rfl Try.underlying28 info3 rfl (by decide) (by omega) (.slice none 0 0) ([] : List Int) y252 _ _ _ (fun k_ => some k_ ≠ (.slice Ao14 x5_1.length co14 : Value).ownBlock) (fun _ => False) rfl rfl ?aO ?aR (fun _ _ h => h) (fun _ h => h.elim) ?aF (Below.refl _ _) ?aS ?aL ?_; (case aR => repeat (first | exact (by repeat (first | (with_reducible exact HR255.out) | (with_reducible refine Kd.C_alloc ?_ _) | (with_reducible refine Kd.C_drewN ?_ _) | (with_reducible refine Kd.C_drew ?_) | exact HR255.out)) | (with_reducible refine Kd.C_alloc ?_ _) | (with_reducible refine Kd.C_drewN ?_ _) | (with_reducible refine Kd.C_drew ?_))); (case aF => exact (fun k_ hk => Kd.fresh' (Kd.R_lt (by (with_reducible repeat (first | apply Kd.R_alloc | apply Kd.R_drewN | apply Kd.R_drew)); exact HO_5.out)) k_ hk)); (case aO => exact ((Kd.R_nil _ _ _ _ (fun k_ => some k_ ≠ (.slice Ao14 x5_1.length co14 : Value).ownBlock)))); (case aS => exact (keep_size (w := w) (g := g) (row := none) (by repeat (first | (with_reducible first | exact HK.out | apply KeepBut.set_ | apply keep_drewN | apply keep_drew | apply keep_alloc) | exact HK.out)))); (case aL => have := LMc7.out; omega); intro v257 w15 ho hb hg hat; rw [← Ny256.out] at ho; have n0_ := Aside0.mk (Kd.R_after (Kd.R_apart_nil (by (with_reducible repeat (first | apply Kd.R_alloc | apply Kd.R_drewN | apply Kd.R_drew)); exact HO_5.out)) hg hat); have n1_ := Aside0.mk (IsS68.grown (by repeat (first | (with_reducible first | exact HI0.out | apply IsS68.alloc | apply IsS68.drewN | apply IsS68.drew | apply IsS68.set_1) | exact HI0.out)) hg (by simp [Value.ownBlock])); have n2_ := Aside0.mk (below_weaken (by repeat (first | (with_reducible first | exact HB.out | apply below_alloc | apply pw_below_drewN | apply below_drew1 | refine below_set ?_ (IsS68.ge HI0.out)) | exact HB.out)) HL.out hb); have n3_ := Aside0.mk (KeepBut.trans (by repeat (first | (with_reducible first | exact HK.out | apply KeepBut.set_ | apply keep_drewN | apply keep_drew | apply keep_alloc) | exact HK.out)) (KeepBut.of_grown hg g) (.inl (by simp [Value.ownBlock]))); have n4_ := Aside0.mk ((show Kd.C (Kd.int .i64) w15 Ao14 y252.length y252 from by rw [Ny252.out]; exact Kd.C_take (m := (t250 : Int).toNat) ((Kd.R_reads' (Kd.R_after (Kd.R_apart_nil (by (with_reducible repeat (first | apply Kd.R_alloc | apply Kd.R_drewN | apply Kd.R_drew)); exact HO_5.out)) hg hat)).2.2) KL13.out)); have n5_ := Aside0.mk (ho); clear HO_5; clear HI0; clear HB; clear HK; clear HR255; have HO_5 := n0_; have HI0 := n1_; have HB := n2_; have HK := n3_; have HR255 := n4_; have HO258 := n5_; clear n0_ n1_ n2_ n3_ n4_ n5_; clear ho hb hg hat) | ((with_reducible refine gate_builtin (b := .append) (xs := #[.tmp 23, .tmp 25]) rfl ?_); at_builtin; refine Kd.R_append (Kd.int .i64) w.heap.size rfl (.tmp 23) (.tmp 25) 28 3 (.int .i64 0) 8 rfl Try.underlying28 info3 rfl (by decide) (by omega) v257 y256 x6_1 [.int .i64 x6_1] (fun k_ => some k_ ≠ (.slice Ao14 x5_1.length co14 : Value).ownBlock) (fun _ => False) rfl rfl ?aP (fun _ hk => hk.elim) ?aF ?aO (Below.refl _ _) ?aS ?aL ?_; (case aP => exact rfl); (case aF => exact (fun k_ hk => Kd.fresh' (Kd.R_lt (by (with_reducible repeat (first | apply Kd.R_alloc | apply Kd.R_drewN | apply Kd.R_drew)); exact HO_5.out)) k_ hk)); (case aO => exact (by (with_reducible repeat (first | apply Kd.R_alloc | apply Kd.R_drewN | apply Kd.R_drew)); exact HO258.out)); (case aS => exact (keep_size (w := w) (g := g) (row := none) (by repeat (first | (with_reducible first | exact HK.out | apply KeepBut.set_ | apply keep_drewN | apply keep_drew | apply keep_alloc) | exact HK.out)))); (case aL => have := LMc8.out; omega); intro v260 w16 ho hb hg hat; rw [← Ny259.out] at ho; have n0_ := Aside0.mk (Kd.R_after (ok := (fun _ => True)) (by (with_reducible repeat (first | apply Kd.R_alloc | apply Kd.R_drewN | apply Kd.R_drew)); exact HO_5.out) hg hat); have n1_ := Aside0.mk (IsS68.grown (by repeat (first | (with_reducible first | exact HI0.out | apply IsS68.alloc | apply IsS68.drewN | apply IsS68.drew | apply IsS68.set_1) | exact HI0.out)) hg (IsS68.own_ne HI0.out HO258.out (by decide))); have n2_ := Aside0.mk (below_weaken (by repeat (first | (with_reducible first | exact HB.out | apply below_alloc | apply pw_below_drewN | apply below_drew1 | refine below_set ?_ (IsS68.ge HI0.out)) | exact HB.out)) HL.out hb); have n3_ := Aside0.mk (KeepBut.trans (by repeat (first | (with_reducible first | exact HK.out | apply KeepBut.set_ | apply keep_drewN | apply keep_drew | apply keep_alloc) | exact HK.out)) (KeepBut.of_grown hg g) (Kd.R_base2 HO258.out)); have n4_ := Aside0.mk ((show Kd.C (Kd.int .i64) w16 Ao14 y252.length y252 from by rw [Ny252.out]; exact Kd.C_take (m := (t250 : Int).toNat) ((Kd.R_reads' (Kd.R_after (ok := (fun _ => True)) (by (with_reducible repeat (first | apply Kd.R_alloc | apply Kd.R_drewN | apply Kd.R_drew)); exact HO_5.out) hg hat)).2.2) KL13.out)); have n5_ := Aside0.mk (ho); clear HO_5; clear HI0; clear HB; clear HK; clear HR255; clear HO258; have HO_5 := n0_; have HI0 := n1_; have HB := n2_; have HK := n3_; have HR255 := n4_; have HO261 := n5_; clear n0_ n1_ n2_ n3_ n4_ n5_; clear ho hb hg hat; have q17 : (t250 : Int) ≤ ((x5_1.length : Int) : Int) := of_decide_eq_true (by first | (with_reducible assumption) | assumption); obtain ⟨i017, hi017, _, hsz17, _⟩ := info_parts info3; have hroom17 : x5_1.length ≤ co14 := (Kd.R_reads' HO_5.out).2.1; have hC17 : Kd.C (Kd.int .i64) _ Ao14 x5_1.length x5_1 := (Kd.R_reads' HO_5.out).2.2; have q017 : (0 : Int) ≤ (t250 : Int) := of_decide_eq_true (by first | (with_reducible assumption) | assumption); have hcut17 := cut_from (P := Try.prog) 28 3 .i64 Try.underlying28 hi017 1 hsz17 Ao14 x5_1.length co14 t250 q017 q17; have hr17 := Kd.C_drop (m := (t250 : Int).toNat) (c := co14) hC17 (by omega) hroom17; obtain ⟨A17, hA17⟩ : ∃ A1, A1 = (if co14 = (t250 : Int).toNat then Ao14 else (Ao14 : Option Addr).map (·.add ((t250 : Int).toNat * 1))) := ⟨_, rfl⟩; obtain ⟨c17, hc17⟩ : ∃ c1, c1 = co14 - (t250 : Int).toNat := ⟨_, rfl⟩; have hy17 : y262.length = x5_1.length - (t250 : Int).toNat := (by rw [Ny262.out, List.length_drop] <;> omega); rw [show (x5_1).drop (t250 : Int).toNat = y262 from Ny262.out.symm] at hr17; replace hr17 : Kd.C (Kd.int .i64) _ A17 y262.length y262 := (by rw [hA17]; exact hr17); rw [← hy17, ← hA17, ← hc17] at hcut17; have HR265 := Aside0.mk hr17; have HC265 := Aside0.mk (show y262.length ≤ c17 from by rw [hy17, hc17]; exact Nat.sub_le_sub_right hroom17 _); clear hr17 hC17 hroom17 hi017 hsz17 hc17; have KY17 := Aside0.mk hy17; have KA17 := Aside0.mk hA17; clear hy17 hA17; have KL17 := Aside0.mk (show (t250 : Int).toNat ≤ x5_1.length from by omega); replace q17 := eq_true q17) | ((with_reducible refine gate_builtin (b := .append) (xs := #[.tmp 27, .tmp 30]) rfl ?_); at_builtin; refine Kd.R_append_rows (Kd.int .i64) w.heap.size rfl (.tmp 27) (.tmp 30) 28 3 (.int .i64 0) 8 rfl Try.underlying28 info3 rfl (by decide) (by omega) v260 y259 y262 _ _ _ (fun k_ => some k_ ≠ (.slice Ao14 x5_1.length co14 : Value).ownBlock) (fun _ => False) rfl rfl ?aO ?aR (fun _ _ h => h) (fun _ h => h.elim) ?aF (Below.refl _ _) ?aS ?aL ?_; (case aR => repeat (first | exact (by repeat (first | (with_reducible exact HR265.out) | (with_reducible refine Kd.C_alloc ?_ _) | (with_reducible refine Kd.C_drewN ?_ _) | (with_reducible refine Kd.C_drew ?_) | exact HR265.out)) | (with_reducible refine Kd.C_alloc ?_ _) | (with_reducible refine Kd.C_drewN ?_ _) | (with_reducible refine Kd.C_drew ?_))); (case aF => exact (fun k_ hk => Kd.fresh' (Kd.R_lt (by (with_reducible repeat (first | apply Kd.R_alloc | apply Kd.R_drewN | apply Kd.R_drew)); exact HO_5.out)) k_ hk)); (case aO => exact (by (with_reducible repeat (first | apply Kd.R_alloc | apply Kd.R_drewN | apply Kd.R_drew)); exact HO261.out)); (case aS => exact (keep_size (w := w) (g := g) (row := none) (by repeat (first | (with_reducible first | exact HK.out | apply KeepBut.set_ | apply keep_drewN | apply keep_drew | apply keep_alloc) | exact HK.out)))); (case aL => have := LMc11.out; omega); intro v267 w18 ho hb hg hat; rw [← Ny266.out] at ho; have n0_ := Aside0.mk (Kd.R_after (ok := (fun _ => True)) (by (with_reducible repeat (first | apply Kd.R_alloc | apply Kd.R_drewN | apply Kd.R_drew)); exact HO_5.out) hg hat); have n1_ := Aside0.mk (IsS68.grown (by repeat (first | (with_reducible first | exact HI0.out | apply IsS68.alloc | apply IsS68.drewN | apply IsS68.drew | apply IsS68.set_1) | exact HI0.out)) hg (IsS68.own_ne HI0.out HO261.out (by decide))); have n2_ := Aside0.mk (below_weaken (by repeat (first | (with_reducible first | exact HB.out | apply below_alloc | apply pw_below_drewN | apply below_drew1 | refine below_set ?_ (IsS68.ge HI0.out)) | exact HB.out)) HL.out hb); have n3_ := Aside0.mk (KeepBut.trans (by repeat (first | (with_reducible first | exact HK.out | apply KeepBut.set_ | apply keep_drewN | apply keep_drew | apply keep_alloc) | exact HK.out)) (KeepBut.of_grown hg g) (Kd.R_base2 HO261.out)); have n4_ := Aside0.mk ((show Kd.C (Kd.int .i64) w18 Ao14 y252.length y252 from by rw [Ny252.out]; exact Kd.C_take (m := (t250 : Int).toNat) ((Kd.R_reads' (Kd.R_after (ok := (fun _ => True)) (by (with_reducible repeat (first | apply Kd.R_alloc | apply Kd.R_drewN | apply Kd.R_drew)); exact HO_5.out) hg hat)).2.2) KL13.out)); have n5_ := Aside0.mk ((show Kd.C (Kd.int .i64) w18 A17 y262.length y262 from by rw [Ny262.out, KA17.out]; exact Kd.C_drop (m := (t250 : Int).toNat) (c := co14) ((Kd.R_reads' (Kd.R_after (ok := (fun _ => True)) (by (with_reducible repeat (first | apply Kd.R_alloc | apply Kd.R_drewN | apply Kd.R_drew)); exact HO_5.out) hg hat)).2.2) KL17.out ((Kd.R_reads' (Kd.R_after (ok := (fun _ => True)) (by (with_reducible repeat (first | apply Kd.R_alloc | apply Kd.R_drewN | apply Kd.R_drew)); exact HO_5.out) hg hat)).2.1))); have n6_ := Aside0.mk (ho); clear HO_5; clear HI0; clear HB; clear HK; clear HR255; clear HR265; clear HO261; have HO_5 := n0_; have HI0 := n1_; have HB := n2_; have HK := n3_; have HR255 := n4_; have HR265 := n5_; have HO268 := n6_; clear n0_ n1_ n2_ n3_ n4_ n5_ n6_; clear ho hb hg hat))
         go_roundg k1
         case measure => have := HK1.out; omega
         case rel => exact ⟨(y266), (wrap64 (x6_1 + 1)), (t251), (by first | rfl | (simp; done) | (simp [*]; done)), H', ⟨by have := HK1.out; omega⟩, ⟨by (with_reducible repeat (first | apply Kd.R_alloc | apply Kd.R_drewN | apply Kd.R_drew)); exact Kd.R_mono HO268.out (fun _ hk => trivial)⟩, ⟨by repeat (first | (with_reducible first | exact HI0.out | apply IsS68.alloc | apply IsS68.drewN | apply IsS68.drew | apply IsS68.set_1) | exact HI0.out)⟩, ⟨by repeat (first | (with_reducible first | exact HK.out | apply KeepBut.set_ | apply keep_drewN | apply keep_drew | apply keep_alloc) | exact HK.out)⟩, ⟨by repeat (first | (with_reducible first | exact HB.out | apply below_alloc | apply pw_below_drewN | apply below_drew1 | refine below_set ?_ (IsS68.ge HI0.out)) | exact HB.out)⟩⟩
        ·rw [if_neg c11] at H
         exact absurd H (by simp)
       ·rw [if_neg c8] at H
        exact absurd H (by simp)
      ·rw [if_neg c7] at H
       exact absurd H (by simp)
     ·rw [if_neg c6] at H
      exact absurd H (by simp)
    ·rw [if_neg c5] at H
     exact absurd H (by simp)
   ·rw [if_neg c3] at H
    have c3b0 : decide (x6_1 < a1) = false := decide_eq_false c3
    clear c3
    simp only [Option.some.injEq, Prod.mk.injEq] at H
    obtain ⟨rfl, rfl⟩ := H
    go_wp2
    go_ret
    exact ⟨_, by first | rfl | (simp [errW_none, errW_some] <;> rfl) | (simp [*, errW_none, errW_some] <;> rfl), by (with_reducible repeat (first | apply Kd.R_alloc | apply Kd.R_drewN | apply Kd.R_drew)); exact HO_5.out, by repeat (first | (with_reducible first | exact HI0.out | apply IsS68.alloc | apply IsS68.drewN | apply IsS68.drew | apply IsS68.set_1) | exact HI0.out), by repeat (first | (with_reducible first | exact HB.out | apply below_alloc | apply pw_below_drewN | apply below_drew1 | refine below_set ?_ (IsS68.ge HI0.out)) | exact HB.out), by repeat (first | (with_reducible first | exact HK.out | apply KeepBut.set_ | apply keep_drewN | apply keep_drew | apply keep_alloc) | exact HK.out)⟩

end Go.Proofs.Ythbmpjglkbhhgaa.Print
