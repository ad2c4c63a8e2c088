-- Printed by a program of this session (wip/own_print.py) out of the translation; Lean checks it.
import Derived.Test.YtdmlbgdefapcjaaShort
import Derived.Test.YtdmlbgdefapcjaaPrint0
import Derived.Test.YtdmlbgdefapcjaaPrint3
namespace Go.Proofs.Ytdmlbgdefapcjaa.Print
open Go.RowKit Go.Proofs.YtdmlbgdefapcjaaW.PrintWords Go.Proofs.YtdmlbgdefapcjaaW.PrintLast Go.Proofs.YtdmlbgdefapcjaaW.PrintMore
attribute [local go_sem] max2_int min2_int max_two min_two max_three min_three max_four min_four   -- for this text's walks alone
set_option linter.unusedVariables false
set_option linter.unusedSimpArgs false

/-! ### awardingbodymake_Tape_Part: function 37 -/
mutual
def awardingbodymake_Tape_Part.j0 : Nat → Int → List Int → Int → Int → Int → Int → Int → Int → Int → Option (Int × Int × Int × Int × Int × Int × Int)
  | 0, _, _, _, _, _, _, _, _, _ => none
  | k + 1, x1, x1000, x1001, x207000, x207001, x207002, x207003, x207004, x207005 => if x1 > 0 then ((awardingbodymake_Tape_One.f x1000 x1001 x1).bind fun bt215 => (awardingbodymake_Tape_Part.j1 k bt215.1 x1000 bt215.2 x207000 x207001 x207002 x207003 x207004 x207005)) else (awardingbodymake_Tape_Part.j1 k false x1000 x1001 x207000 x207001 x207002 x207003 x207004 x207005)
def awardingbodymake_Tape_Part.j1 : Nat → Bool → List Int → Int → Int → Int → Int → Int → Int → Int → Option (Int × Int × Int × Int × Int × Int × Int)
  | 0, _, _, _, _, _, _, _, _, _ => none
  | k + 1, x34, x1000, x1001, x207000, x207001, x207002, x207003, x207004, x207005 => if x34 = true then ((awardingbodymake_Tape_Next.f x1000 x1001 6).bind fun bt217 => (if bt217.1 = 0 then ((awardingbodymake_Tape_Range.f x1000 bt217.2 (-1) 3).bind fun bt219 => (some (bt219.1, x207001, x207002, x207003, x207004, x207005, bt219.2))) else (if bt217.1 = 1 then ((awardingbodymake_Tape_Pick.f x1000 bt217.2 (([0, 40, 41, (-1)] : List Int))).bind fun bt224 => (some (x207000, bt224.1, x207002, x207003, x207004, x207005, bt224.2))) else (if bt217.1 = 2 then ((awardingbodymake_Tape_Wild.f x1000 bt217.2).bind fun bt226 => (some (x207000, x207001, bt226.1, x207003, x207004, x207005, bt226.2))) else (if bt217.1 = 3 then ((awardingbodymake_Tape_Wild.f x1000 bt217.2).bind fun bt228 => (some (x207000, x207001, x207002, bt228.1, x207004, x207005, bt228.2))) else (if bt217.1 = 4 then ((awardingbodymake_Tape_Range.f x1000 bt217.2 (-1) 6).bind fun bt230 => (some (x207000, x207001, x207002, x207003, bt230.1, x207005, bt230.2))) else ((awardingbodymake_Tape_Range.f x1000 bt217.2 (-1) 5).bind fun bt232 => (some (x207000, x207001, x207002, x207003, x207004, bt232.1, bt232.2))))))))) else (some (x207000, x207001, x207002, x207003, x207004, x207005, x1001))
end
def awardingbodymake_Tape_Part.f (k : Nat) (s0_0 : List Int) (s0_1 : Int) (a1 : Int) : Option (Int × Int × Int × Int × Int × Int × Int) := (awardingbodymake_Tape_Range.f s0_0 s0_1 1 12).bind fun bt200 => ((awardingbodymake_Tape_Next.f s0_0 bt200.2 4).bind fun bt202 => ((awardingbodymake_Tape_Next.f s0_0 bt202.2 3).bind fun bt204 => ((awardingbodymake_Tape_Next.f s0_0 bt204.2 3).bind fun bt207 => (if bt207.1 = 0 then ((awardingbodymake_Tape_Range.f s0_0 bt207.2 2 5).bind fun bt209 => ((awardingbodymake_Tape_Next.f s0_0 bt209.2 bt209.1).bind fun bt211 => ((awardingbodymake_Tape_Range.f s0_0 bt211.2 1 3).bind fun bt213 => (awardingbodymake_Tape_Part.j0 k a1 s0_0 bt213.2 2 bt213.1 bt202.1 bt204.1 bt209.1 bt211.1)))) else (awardingbodymake_Tape_Part.j0 k a1 s0_0 bt207.2 1 bt200.1 bt202.1 bt204.1 0 0)))))
theorem awardingbodymake_Tape_Part.mono_l : ∀ k, (∀ y0 y1 y2 y3 y4 y5 y6 y7 y8, LeO (awardingbodymake_Tape_Part.j0 k y0 y1 y2 y3 y4 y5 y6 y7 y8) (awardingbodymake_Tape_Part.j0 (k + 1) y0 y1 y2 y3 y4 y5 y6 y7 y8)) ∧ (∀ y0 y1 y2 y3 y4 y5 y6 y7 y8, LeO (awardingbodymake_Tape_Part.j1 k y0 y1 y2 y3 y4 y5 y6 y7 y8) (awardingbodymake_Tape_Part.j1 (k + 1) y0 y1 y2 y3 y4 y5 y6 y7 y8))
  | 0 => ⟨fun _ _ _ _ _ _ _ _ _ r h => by simp [awardingbodymake_Tape_Part.j0] at h, fun _ _ _ _ _ _ _ _ _ r h => by simp [awardingbodymake_Tape_Part.j1] at h⟩
  | k + 1 => by
    obtain ⟨ih0, ih1⟩ := awardingbodymake_Tape_Part.mono_l k
    refine ⟨?_, ?_⟩
    · intro y0 y1 y2 y3 y4 y5 y6 y7 y8
      unfold awardingbodymake_Tape_Part.j0
      repeat' first
      | (with_reducible exact ih0 _ _ _ _ _ _ _ _ _)
      | (with_reducible exact ih1 _ _ _ _ _ _ _ _ _)
      | (with_reducible exact LeO.refl _)
      | (with_reducible exact LeO.none _)
      | (with_reducible refine LeO.ite ?_ ?_)
      | (with_reducible refine LeO.bind ?_ (fun _ => ?_))
      | exact ih0 _ _ _ _ _ _ _ _ _
      | exact ih1 _ _ _ _ _ _ _ _ _
      | exact LeO.none _
      | refine LeO.ite ?_ ?_
      | refine LeO.bind ?_ (fun _ => ?_)
    · intro y0 y1 y2 y3 y4 y5 y6 y7 y8
      unfold awardingbodymake_Tape_Part.j1
      repeat' first
      | (with_reducible exact ih0 _ _ _ _ _ _ _ _ _)
      | (with_reducible exact ih1 _ _ _ _ _ _ _ _ _)
      | (with_reducible exact LeO.refl _)
      | (with_reducible exact LeO.none _)
      | (with_reducible refine LeO.ite ?_ ?_)
      | (with_reducible refine LeO.bind ?_ (fun _ => ?_))
      | exact ih0 _ _ _ _ _ _ _ _ _
      | exact ih1 _ _ _ _ _ _ _ _ _
      | exact LeO.none _
      | refine LeO.ite ?_ ?_
      | refine LeO.bind ?_ (fun _ => ?_)
theorem awardingbodymake_Tape_Part.mono : ∀ a0 a1 a2 k, LeO (awardingbodymake_Tape_Part.f k a0 a1 a2) (awardingbodymake_Tape_Part.f (k + 1) a0 a1 a2) := by
  intro a0 a1 a2 k
  obtain ⟨ih0, ih1⟩ := awardingbodymake_Tape_Part.mono_l k
  unfold awardingbodymake_Tape_Part.f
  repeat' first
      | (with_reducible exact ih0 _ _ _ _ _ _ _ _ _)
      | (with_reducible exact ih1 _ _ _ _ _ _ _ _ _)
      | (with_reducible exact LeO.refl _)
      | (with_reducible exact LeO.none _)
      | (with_reducible refine LeO.ite ?_ ?_)
      | (with_reducible refine LeO.bind ?_ (fun _ => ?_))
      | exact ih0 _ _ _ _ _ _ _ _ _
      | exact ih1 _ _ _ _ _ _ _ _ _
      | exact LeO.none _
      | refine LeO.ite ?_ ?_
      | refine LeO.bind ?_ (fun _ => ?_)
set_option maxHeartbeats 8000000 in
set_option maxRecDepth 100000 in
theorem awardingbodymake_Tape_Part.calls (k : Nat) (g : Nat) (s0_0 : List Int) (s0_1 : Int) (a1 : Int) (r1 : Int) (r2 : Int) (r3 : Int) (r4 : Int) (r5 : Int) (r6 : Int) (r7 : Int) (w0 w : World) (hI : IsS61 w0 w g s0_0 s0_1) (hB : Below w0.heap.size w0 w) (h : awardingbodymake_Tape_Part.f k s0_0 s0_1 a1 = some (r1, r2, r3, r4, r5, r6, r7)) :
    Calls Try.prog 37 #[.pointer (some ⟨g, 0, none⟩), .int .i64 a1] w fun e w' => e = .returned (.agg #[.int .i64 r1, .int .i64 r2, .int .i64 r3, .int .i64 r4, .int .i64 r5, .int .i64 r6]) ∧ IsS61 w0 w' g s0_0 r7 ∧ Below w0.heap.size w0 w' ∧ KeepBut w w' g none := by
 have hu23 := Try.underlying23
 have HI0 := za hI
 have HK := za (KeepBut.refl w g none)
 have HL := za hB.size
 clear hI
 have HW0 := za hB.size
 have HB := za hB
 clear hB
 have H : ((awardingbodymake_Tape_Range.f s0_0 s0_1 1 12).bind fun bt200 => ((awardingbodymake_Tape_Next.f s0_0 bt200.2 4).bind fun bt202 => ((awardingbodymake_Tape_Next.f s0_0 bt202.2 3).bind fun bt204 => ((awardingbodymake_Tape_Next.f s0_0 bt204.2 3).bind fun bt207 => (if bt207.1 = 0 then ((awardingbodymake_Tape_Range.f s0_0 bt207.2 2 5).bind fun bt209 => ((awardingbodymake_Tape_Next.f s0_0 bt209.2 bt209.1).bind fun bt211 => ((awardingbodymake_Tape_Range.f s0_0 bt211.2 1 3).bind fun bt213 => (awardingbodymake_Tape_Part.j0 k a1 s0_0 bt213.2 2 bt213.1 bt202.1 bt204.1 bt209.1 bt211.1)))) else (awardingbodymake_Tape_Part.j0 k a1 s0_0 bt207.2 1 bt200.1 bt202.1 bt204.1 0 0)))))) = some (r1, r2, r3, r4, r5, r6, r7) := h
 clear h
 replace H := Option.bind_eq_some_iff.mp H
 obtain ⟨⟨t200, t201⟩, A30, H⟩ := H
 replace H : ((awardingbodymake_Tape_Next.f s0_0 t201 4).bind fun bt202 => ((awardingbodymake_Tape_Next.f s0_0 bt202.2 3).bind fun bt204 => ((awardingbodymake_Tape_Next.f s0_0 bt204.2 3).bind fun bt207 => (if bt207.1 = 0 then ((awardingbodymake_Tape_Range.f s0_0 bt207.2 2 5).bind fun bt209 => ((awardingbodymake_Tape_Next.f s0_0 bt209.2 bt209.1).bind fun bt211 => ((awardingbodymake_Tape_Range.f s0_0 bt211.2 1 3).bind fun bt213 => (awardingbodymake_Tape_Part.j0 k a1 s0_0 bt213.2 2 bt213.1 bt202.1 bt204.1 bt209.1 bt211.1)))) else (awardingbodymake_Tape_Part.j0 k a1 s0_0 bt207.2 1 t200 bt202.1 bt204.1 0 0))))) = some (r1, r2, r3, r4, r5, r6, r7) := H
 have A3 := za A30
 clear A30
 replace H := Option.bind_eq_some_iff.mp H
 obtain ⟨⟨t202, t203⟩, A40, H⟩ := H
 replace H : ((awardingbodymake_Tape_Next.f s0_0 t203 3).bind fun bt204 => ((awardingbodymake_Tape_Next.f s0_0 bt204.2 3).bind fun bt207 => (if bt207.1 = 0 then ((awardingbodymake_Tape_Range.f s0_0 bt207.2 2 5).bind fun bt209 => ((awardingbodymake_Tape_Next.f s0_0 bt209.2 bt209.1).bind fun bt211 => ((awardingbodymake_Tape_Range.f s0_0 bt211.2 1 3).bind fun bt213 => (awardingbodymake_Tape_Part.j0 k a1 s0_0 bt213.2 2 bt213.1 t202 bt204.1 bt209.1 bt211.1)))) else (awardingbodymake_Tape_Part.j0 k a1 s0_0 bt207.2 1 t200 t202 bt204.1 0 0)))) = some (r1, r2, r3, r4, r5, r6, r7) := H
 have A4 := za A40
 clear A40
 replace H := Option.bind_eq_some_iff.mp H
 obtain ⟨⟨t204, t205⟩, A50, H⟩ := H
 replace H : ((awardingbodymake_Tape_Next.f s0_0 t205 3).bind fun bt207 => (if bt207.1 = 0 then ((awardingbodymake_Tape_Range.f s0_0 bt207.2 2 5).bind fun bt209 => ((awardingbodymake_Tape_Next.f s0_0 bt209.2 bt209.1).bind fun bt211 => ((awardingbodymake_Tape_Range.f s0_0 bt211.2 1 3).bind fun bt213 => (awardingbodymake_Tape_Part.j0 k a1 s0_0 bt213.2 2 bt213.1 t202 t204 bt209.1 bt211.1)))) else (awardingbodymake_Tape_Part.j0 k a1 s0_0 bt207.2 1 t200 t202 t204 0 0))) = some (r1, r2, r3, r4, r5, r6, r7) := H
 have A5 := za A50
 clear A50
 replace H := Option.bind_eq_some_iff.mp H
 obtain ⟨⟨t207, t208⟩, A60, H⟩ := H
 replace H : (if t207 = 0 then ((awardingbodymake_Tape_Range.f s0_0 t208 2 5).bind fun bt209 => ((awardingbodymake_Tape_Next.f s0_0 bt209.2 bt209.1).bind fun bt211 => ((awardingbodymake_Tape_Range.f s0_0 bt211.2 1 3).bind fun bt213 => (awardingbodymake_Tape_Part.j0 k a1 s0_0 bt213.2 2 bt213.1 t202 t204 bt209.1 bt211.1)))) else (awardingbodymake_Tape_Part.j0 k a1 s0_0 t208 1 t200 t202 t204 0 0)) = some (r1, r2, r3, r4, r5, r6, r7) := H
 have A6 := za A60
 clear A60
 have HC7 := za H
 clear H
 go_enter Try.func37, Try.ntmps37
 go_upto_if 15 with (first | ((with_reducible refine gate_dst (N := 4) rfl ?_); refine zE 4 #[.int .i64 0, .int .i64 0, .int .i64 0, .int .i64 0, .int .i64 0, .int .i64 0] 23 ?_; intro gb199 hg w8 hbox hb; have BK199 := za (hbox); have GW199 := za ((by rw [hg]; exact (keep_size (w := w) (g := g) (row := none) (by repeat (first | (with_reducible first | exact HK.out | apply KeepBut.set_ | apply keep_drewN | apply keep_drew | apply keep_alloc) | exact HK.out))) : w.heap.size ≤ gb199)); have GE199 := za ((Nat.le_trans HW0.out (by rw [hg]; exact (keep_size (w := w) (g := g) (row := none) (by repeat (first | (with_reducible first | exact HK.out | apply KeepBut.set_ | apply keep_drewN | apply keep_drew | apply keep_alloc) | exact HK.out))) : w.heap.size ≤ gb199) : w0.heap.size ≤ gb199)); have NB0_199 := za ((by rw [hg]; exact Nat.ne_of_lt (IsS61.lt (show IsS61 w0 _ g s0_0 s0_1 from by repeat (first | (with_reducible first | exact HI0.out | apply IsS61.alloc | apply IsS61.drewN | apply IsS61.drew | apply IsS61.set_1) | exact HI0.out))) : g ≠ gb199)); have NB199_0 := za ((by rw [hg]; exact Nat.ne_of_gt (IsS61.lt (show IsS61 w0 _ g s0_0 s0_1 from by repeat (first | (with_reducible first | exact HI0.out | apply IsS61.alloc | apply IsS61.drewN | apply IsS61.drew | apply IsS61.set_1) | exact HI0.out))) : gb199 ≠ g)); replace HI0 := za (IsS61.below (by repeat (first | (with_reducible first | exact HI0.out | apply IsS61.alloc | apply IsS61.drewN | apply IsS61.drew | apply IsS61.set_1) | exact HI0.out)) hb); replace HK := zu HK hb; replace HB := zs HB hb; clear hb hbox hg) | ((with_reducible refine gate_callee (f := 34) rfl ?_); refine zL (some 7) Try.func34 #[.pointer (some ⟨g, 0, none⟩), .int .i64 1, .int .i64 12] ?_; (with_reducible refine (awardingbodymake_Tape_Range.calls g s0_0 s0_1 1 12 t200 t201 w0 _ ?side1 ?side2 A3.out).mono ?_); (case side1 => repeat (first | (with_reducible first | exact HI0.out | apply IsS61.alloc | apply IsS61.drewN | apply IsS61.drew | apply IsS61.set_1 | refine IsS61.far ?_ NB0_199.out _) | exact HI0.out)); (case side2 => repeat (first | (with_reducible first | exact HB.out | apply below_alloc | apply pw_below_drewN | apply below_drew1 | refine below_set ?_ (IsS61.ge HI0.out) | refine below_set ?_ GE199.out) | exact HB.out)); rintro e w9 ⟨rfl, hi, hb, hk⟩; refine ⟨_, rfl, ?_⟩; replace BK199 := zk hk BK199 NB199_0; replace HK := zt HK hk; replace HB := za (hb); replace HI0 := za (hi); (try clear hb); (try clear hb2); (try clear hk); (try clear hi)) | ((with_reducible refine gate_callee (f := 21) rfl ?_); refine zL (some 9) Try.func21 #[.pointer (some ⟨g, 0, none⟩), .int .i64 4] ?_; (with_reducible refine (awardingbodymake_Tape_Next.calls g s0_0 t201 4 t202 t203 w0 _ ?side1 ?side2 A4.out).mono ?_); (case side1 => repeat (first | (with_reducible first | exact HI0.out | apply IsS61.alloc | apply IsS61.drewN | apply IsS61.drew | apply IsS61.set_1 | refine IsS61.far ?_ NB0_199.out _) | exact HI0.out)); (case side2 => repeat (first | (with_reducible first | exact HB.out | apply below_alloc | apply pw_below_drewN | apply below_drew1 | refine below_set ?_ (IsS61.ge HI0.out) | refine below_set ?_ GE199.out) | exact HB.out)); rintro e w10 ⟨rfl, hi, hb, hk⟩; refine ⟨_, rfl, ?_⟩; replace BK199 := zk hk BK199 NB199_0; replace HK := zt HK hk; replace HB := za (hb); replace HI0 := za (hi); (try clear hb); (try clear hb2); (try clear hk); (try clear hi)) | ((with_reducible refine gate_callee (f := 21) rfl ?_); refine zL (some 11) Try.func21 #[.pointer (some ⟨g, 0, none⟩), .int .i64 3] ?_; (with_reducible refine (awardingbodymake_Tape_Next.calls g s0_0 t203 3 t204 t205 w0 _ ?side1 ?side2 A5.out).mono ?_); (case side1 => repeat (first | (with_reducible first | exact HI0.out | apply IsS61.alloc | apply IsS61.drewN | apply IsS61.drew | apply IsS61.set_1 | refine IsS61.far ?_ NB0_199.out _) | exact HI0.out)); (case side2 => repeat (first | (with_reducible first | exact HB.out | apply below_alloc | apply pw_below_drewN | apply below_drew1 | refine below_set ?_ (IsS61.ge HI0.out) | refine below_set ?_ GE199.out) | exact HB.out)); rintro e w11 ⟨rfl, hi, hb, hk⟩; refine ⟨_, rfl, ?_⟩; replace BK199 := zk hk BK199 NB199_0; replace HK := zt HK hk; replace HB := za (hb); replace HI0 := za (hi); (try clear hb); (try clear hb2); (try clear hk); (try clear hi)) | ((with_reducible refine gate_dst (N := 5) rfl ?_); refine zE 5 #[.int .i64 0, .int .i64 0, .int .i64 0, .int .i64 0, .int .i64 0, .int .i64 0] 23 ?_; intro gb206 hg w12 hbox hb; have BK206 := za (hbox); have GW206 := za ((by rw [hg]; exact (keep_size (w := w) (g := g) (row := none) (by repeat (first | (with_reducible first | exact HK.out | apply KeepBut.set_ | apply keep_drewN | apply keep_drew | apply keep_alloc | refine keep_far ?_ GW199.out _) | exact HK.out))) : w.heap.size ≤ gb206)); have GE206 := za ((Nat.le_trans HW0.out (by rw [hg]; exact (keep_size (w := w) (g := g) (row := none) (by repeat (first | (with_reducible first | exact HK.out | apply KeepBut.set_ | apply keep_drewN | apply keep_drew | apply keep_alloc | refine keep_far ?_ GW199.out _) | exact HK.out))) : w.heap.size ≤ gb206) : w0.heap.size ≤ gb206)); have NB199_206 := zl BK199 hg; have NB206_199 := zr BK199 hg; have NB0_206 := za ((by rw [hg]; exact Nat.ne_of_lt (IsS61.lt (show IsS61 w0 _ g s0_0 t205 from by repeat (first | (with_reducible first | exact HI0.out | apply IsS61.alloc | apply IsS61.drewN | apply IsS61.drew | apply IsS61.set_1 | refine IsS61.far ?_ NB0_199.out _) | exact HI0.out))) : g ≠ gb206)); have NB206_0 := za ((by rw [hg]; exact Nat.ne_of_gt (IsS61.lt (show IsS61 w0 _ g s0_0 t205 from by repeat (first | (with_reducible first | exact HI0.out | apply IsS61.alloc | apply IsS61.drewN | apply IsS61.drew | apply IsS61.set_1 | refine IsS61.far ?_ NB0_199.out _) | exact HI0.out))) : gb206 ≠ g)); replace HI0 := za (IsS61.below (by repeat (first | (with_reducible first | exact HI0.out | apply IsS61.alloc | apply IsS61.drewN | apply IsS61.drew | apply IsS61.set_1 | refine IsS61.far ?_ NB0_199.out _) | exact HI0.out)) hb); replace BK199 := zb BK199 hb; replace HK := zu HK hb; replace HB := zs HB hb; clear hb hbox hg; have hnb13 := NB206_199.out; have hnc13 := NB199_206.out; have hnb14 := NB206_0.out; have hnc14 := NB0_206.out; obtain ⟨hcz15_0, hcz15_1, hcz15_2, hcz15_3, hcz15_4, hcz15_5, hfz15_0, hfz15_1, hfz15_2, hfz15_3, hfz15_4, hfz15_5⟩ := z6 BK206) | ((with_reducible refine gate_callee (f := 21) rfl ?_); refine zL (some 14) Try.func21 #[.pointer (some ⟨g, 0, none⟩), .int .i64 3] ?_; (with_reducible refine (awardingbodymake_Tape_Next.calls g s0_0 t205 3 t207 t208 w0 _ ?side1 ?side2 A6.out).mono ?_); (case side1 => repeat (first | (with_reducible first | exact HI0.out | apply IsS61.alloc | apply IsS61.drewN | apply IsS61.drew | apply IsS61.set_1 | refine IsS61.far ?_ NB0_199.out _ | refine IsS61.far ?_ NB0_206.out _) | exact HI0.out)); (case side2 => repeat (first | (with_reducible first | exact HB.out | apply below_alloc | apply pw_below_drewN | apply below_drew1 | refine below_set ?_ (IsS61.ge HI0.out) | refine below_set ?_ GE199.out | refine below_set ?_ GE206.out) | exact HB.out)); rintro e w16 ⟨rfl, hi, hb, hk⟩; refine ⟨_, rfl, ?_⟩; replace BK199 := zk hk BK199 NB199_0; replace BK206 := za (KeepBut.blk hk (g' := gb206) (o := .cells #[.int .i64 1, .int .i64 t200, .int .i64 t202, .int .i64 t204, .int .i64 0, .int .i64 0] 23 (0, 0)) (by (with_reducible repeat (first | refine blk_drewN ?_ _ | refine blk_drew ?_ | refine blk_alloc ?_ _)); refine blk_put (cs := #[.int .i64 1, .int .i64 t200, .int .i64 t202, .int .i64 t204, .int .i64 0, .int .i64 0]) ?_ 5 _ rfl; (with_reducible repeat (first | refine blk_drewN ?_ _ | refine blk_drew ?_ | refine blk_alloc ?_ _)); refine blk_put (cs := #[.int .i64 1, .int .i64 t200, .int .i64 t202, .int .i64 t204, .int .i64 0, .int .i64 0]) ?_ 4 _ rfl; (with_reducible repeat (first | refine blk_drewN ?_ _ | refine blk_drew ?_ | refine blk_alloc ?_ _)); refine blk_put (cs := #[.int .i64 1, .int .i64 t200, .int .i64 t202, .int .i64 0, .int .i64 0, .int .i64 0]) ?_ 3 _ rfl; (with_reducible repeat (first | refine blk_drewN ?_ _ | refine blk_drew ?_ | refine blk_alloc ?_ _)); refine blk_put (cs := #[.int .i64 1, .int .i64 t200, .int .i64 0, .int .i64 0, .int .i64 0, .int .i64 0]) ?_ 2 _ rfl; (with_reducible repeat (first | refine blk_drewN ?_ _ | refine blk_drew ?_ | refine blk_alloc ?_ _)); refine blk_put (cs := #[.int .i64 1, .int .i64 0, .int .i64 0, .int .i64 0, .int .i64 0, .int .i64 0]) ?_ 1 _ rfl; (with_reducible repeat (first | refine blk_drewN ?_ _ | refine blk_drew ?_ | refine blk_alloc ?_ _)); refine blk_put (cs := #[.int .i64 0, .int .i64 0, .int .i64 0, .int .i64 0, .int .i64 0, .int .i64 0]) ?_ 0 _ rfl; (with_reducible repeat (first | refine blk_drewN ?_ _ | refine blk_drew ?_ | refine blk_alloc ?_ _)); exact BK206.out) NB206_0.out (by simp)); replace HK := zt HK hk; replace HB := za (hb); replace HI0 := za (hi); (try clear hb); (try clear hb2); (try clear hk); (try clear hi)))
 (try simp only [Act.put, List.setIfInBounds_toArray, List.set_cons_zero, List.set_cons_succ])
 go_cut [] (fun wc => ∃ (kq : Nat) (x1001_6 : Int) (x207000_6 : Int) (x207001_6 : Int) (x207004_6 : Int) (x207005_6 : Int), Aside0 (awardingbodymake_Tape_Part.j0 kq a1 s0_0 x1001_6 x207000_6 x207001_6 t202 t204 x207004_6 x207005_6 = some (r1, r2, r3, r4, r5, r6, r7)) ∧ Aside0 (kq ≤ k) ∧ Aside0 (wc.heap[gb199]? = some (.cells #[.int .i64 0, .int .i64 0, .int .i64 0, .int .i64 0, .int .i64 0, .int .i64 0] 23 (0, 0))) ∧ Aside0 (wc.heap[gb206]? = some (.cells #[.int .i64 x207000_6, .int .i64 x207001_6, .int .i64 t202, .int .i64 t204, .int .i64 x207004_6, .int .i64 x207005_6] 23 (0, 0))) ∧ Aside0 (IsS61 w0 wc g s0_0 x1001_6) ∧ Aside0 (KeepBut w wc g none) ∧ Aside0 (Below w0.heap.size w0 wc))
 case first =>
  have H := HC7.out
  clear HC7
  by_cases c17 : t207 = 0
  ·rw [if_pos c17] at H
   have c17b0 : (t207 == 0) = true := beq_iff_eq.mpr c17
   have c17b1 : (t207 != 0) = false := bne_eq_false_iff_eq.mpr c17
   clear c17
   (first | rw [c17b0] | (simp only [i64_w, i32_w]; rw [c17b0]) | skip)
   replace H := Option.bind_eq_some_iff.mp H
   obtain ⟨⟨t209, t210⟩, A180, H⟩ := H
   replace H : ((awardingbodymake_Tape_Next.f s0_0 t210 t209).bind fun bt211 => ((awardingbodymake_Tape_Range.f s0_0 bt211.2 1 3).bind fun bt213 => (awardingbodymake_Tape_Part.j0 k a1 s0_0 bt213.2 2 bt213.1 t202 t204 t209 bt211.1))) = some (r1, r2, r3, r4, r5, r6, r7) := H
   have A18 := za A180
   clear A180
   replace H := Option.bind_eq_some_iff.mp H
   obtain ⟨⟨t211, t212⟩, A190, H⟩ := H
   replace H : ((awardingbodymake_Tape_Range.f s0_0 t212 1 3).bind fun bt213 => (awardingbodymake_Tape_Part.j0 k a1 s0_0 bt213.2 2 bt213.1 t202 t204 t209 t211)) = some (r1, r2, r3, r4, r5, r6, r7) := H
   have A19 := za A190
   clear A190
   replace H := Option.bind_eq_some_iff.mp H
   obtain ⟨⟨t213, t214⟩, A200, H⟩ := H
   replace H : (awardingbodymake_Tape_Part.j0 k a1 s0_0 t214 2 t213 t202 t204 t209 t211) = some (r1, r2, r3, r4, r5, r6, r7) := H
   have A20 := za A200
   clear A200
   have H' := za H
   clear H
   go_wp2_with (first | ((with_reducible refine gate_callee (f := 34) rfl ?_); refine zL (some 17) Try.func34 #[.pointer (some ⟨g, 0, none⟩), .int .i64 2, .int .i64 5] ?_; (with_reducible refine (awardingbodymake_Tape_Range.calls g s0_0 t208 2 5 t209 t210 w0 _ ?side1 ?side2 A18.out).mono ?_); (case side1 => repeat (first | (with_reducible first | exact HI0.out | apply IsS61.alloc | apply IsS61.drewN | apply IsS61.drew | apply IsS61.set_1 | refine IsS61.far ?_ NB0_199.out _ | refine IsS61.far ?_ NB0_206.out _) | exact HI0.out)); (case side2 => repeat (first | (with_reducible first | exact HB.out | apply below_alloc | apply pw_below_drewN | apply below_drew1 | refine below_set ?_ (IsS61.ge HI0.out) | refine below_set ?_ GE199.out | refine below_set ?_ GE206.out) | exact HB.out)); rintro e w21 ⟨rfl, hi, hb, hk⟩; refine ⟨_, rfl, ?_⟩; replace BK199 := zk hk BK199 NB199_0; replace BK206 := zk hk BK206 NB206_0; replace HK := zt HK hk; replace HB := za (hb); replace HI0 := za (hi); (try clear hb); (try clear hb2); (try clear hk); (try clear hi); have hnb22 := NB206_199.out; have hnc22 := NB199_206.out; have hnb23 := NB206_0.out; have hnc23 := NB0_206.out; obtain ⟨hcz24_0, hcz24_1, hcz24_2, hcz24_3, hcz24_4, hcz24_5, hfz24_0, hfz24_1, hfz24_2, hfz24_3, hfz24_4, hfz24_5⟩ := z6 BK206) | ((with_reducible refine gate_callee (f := 21) rfl ?_); refine zL (some 23) Try.func21 #[.pointer (some ⟨g, 0, none⟩), .int .i64 t209] ?_; (with_reducible refine (awardingbodymake_Tape_Next.calls g s0_0 t210 t209 t211 t212 w0 _ ?side1 ?side2 A19.out).mono ?_); (case side1 => repeat (first | (with_reducible first | exact HI0.out | apply IsS61.alloc | apply IsS61.drewN | apply IsS61.drew | apply IsS61.set_1 | refine IsS61.far ?_ NB0_199.out _ | refine IsS61.far ?_ NB0_206.out _) | exact HI0.out)); (case side2 => repeat (first | (with_reducible first | exact HB.out | apply below_alloc | apply pw_below_drewN | apply below_drew1 | refine below_set ?_ (IsS61.ge HI0.out) | refine below_set ?_ GE199.out | refine below_set ?_ GE206.out) | exact HB.out)); rintro e w25 ⟨rfl, hi, hb, hk⟩; refine ⟨_, rfl, ?_⟩; replace BK199 := zk hk BK199 NB199_0; replace BK206 := za (KeepBut.blk hk (g' := gb206) (o := .cells #[.int .i64 2, .int .i64 t200, .int .i64 t202, .int .i64 t204, .int .i64 t209, .int .i64 0] 23 (0, 0)) (by (with_reducible repeat (first | refine blk_drewN ?_ _ | refine blk_drew ?_ | refine blk_alloc ?_ _)); refine blk_put (cs := #[.int .i64 2, .int .i64 t200, .int .i64 t202, .int .i64 t204, .int .i64 0, .int .i64 0]) ?_ 4 _ rfl; (with_reducible repeat (first | refine blk_drewN ?_ _ | refine blk_drew ?_ | refine blk_alloc ?_ _)); refine blk_put (cs := #[.int .i64 1, .int .i64 t200, .int .i64 t202, .int .i64 t204, .int .i64 0, .int .i64 0]) ?_ 0 _ rfl; (with_reducible repeat (first | refine blk_drewN ?_ _ | refine blk_drew ?_ | refine blk_alloc ?_ _)); exact BK206.out) NB206_0.out (by simp)); replace HK := zt HK hk; replace HB := za (hb); replace HI0 := za (hi); (try clear hb); (try clear hb2); (try clear hk); (try clear hi)) | ((with_reducible refine gate_callee (f := 34) rfl ?_); refine zL (some 25) Try.func34 #[.pointer (some ⟨g, 0, none⟩), .int .i64 1, .int .i64 3] ?_; (with_reducible refine (awardingbodymake_Tape_Range.calls g s0_0 t212 1 3 t213 t214 w0 _ ?side1 ?side2 A20.out).mono ?_); (case side1 => repeat (first | (with_reducible first | exact HI0.out | apply IsS61.alloc | apply IsS61.drewN | apply IsS61.drew | apply IsS61.set_1 | refine IsS61.far ?_ NB0_199.out _ | refine IsS61.far ?_ NB0_206.out _) | exact HI0.out)); (case side2 => repeat (first | (with_reducible first | exact HB.out | apply below_alloc | apply pw_below_drewN | apply below_drew1 | refine below_set ?_ (IsS61.ge HI0.out) | refine below_set ?_ GE199.out | refine below_set ?_ GE206.out) | exact HB.out)); rintro e w26 ⟨rfl, hi, hb, hk⟩; refine ⟨_, rfl, ?_⟩; replace BK199 := zk hk BK199 NB199_0; replace BK206 := zk hk BK206 NB206_0; replace HK := zt HK hk; replace HB := za (hb); replace HI0 := za (hi); (try clear hb); (try clear hb2); (try clear hk); (try clear hi); obtain ⟨hcz27_0, hcz27_1, hcz27_2, hcz27_3, hcz27_4, hcz27_5, hfz27_0, hfz27_1, hfz27_2, hfz27_3, hfz27_4, hfz27_5⟩ := z6 BK206))
   go_meet
   case rel => exact ⟨_, (t214), (2), (t213), (t209), (t211), H', ⟨by first | omega | exact Nat.le_refl _⟩, ⟨by (with_reducible repeat (first | refine blk_drewN ?_ _ | refine blk_drew ?_ | refine blk_alloc ?_ _)); refine blk_far ?_ NB199_206.out _; (with_reducible repeat (first | refine blk_drewN ?_ _ | refine blk_drew ?_ | refine blk_alloc ?_ _)); refine blk_far ?_ NB199_206.out _; (with_reducible repeat (first | refine blk_drewN ?_ _ | refine blk_drew ?_ | refine blk_alloc ?_ _)); exact BK199.out⟩, ⟨by (with_reducible repeat (first | refine blk_drewN ?_ _ | refine blk_drew ?_ | refine blk_alloc ?_ _)); refine blk_put (cs := #[.int .i64 2, .int .i64 t200, .int .i64 t202, .int .i64 t204, .int .i64 t209, .int .i64 t211]) ?_ 1 _ rfl; (with_reducible repeat (first | refine blk_drewN ?_ _ | refine blk_drew ?_ | refine blk_alloc ?_ _)); refine blk_put (cs := #[.int .i64 2, .int .i64 t200, .int .i64 t202, .int .i64 t204, .int .i64 t209, .int .i64 0]) ?_ 5 _ rfl; (with_reducible repeat (first | refine blk_drewN ?_ _ | refine blk_drew ?_ | refine blk_alloc ?_ _)); exact BK206.out⟩, ⟨by repeat (first | (with_reducible first | exact HI0.out | apply IsS61.alloc | apply IsS61.drewN | apply IsS61.drew | apply IsS61.set_1 | refine IsS61.far ?_ NB0_199.out _ | refine IsS61.far ?_ NB0_206.out _) | exact HI0.out)⟩, ⟨by repeat (first | (with_reducible first | exact HK.out | apply KeepBut.set_ | apply keep_drewN | apply keep_drew | apply keep_alloc | refine keep_far ?_ GW199.out _ | refine keep_far ?_ GW206.out _) | exact HK.out)⟩, ⟨zm HB⟩⟩
  ·rw [if_neg c17] at H
   have c17b0 : (t207 == 0) = false := beq_eq_false_iff_ne.mpr c17
   have c17b1 : (t207 != 0) = true := bne_iff_ne.mpr c17
   (first | rw [c17b0] | (simp only [i64_w, i32_w]; rw [c17b0]) | skip)
   have H' := za H
   clear H
   go_wp2
   go_meet
   case rel => exact ⟨_, (t208), (1), (t200), (0), (0), H', ⟨by first | omega | exact Nat.le_refl _⟩, ⟨by (with_reducible repeat (first | refine blk_drewN ?_ _ | refine blk_drew ?_ | refine blk_alloc ?_ _)); exact BK199.out⟩, ⟨by (with_reducible repeat (first | refine blk_drewN ?_ _ | refine blk_drew ?_ | refine blk_alloc ?_ _)); exact BK206.out⟩, ⟨by repeat (first | (with_reducible first | exact HI0.out | apply IsS61.alloc | apply IsS61.drewN | apply IsS61.drew | apply IsS61.set_1 | refine IsS61.far ?_ NB0_199.out _ | refine IsS61.far ?_ NB0_206.out _) | exact HI0.out)⟩, ⟨by repeat (first | (with_reducible first | exact HK.out | apply KeepBut.set_ | apply keep_drewN | apply keep_drew | apply keep_alloc | refine keep_far ?_ GW199.out _ | refine keep_far ?_ GW206.out _) | exact HK.out)⟩, ⟨zm HB⟩⟩
 case rest =>
  clear HC7
  try clear c1
  try clear c2
  try clear p2
  try clear c3
  try clear c13
  try clear c14
  try clear c17
  try clear c17b0
  try clear c17b1
  try clear c21
  try clear c22
  try clear c23
  try clear hcz15_0
  try clear hcz15_1
  try clear hcz15_2
  try clear hcz15_3
  try clear hcz15_4
  try clear hcz15_5
  try clear hcz24_0
  try clear hcz24_1
  try clear hcz24_2
  try clear hcz24_3
  try clear hcz24_4
  try clear hcz24_5
  try clear hcz27_0
  try clear hcz27_1
  try clear hcz27_2
  try clear hcz27_3
  try clear hcz27_4
  try clear hcz27_5
  try clear hfz15_0
  try clear hfz15_1
  try clear hfz15_2
  try clear hfz15_3
  try clear hfz15_4
  try clear hfz15_5
  try clear hfz24_0
  try clear hfz24_1
  try clear hfz24_2
  try clear hfz24_3
  try clear hfz24_4
  try clear hfz24_5
  try clear hfz27_0
  try clear hfz27_1
  try clear hfz27_2
  try clear hfz27_3
  try clear hfz27_4
  try clear hfz27_5
  obtain ⟨kq, x1001_6, x207000_6, x207001_6, x207004_6, x207005_6, HA, HJ6, BK199, BK206, HI0, HK, HB⟩ := hcut
  cases kq with
  | zero => exact absurd HA.out (by simp [awardingbodymake_Tape_Part.j0])
  | succ kj6 =>
   have H := HA.out
   clear HA
   simp only [awardingbodymake_Tape_Part.j0] at H
   have HC28 := za H
   clear H
   go_upto_region 5 with (fail)
   go_cut [34] (fun v34 wc => ∃ (kq : Nat) (x34_27 : Bool) (x1001_27 : Int), v34 = .bool x34_27 ∧ Aside0 (awardingbodymake_Tape_Part.j1 kq x34_27 s0_0 x1001_27 x207000_6 x207001_6 t202 t204 x207004_6 x207005_6 = some (r1, r2, r3, r4, r5, r6, r7)) ∧ Aside0 (kq ≤ kj6) ∧ Aside0 (wc.heap[gb199]? = some (.cells #[.int .i64 0, .int .i64 0, .int .i64 0, .int .i64 0, .int .i64 0, .int .i64 0] 23 (0, 0))) ∧ Aside0 (wc.heap[gb206]? = some (.cells #[.int .i64 x207000_6, .int .i64 x207001_6, .int .i64 t202, .int .i64 t204, .int .i64 x207004_6, .int .i64 x207005_6] 23 (0, 0))) ∧ Aside0 (IsS61 w0 wc g s0_0 x1001_27) ∧ Aside0 (KeepBut w wc g none) ∧ Aside0 (Below w0.heap.size w0 wc))
   case first =>
    have H := HC28.out
    clear HC28
    by_cases c29 : a1 > 0
    ·rw [if_pos c29] at H
     have c29b0 : decide (0 < a1) = true := decide_eq_true c29
     clear c29
     (first | rw [c29b0] | (simp only [i64_w, i32_w]; rw [c29b0]) | skip)
     replace H := Option.bind_eq_some_iff.mp H
     obtain ⟨⟨t215, t216⟩, A300, H⟩ := H
     replace H : (awardingbodymake_Tape_Part.j1 kj6 t215 s0_0 t216 x207000_6 x207001_6 t202 t204 x207004_6 x207005_6) = some (r1, r2, r3, r4, r5, r6, r7) := H
     have A30 := za A300
     clear A300
     have H' := za H
     clear H
     go_wp2_with (first | (go_at_call 35; (with_reducible refine (awardingbodymake_Tape_One.calls g s0_0 x1001_6 a1 t215 t216 w0 _ ?side1 ?side2 A30.out).mono ?_); (case side1 => repeat (first | (with_reducible first | exact HI0.out | apply IsS61.alloc | apply IsS61.drewN | apply IsS61.drew | apply IsS61.set_1 | refine IsS61.far ?_ NB0_199.out _ | refine IsS61.far ?_ NB0_206.out _) | exact HI0.out)); (case side2 => repeat (first | (with_reducible first | exact HB.out | apply below_alloc | apply pw_below_drewN | apply below_drew1 | refine below_set ?_ (IsS61.ge HI0.out) | refine below_set ?_ GE199.out | refine below_set ?_ GE206.out) | exact HB.out)); rintro e w31 ⟨rfl, hi, hb, hk⟩; replace BK199 := zk hk BK199 NB199_0; replace BK206 := zk hk BK206 NB206_0; replace HK := zt HK hk; replace HB := za (hb); replace HI0 := za (hi); (try clear hb); (try clear hb2); (try clear hk); (try clear hi)))
     go_meet
     case rel => exact ⟨_, (t215), (t216), (by first | rfl | (simp; done) | (simp [*]; done)), H', ⟨by have := HJ6.out; first | omega | exact Nat.le_refl _⟩, ⟨by (with_reducible repeat (first | refine blk_drewN ?_ _ | refine blk_drew ?_ | refine blk_alloc ?_ _)); exact BK199.out⟩, ⟨by (with_reducible repeat (first | refine blk_drewN ?_ _ | refine blk_drew ?_ | refine blk_alloc ?_ _)); exact BK206.out⟩, ⟨by repeat (first | (with_reducible first | exact HI0.out | apply IsS61.alloc | apply IsS61.drewN | apply IsS61.drew | apply IsS61.set_1 | refine IsS61.far ?_ NB0_199.out _ | refine IsS61.far ?_ NB0_206.out _) | exact HI0.out)⟩, ⟨by repeat (first | (with_reducible first | exact HK.out | apply KeepBut.set_ | apply keep_drewN | apply keep_drew | apply keep_alloc | refine keep_far ?_ GW199.out _ | refine keep_far ?_ GW206.out _) | exact HK.out)⟩, ⟨zm HB⟩⟩
    ·rw [if_neg c29] at H
     have c29b0 : decide (0 < a1) = false := decide_eq_false c29
     clear c29
     (first | rw [c29b0] | (simp only [i64_w, i32_w]; rw [c29b0]) | skip)
     have H' := za H
     clear H
     go_wp2
     go_meet
     case rel => exact ⟨_, (false), (x1001_6), (by first | rfl | (simp; done) | (simp [*]; done)), H', ⟨by have := HJ6.out; first | omega | exact Nat.le_refl _⟩, ⟨by (with_reducible repeat (first | refine blk_drewN ?_ _ | refine blk_drew ?_ | refine blk_alloc ?_ _)); exact BK199.out⟩, ⟨by (with_reducible repeat (first | refine blk_drewN ?_ _ | refine blk_drew ?_ | refine blk_alloc ?_ _)); exact BK206.out⟩, ⟨by repeat (first | (with_reducible first | exact HI0.out | apply IsS61.alloc | apply IsS61.drewN | apply IsS61.drew | apply IsS61.set_1 | refine IsS61.far ?_ NB0_199.out _ | refine IsS61.far ?_ NB0_206.out _) | exact HI0.out)⟩, ⟨by repeat (first | (with_reducible first | exact HK.out | apply KeepBut.set_ | apply keep_drewN | apply keep_drew | apply keep_alloc | refine keep_far ?_ GW199.out _ | refine keep_far ?_ GW206.out _) | exact HK.out)⟩, ⟨zm HB⟩⟩
   case rest =>
    clear HC28
    try clear c1
    try clear c2
    try clear p2
    try clear c3
    try clear c13
    try clear c14
    try clear c17
    try clear c17b0
    try clear c17b1
    try clear c21
    try clear c22
    try clear c23
    try clear c29
    try clear c29b0
    try clear hcz15_0
    try clear hcz15_1
    try clear hcz15_2
    try clear hcz15_3
    try clear hcz15_4
    try clear hcz15_5
    try clear hcz24_0
    try clear hcz24_1
    try clear hcz24_2
    try clear hcz24_3
    try clear hcz24_4
    try clear hcz24_5
    try clear hcz27_0
    try clear hcz27_1
    try clear hcz27_2
    try clear hcz27_3
    try clear hcz27_4
    try clear hcz27_5
    try clear hfz15_0
    try clear hfz15_1
    try clear hfz15_2
    try clear hfz15_3
    try clear hfz15_4
    try clear hfz15_5
    try clear hfz24_0
    try clear hfz24_1
    try clear hfz24_2
    try clear hfz24_3
    try clear hfz24_4
    try clear hfz24_5
    try clear hfz27_0
    try clear hfz27_1
    try clear hfz27_2
    try clear hfz27_3
    try clear hfz27_4
    try clear hfz27_5
    try clear p2
    obtain ⟨kq, x34_27, x1001_27, rfl, HA, HJ27, BK199, BK206, HI0, HK, HB⟩ := hcut
    cases kq with
    | zero => exact absurd HA.out (by simp [awardingbodymake_Tape_Part.j1])
    | succ kj27 =>
     have H := HA.out
     clear HA
     simp only [awardingbodymake_Tape_Part.j1] at H
     by_cases c32 : x34_27 = true
     ·subst c32
      have H1 : ((awardingbodymake_Tape_Next.f s0_0 x1001_27 6).bind fun bt217 => (if bt217.1 = 0 then ((awardingbodymake_Tape_Range.f s0_0 bt217.2 (-1) 3).bind fun bt219 => (some (bt219.1, x207001_6, t202, t204, x207004_6, x207005_6, bt219.2))) else (if bt217.1 = 1 then ((awardingbodymake_Tape_Pick.f s0_0 bt217.2 (([0, 40, 41, (-1)] : List Int))).bind fun bt224 => (some (x207000_6, bt224.1, t202, t204, x207004_6, x207005_6, bt224.2))) else (if bt217.1 = 2 then ((awardingbodymake_Tape_Wild.f s0_0 bt217.2).bind fun bt226 => (some (x207000_6, x207001_6, bt226.1, t204, x207004_6, x207005_6, bt226.2))) else (if bt217.1 = 3 then ((awardingbodymake_Tape_Wild.f s0_0 bt217.2).bind fun bt228 => (some (x207000_6, x207001_6, t202, bt228.1, x207004_6, x207005_6, bt228.2))) else (if bt217.1 = 4 then ((awardingbodymake_Tape_Range.f s0_0 bt217.2 (-1) 6).bind fun bt230 => (some (x207000_6, x207001_6, t202, t204, bt230.1, x207005_6, bt230.2))) else ((awardingbodymake_Tape_Range.f s0_0 bt217.2 (-1) 5).bind fun bt232 => (some (x207000_6, x207001_6, t202, t204, x207004_6, bt232.1, bt232.2))))))))) = some (r1, r2, r3, r4, r5, r6, r7) := by rw [if_pos rfl] at H; exact H
      clear H
      have H := H1
      clear H1
      replace H := Option.bind_eq_some_iff.mp H
      obtain ⟨⟨t217, t218⟩, A330, H⟩ := H
      replace H : (if t217 = 0 then ((awardingbodymake_Tape_Range.f s0_0 t218 (-1) 3).bind fun bt219 => (some (bt219.1, x207001_6, t202, t204, x207004_6, x207005_6, bt219.2))) else (if t217 = 1 then ((awardingbodymake_Tape_Pick.f s0_0 t218 (([0, 40, 41, (-1)] : List Int))).bind fun bt224 => (some (x207000_6, bt224.1, t202, t204, x207004_6, x207005_6, bt224.2))) else (if t217 = 2 then ((awardingbodymake_Tape_Wild.f s0_0 t218).bind fun bt226 => (some (x207000_6, x207001_6, bt226.1, t204, x207004_6, x207005_6, bt226.2))) else (if t217 = 3 then ((awardingbodymake_Tape_Wild.f s0_0 t218).bind fun bt228 => (some (x207000_6, x207001_6, t202, bt228.1, x207004_6, x207005_6, bt228.2))) else (if t217 = 4 then ((awardingbodymake_Tape_Range.f s0_0 t218 (-1) 6).bind fun bt230 => (some (x207000_6, x207001_6, t202, t204, bt230.1, x207005_6, bt230.2))) else ((awardingbodymake_Tape_Range.f s0_0 t218 (-1) 5).bind fun bt232 => (some (x207000_6, x207001_6, t202, t204, x207004_6, bt232.1, bt232.2)))))))) = some (r1, r2, r3, r4, r5, r6, r7) := H
      have A33 := za A330
      clear A330
      by_cases c34 : t217 = 0
      ·rw [if_pos c34] at H
       have c34b0 : (t217 == 0) = true := beq_iff_eq.mpr c34
       have c34b1 : (t217 != 0) = false := bne_eq_false_iff_eq.mpr c34
       clear c34
       replace H := Option.bind_eq_some_iff.mp H
       obtain ⟨⟨t219, t220⟩, A350, H⟩ := H
       replace H : (some (t219, x207001_6, t202, t204, x207004_6, x207005_6, t220)) = some (r1, r2, r3, r4, r5, r6, r7) := H
       have A35 := za A350
       clear A350
       simp only [Option.some.injEq, Prod.mk.injEq] at H
       obtain ⟨rfl, rfl, rfl, rfl, rfl, rfl, rfl⟩ := H
       go_wp2_with (first | ((with_reducible refine gate_callee (f := 21) rfl ?_); refine zL (some 36) Try.func21 #[.pointer (some ⟨g, 0, none⟩), .int .i64 6] ?_; (with_reducible refine (awardingbodymake_Tape_Next.calls g s0_0 x1001_27 6 t217 t218 w0 _ ?side1 ?side2 A33.out).mono ?_); (case side1 => repeat (first | (with_reducible first | exact HI0.out | apply IsS61.alloc | apply IsS61.drewN | apply IsS61.drew | apply IsS61.set_1 | refine IsS61.far ?_ NB0_199.out _ | refine IsS61.far ?_ NB0_206.out _) | exact HI0.out)); (case side2 => repeat (first | (with_reducible first | exact HB.out | apply below_alloc | apply pw_below_drewN | apply below_drew1 | refine below_set ?_ (IsS61.ge HI0.out) | refine below_set ?_ GE199.out | refine below_set ?_ GE206.out) | exact HB.out)); rintro e w36 ⟨rfl, hi, hb, hk⟩; refine ⟨_, rfl, ?_⟩; replace BK199 := zk hk BK199 NB199_0; replace BK206 := zk hk BK206 NB206_0; replace HK := zt HK hk; replace HB := za (hb); replace HI0 := za (hi); (try clear hb); (try clear hb2); (try clear hk); (try clear hi)) | ((with_reducible refine gate_callee (f := 34) rfl ?_); refine zL (some 43) Try.func34 #[.pointer (some ⟨g, 0, none⟩), .int .i64 (-1), .int .i64 3] ?_; (with_reducible refine (awardingbodymake_Tape_Range.calls g s0_0 t218 (-1) 3 t219 t220 w0 _ ?side1 ?side2 A35.out).mono ?_); (case side1 => repeat (first | (with_reducible first | exact HI0.out | apply IsS61.alloc | apply IsS61.drewN | apply IsS61.drew | apply IsS61.set_1 | refine IsS61.far ?_ NB0_199.out _ | refine IsS61.far ?_ NB0_206.out _) | exact HI0.out)); (case side2 => repeat (first | (with_reducible first | exact HB.out | apply below_alloc | apply pw_below_drewN | apply below_drew1 | refine below_set ?_ (IsS61.ge HI0.out) | refine below_set ?_ GE199.out | refine below_set ?_ GE206.out) | exact HB.out)); rintro e w37 ⟨rfl, hi, hb, hk⟩; refine ⟨_, rfl, ?_⟩; replace BK199 := zk hk BK199 NB199_0; replace BK206 := zk hk BK206 NB206_0; replace HK := zt HK hk; replace HB := za (hb); replace HI0 := za (hi); (try clear hb); (try clear hb2); (try clear hk); (try clear hi); have hnb38 := NB206_199.out; have hnc38 := NB199_206.out; have hnb39 := NB206_0.out; have hnc39 := NB0_206.out; obtain ⟨hcz40_0, hcz40_1, hcz40_2, hcz40_3, hcz40_4, hcz40_5, hfz40_0, hfz40_1, hfz40_2, hfz40_3, hfz40_4, hfz40_5⟩ := z6 BK206; have hnb41 := NB199_0.out; have hnc41 := NB0_199.out; obtain ⟨hcz42_0, hcz42_1, hcz42_2, hcz42_3, hcz42_4, hcz42_5, hfz42_0, hfz42_1, hfz42_2, hfz42_3, hfz42_4, hfz42_5⟩ := z6 BK199))
       refine bodyPost_ret (results_cell_row rfl _ _ gb199 23 #[.int .i64 t219, .int .i64 x207001_6, .int .i64 t202, .int .i64 t204, .int .i64 x207004_6, .int .i64 x207005_6] (0, 0) _ rfl (by (with_reducible repeat (first | refine blk_drewN ?_ _ | refine blk_drew ?_ | refine blk_alloc ?_ _)); refine blk_put (cs := #[.int .i64 t219, .int .i64 x207001_6, .int .i64 t202, .int .i64 t204, .int .i64 x207004_6, .int .i64 0]) ?_ 5 _ rfl; (with_reducible repeat (first | refine blk_drewN ?_ _ | refine blk_drew ?_ | refine blk_alloc ?_ _)); refine blk_put (cs := #[.int .i64 t219, .int .i64 x207001_6, .int .i64 t202, .int .i64 t204, .int .i64 0, .int .i64 0]) ?_ 4 _ rfl; (with_reducible repeat (first | refine blk_drewN ?_ _ | refine blk_drew ?_ | refine blk_alloc ?_ _)); refine blk_put (cs := #[.int .i64 t219, .int .i64 x207001_6, .int .i64 t202, .int .i64 0, .int .i64 0, .int .i64 0]) ?_ 3 _ rfl; (with_reducible repeat (first | refine blk_drewN ?_ _ | refine blk_drew ?_ | refine blk_alloc ?_ _)); refine blk_put (cs := #[.int .i64 t219, .int .i64 x207001_6, .int .i64 0, .int .i64 0, .int .i64 0, .int .i64 0]) ?_ 2 _ rfl; (with_reducible repeat (first | refine blk_drewN ?_ _ | refine blk_drew ?_ | refine blk_alloc ?_ _)); refine blk_put (cs := #[.int .i64 t219, .int .i64 0, .int .i64 0, .int .i64 0, .int .i64 0, .int .i64 0]) ?_ 1 _ rfl; (with_reducible repeat (first | refine blk_drewN ?_ _ | refine blk_drew ?_ | refine blk_alloc ?_ _)); refine blk_put (cs := #[.int .i64 0, .int .i64 0, .int .i64 0, .int .i64 0, .int .i64 0, .int .i64 0]) ?_ 0 _ rfl; (with_reducible repeat (first | refine blk_drewN ?_ _ | refine blk_drew ?_ | refine blk_alloc ?_ _)); refine blk_far ?_ NB199_206.out _; (with_reducible repeat (first | refine blk_drewN ?_ _ | refine blk_drew ?_ | refine blk_alloc ?_ _)); exact BK199.out) Try.underlying23 rfl (by kernel_rfl)) rfl ?_
       exact ⟨zf, by repeat (first | (with_reducible first | exact HI0.out | apply IsS61.alloc | apply IsS61.drewN | apply IsS61.drew | apply IsS61.set_1 | refine IsS61.far ?_ NB0_199.out _ | refine IsS61.far ?_ NB0_206.out _) | exact HI0.out), zm HB, by repeat (first | (with_reducible first | exact HK.out | apply KeepBut.set_ | apply keep_drewN | apply keep_drew | apply keep_alloc | refine keep_far ?_ GW199.out _ | refine keep_far ?_ GW206.out _) | exact HK.out)⟩
      ·rw [if_neg c34] at H
       have c34b0 : (t217 == 0) = false := beq_eq_false_iff_ne.mpr c34
       have c34b1 : (t217 != 0) = true := bne_iff_ne.mpr c34
       by_cases c43 : t217 = 1
       ·rw [if_pos c43] at H
        have c43b0 : (t217 == 1) = true := beq_iff_eq.mpr c43
        have c43b1 : (t217 != 1) = false := bne_eq_false_iff_eq.mpr c43
        clear c43
        obtain ⟨y221, hy221⟩ : ∃ y_ : List Int, y_ = (([0, 40, 41, (-1)] : List Int)) := ⟨_, rfl⟩
        replace H : ((awardingbodymake_Tape_Pick.f s0_0 t218 y221).bind fun bt224 => (some (x207000_6, bt224.1, t202, t204, x207004_6, x207005_6, bt224.2))) = some (r1, r2, r3, r4, r5, r6, r7) := by first | (rw [hy221]; with_reducible exact H) | (have H2_ := (Option.bind_some _ _).symm.trans H; rw [hy221]; with_reducible exact H2_) | (have H2_ := (Option.bind_some _ _).symm.trans H; with_reducible exact H2_) | with_reducible exact H | (rw [hy221]; exact H) | exact H
        have Ny221 := za hy221
        clear hy221
        replace H := Option.bind_eq_some_iff.mp H
        obtain ⟨⟨t224, t225⟩, A440, H⟩ := H
        replace H : (some (x207000_6, t224, t202, t204, x207004_6, x207005_6, t225)) = some (r1, r2, r3, r4, r5, r6, r7) := H
        have A44 := za A440
        clear A440
        simp only [Option.some.injEq, Prod.mk.injEq] at H
        obtain ⟨rfl, rfl, rfl, rfl, rfl, rfl, rfl⟩ := H
        go_wp2_with (first | ((with_reducible refine gate_callee (f := 21) rfl ?_); refine zL (some 36) Try.func21 #[.pointer (some ⟨g, 0, none⟩), .int .i64 6] ?_; (with_reducible refine (awardingbodymake_Tape_Next.calls g s0_0 x1001_27 6 t217 t218 w0 _ ?side1 ?side2 A33.out).mono ?_); (case side1 => repeat (first | (with_reducible first | exact HI0.out | apply IsS61.alloc | apply IsS61.drewN | apply IsS61.drew | apply IsS61.set_1 | refine IsS61.far ?_ NB0_199.out _ | refine IsS61.far ?_ NB0_206.out _) | exact HI0.out)); (case side2 => repeat (first | (with_reducible first | exact HB.out | apply below_alloc | apply pw_below_drewN | apply below_drew1 | refine below_set ?_ (IsS61.ge HI0.out) | refine below_set ?_ GE199.out | refine below_set ?_ GE206.out) | exact HB.out)); rintro e w45 ⟨rfl, hi, hb, hk⟩; refine ⟨_, rfl, ?_⟩; replace BK199 := zk hk BK199 NB199_0; replace BK206 := zk hk BK206 NB206_0; replace HK := zt HK hk; replace HB := za (hb); replace HI0 := za (hi); (try clear hb); (try clear hb2); (try clear hk); (try clear hi)) | ((with_reducible refine gate_dst (N := 48) rfl ?_); refine Kd.R_lit (Kd.int .i64) _ 3 ?hg (N := 48) ?hd (xs := ([0, 40, 41, (-1)] : List Int)) (inner := [.int .i64 0, .int .i64 40, .int .i64 41, .int .i64 (-1)]) (ok := fun _ => True) (okp := fun _ => True) ?hr ?hp (fun _ hk => hk) trivial (Below.refl _ _) (Nat.le_refl _) (by simp) ?_; (case hd => rfl); (case hg => rfl); (case hr => first | (go_simp; done) | (go_simp; rfl)); (case hp => exact (Reps.one (show Kd.M (Kd.int .i64) _ _ _ 0 [.int .i64 0] from rfl) (Reps.one (show Kd.M (Kd.int .i64) _ _ _ 40 [.int .i64 40] from rfl) (Reps.one (show Kd.M (Kd.int .i64) _ _ _ 41 [.int .i64 41] from rfl) (Reps.one (show Kd.M (Kd.int .i64) _ _ _ (-1) [.int .i64 (-1)] from rfl) (Reps.none _ _)))))); intro v222 w46 ho47 hb hg_ hnew_; clear hg_ hnew_; (first | rw [← Ny221.out] at ho47 | (simp only [Int.reduceToNat] at ho47; rw [← Ny221.out] at ho47)); have HO223 := za (Kd.R_lower ho47 (keep_size (w := w) (g := g) (row := none) (by repeat (first | (with_reducible first | exact HK.out | apply KeepBut.set_ | apply keep_drewN | apply keep_drew | apply keep_alloc | refine keep_far ?_ GW199.out _ | refine keep_far ?_ GW206.out _) | exact HK.out)))); replace BK199 := zb BK199 hb; replace BK206 := zb BK206 hb; replace HI0 := za (IsS61.below (by repeat (first | (with_reducible first | exact HI0.out | apply IsS61.alloc | apply IsS61.drewN | apply IsS61.drew | apply IsS61.set_1 | refine IsS61.far ?_ NB0_199.out _ | refine IsS61.far ?_ NB0_206.out _) | exact HI0.out)) hb); replace HK := zu HK hb; replace HB := zs HB hb; clear hb ho47; obtain ⟨Ao48, co48, eo48⟩ := Kd.R_slice HO223.out; subst eo48) | ((with_reducible refine gate_callee (f := 46) rfl ?_); refine zL (some 49) Try.func46 #[.pointer (some ⟨g, 0, none⟩), .slice Ao48 y221.length co48] ?_; (with_reducible refine (awardingbodymake_Tape_Pick.calls g s0_0 t218 _ _ y221 t224 t225 w0 _ ?side1 ?side2 ?side3 ?side4 ?side5 A44.out).mono ?_); (case side1 => repeat (first | (with_reducible first | exact HI0.out | apply IsS61.alloc | apply IsS61.drewN | apply IsS61.drew | apply IsS61.set_1 | refine IsS61.far ?_ NB0_199.out _ | refine IsS61.far ?_ NB0_206.out _) | exact HI0.out)); (case side2 => repeat (first | (with_reducible first | exact HB.out | apply below_alloc | apply pw_below_drewN | apply below_drew1 | refine below_set ?_ (IsS61.ge HI0.out) | refine below_set ?_ GE199.out | refine below_set ?_ GE206.out) | exact HB.out)); (case side3 => exact zD HO223); (case side4 => exact (Kd.R_reads' HO223.out).2.1); (case side5 => exact far_slice (IsS61.own_ne HI0.out HO223.out (by decide))); rintro e w49 ⟨rfl, hi, hb, hk⟩; refine ⟨_, rfl, ?_⟩; replace BK199 := zk hk BK199 NB199_0; replace BK206 := zk hk BK206 NB206_0; replace HO223 := za (Kd.R_mono (Kd.R_keep (IsS61.apart (show IsS61 w0 _ g s0_0 t218 from by repeat (first | (with_reducible first | exact HI0.out | apply IsS61.alloc | apply IsS61.drewN | apply IsS61.drew | apply IsS61.set_1 | refine IsS61.far ?_ NB0_199.out _ | refine IsS61.far ?_ NB0_206.out _) | exact HI0.out)) (by (with_reducible repeat (first | apply Kd.R_alloc | apply Kd.R_drewN | apply Kd.R_drew)); exact HO223.out) (by decide)) hk (fun _ h => h.2)) (fun _ h => h.1)); replace HK := zt HK hk; replace HB := za (hb); replace HI0 := za (hi); (try clear hb); (try clear hb2); (try clear hk); (try clear hi); have hnb50 := NB206_199.out; have hnc50 := NB199_206.out; have hnb51 := NB206_0.out; have hnc51 := NB0_206.out; obtain ⟨hcz52_0, hcz52_1, hcz52_2, hcz52_3, hcz52_4, hcz52_5, hfz52_0, hfz52_1, hfz52_2, hfz52_3, hfz52_4, hfz52_5⟩ := z6 BK206; have hnb53 := NB199_0.out; have hnc53 := NB0_199.out; obtain ⟨hcz54_0, hcz54_1, hcz54_2, hcz54_3, hcz54_4, hcz54_5, hfz54_0, hfz54_1, hfz54_2, hfz54_3, hfz54_4, hfz54_5⟩ := z6 BK199))
        refine bodyPost_ret (results_cell_row rfl _ _ gb199 23 #[.int .i64 x207000_6, .int .i64 t224, .int .i64 t202, .int .i64 t204, .int .i64 x207004_6, .int .i64 x207005_6] (0, 0) _ rfl (by (with_reducible repeat (first | refine blk_drewN ?_ _ | refine blk_drew ?_ | refine blk_alloc ?_ _)); refine blk_put (cs := #[.int .i64 x207000_6, .int .i64 t224, .int .i64 t202, .int .i64 t204, .int .i64 x207004_6, .int .i64 0]) ?_ 5 _ rfl; (with_reducible repeat (first | refine blk_drewN ?_ _ | refine blk_drew ?_ | refine blk_alloc ?_ _)); refine blk_put (cs := #[.int .i64 x207000_6, .int .i64 t224, .int .i64 t202, .int .i64 t204, .int .i64 0, .int .i64 0]) ?_ 4 _ rfl; (with_reducible repeat (first | refine blk_drewN ?_ _ | refine blk_drew ?_ | refine blk_alloc ?_ _)); refine blk_put (cs := #[.int .i64 x207000_6, .int .i64 t224, .int .i64 t202, .int .i64 0, .int .i64 0, .int .i64 0]) ?_ 3 _ rfl; (with_reducible repeat (first | refine blk_drewN ?_ _ | refine blk_drew ?_ | refine blk_alloc ?_ _)); refine blk_put (cs := #[.int .i64 x207000_6, .int .i64 t224, .int .i64 0, .int .i64 0, .int .i64 0, .int .i64 0]) ?_ 2 _ rfl; (with_reducible repeat (first | refine blk_drewN ?_ _ | refine blk_drew ?_ | refine blk_alloc ?_ _)); refine blk_put (cs := #[.int .i64 x207000_6, .int .i64 0, .int .i64 0, .int .i64 0, .int .i64 0, .int .i64 0]) ?_ 1 _ rfl; (with_reducible repeat (first | refine blk_drewN ?_ _ | refine blk_drew ?_ | refine blk_alloc ?_ _)); refine blk_put (cs := #[.int .i64 0, .int .i64 0, .int .i64 0, .int .i64 0, .int .i64 0, .int .i64 0]) ?_ 0 _ rfl; (with_reducible repeat (first | refine blk_drewN ?_ _ | refine blk_drew ?_ | refine blk_alloc ?_ _)); refine blk_far ?_ NB199_206.out _; (with_reducible repeat (first | refine blk_drewN ?_ _ | refine blk_drew ?_ | refine blk_alloc ?_ _)); exact BK199.out) Try.underlying23 rfl (by kernel_rfl)) rfl ?_
        exact ⟨zf, by repeat (first | (with_reducible first | exact HI0.out | apply IsS61.alloc | apply IsS61.drewN | apply IsS61.drew | apply IsS61.set_1 | refine IsS61.far ?_ NB0_199.out _ | refine IsS61.far ?_ NB0_206.out _) | exact HI0.out), zm HB, by repeat (first | (with_reducible first | exact HK.out | apply KeepBut.set_ | apply keep_drewN | apply keep_drew | apply keep_alloc | refine keep_far ?_ GW199.out _ | refine keep_far ?_ GW206.out _) | exact HK.out)⟩
       ·rw [if_neg c43] at H
        have c43b0 : (t217 == 1) = false := beq_eq_false_iff_ne.mpr c43
        have c43b1 : (t217 != 1) = true := bne_iff_ne.mpr c43
        by_cases c55 : t217 = 2
        ·rw [if_pos c55] at H
         have c55b0 : (t217 == 2) = true := beq_iff_eq.mpr c55
         have c55b1 : (t217 != 2) = false := bne_eq_false_iff_eq.mpr c55
         clear c55
         replace H := Option.bind_eq_some_iff.mp H
         obtain ⟨⟨t226, t227⟩, A560, H⟩ := H
         replace H : (some (x207000_6, x207001_6, t226, t204, x207004_6, x207005_6, t227)) = some (r1, r2, r3, r4, r5, r6, r7) := H
         have A56 := za A560
         clear A560
         simp only [Option.some.injEq, Prod.mk.injEq] at H
         obtain ⟨rfl, rfl, rfl, rfl, rfl, rfl, rfl⟩ := H
         go_wp2_with (first | ((with_reducible refine gate_callee (f := 21) rfl ?_); refine zL (some 36) Try.func21 #[.pointer (some ⟨g, 0, none⟩), .int .i64 6] ?_; (with_reducible refine (awardingbodymake_Tape_Next.calls g s0_0 x1001_27 6 t217 t218 w0 _ ?side1 ?side2 A33.out).mono ?_); (case side1 => repeat (first | (with_reducible first | exact HI0.out | apply IsS61.alloc | apply IsS61.drewN | apply IsS61.drew | apply IsS61.set_1 | refine IsS61.far ?_ NB0_199.out _ | refine IsS61.far ?_ NB0_206.out _) | exact HI0.out)); (case side2 => repeat (first | (with_reducible first | exact HB.out | apply below_alloc | apply pw_below_drewN | apply below_drew1 | refine below_set ?_ (IsS61.ge HI0.out) | refine below_set ?_ GE199.out | refine below_set ?_ GE206.out) | exact HB.out)); rintro e w57 ⟨rfl, hi, hb, hk⟩; refine ⟨_, rfl, ?_⟩; replace BK199 := zk hk BK199 NB199_0; replace BK206 := zk hk BK206 NB206_0; replace HK := zt HK hk; replace HB := za (hb); replace HI0 := za (hi); (try clear hb); (try clear hb2); (try clear hk); (try clear hi)) | ((with_reducible refine gate_callee (f := 36) rfl ?_); refine zL (some 54) Try.func36 #[.pointer (some ⟨g, 0, none⟩)] ?_; (with_reducible refine (awardingbodymake_Tape_Wild.calls g s0_0 t218 t226 t227 w0 _ ?side1 ?side2 A56.out).mono ?_); (case side1 => repeat (first | (with_reducible first | exact HI0.out | apply IsS61.alloc | apply IsS61.drewN | apply IsS61.drew | apply IsS61.set_1 | refine IsS61.far ?_ NB0_199.out _ | refine IsS61.far ?_ NB0_206.out _) | exact HI0.out)); (case side2 => repeat (first | (with_reducible first | exact HB.out | apply below_alloc | apply pw_below_drewN | apply below_drew1 | refine below_set ?_ (IsS61.ge HI0.out) | refine below_set ?_ GE199.out | refine below_set ?_ GE206.out) | exact HB.out)); rintro e w58 ⟨rfl, hi, hb, hk⟩; refine ⟨_, rfl, ?_⟩; replace BK199 := zk hk BK199 NB199_0; replace BK206 := zk hk BK206 NB206_0; replace HK := zt HK hk; replace HB := za (hb); replace HI0 := za (hi); (try clear hb); (try clear hb2); (try clear hk); (try clear hi); have hnb59 := NB206_199.out; have hnc59 := NB199_206.out; have hnb60 := NB206_0.out; have hnc60 := NB0_206.out; obtain ⟨hcz61_0, hcz61_1, hcz61_2, hcz61_3, hcz61_4, hcz61_5, hfz61_0, hfz61_1, hfz61_2, hfz61_3, hfz61_4, hfz61_5⟩ := z6 BK206; have hnb62 := NB199_0.out; have hnc62 := NB0_199.out; obtain ⟨hcz63_0, hcz63_1, hcz63_2, hcz63_3, hcz63_4, hcz63_5, hfz63_0, hfz63_1, hfz63_2, hfz63_3, hfz63_4, hfz63_5⟩ := z6 BK199))
         refine bodyPost_ret (results_cell_row rfl _ _ gb199 23 #[.int .i64 x207000_6, .int .i64 x207001_6, .int .i64 t226, .int .i64 t204, .int .i64 x207004_6, .int .i64 x207005_6] (0, 0) _ rfl (by (with_reducible repeat (first | refine blk_drewN ?_ _ | refine blk_drew ?_ | refine blk_alloc ?_ _)); refine blk_put (cs := #[.int .i64 x207000_6, .int .i64 x207001_6, .int .i64 t226, .int .i64 t204, .int .i64 x207004_6, .int .i64 0]) ?_ 5 _ rfl; (with_reducible repeat (first | refine blk_drewN ?_ _ | refine blk_drew ?_ | refine blk_alloc ?_ _)); refine blk_put (cs := #[.int .i64 x207000_6, .int .i64 x207001_6, .int .i64 t226, .int .i64 t204, .int .i64 0, .int .i64 0]) ?_ 4 _ rfl; (with_reducible repeat (first | refine blk_drewN ?_ _ | refine blk_drew ?_ | refine blk_alloc ?_ _)); refine blk_put (cs := #[.int .i64 x207000_6, .int .i64 x207001_6, .int .i64 t226, .int .i64 0, .int .i64 0, .int .i64 0]) ?_ 3 _ rfl; (with_reducible repeat (first | refine blk_drewN ?_ _ | refine blk_drew ?_ | refine blk_alloc ?_ _)); refine blk_put (cs := #[.int .i64 x207000_6, .int .i64 x207001_6, .int .i64 0, .int .i64 0, .int .i64 0, .int .i64 0]) ?_ 2 _ rfl; (with_reducible repeat (first | refine blk_drewN ?_ _ | refine blk_drew ?_ | refine blk_alloc ?_ _)); refine blk_put (cs := #[.int .i64 x207000_6, .int .i64 0, .int .i64 0, .int .i64 0, .int .i64 0, .int .i64 0]) ?_ 1 _ rfl; (with_reducible repeat (first | refine blk_drewN ?_ _ | refine blk_drew ?_ | refine blk_alloc ?_ _)); refine blk_put (cs := #[.int .i64 0, .int .i64 0, .int .i64 0, .int .i64 0, .int .i64 0, .int .i64 0]) ?_ 0 _ rfl; (with_reducible repeat (first | refine blk_drewN ?_ _ | refine blk_drew ?_ | refine blk_alloc ?_ _)); refine blk_far ?_ NB199_206.out _; (with_reducible repeat (first | refine blk_drewN ?_ _ | refine blk_drew ?_ | refine blk_alloc ?_ _)); exact BK199.out) Try.underlying23 rfl (by kernel_rfl)) rfl ?_
         exact ⟨zf, by repeat (first | (with_reducible first | exact HI0.out | apply IsS61.alloc | apply IsS61.drewN | apply IsS61.drew | apply IsS61.set_1 | refine IsS61.far ?_ NB0_199.out _ | refine IsS61.far ?_ NB0_206.out _) | exact HI0.out), zm HB, by repeat (first | (with_reducible first | exact HK.out | apply KeepBut.set_ | apply keep_drewN | apply keep_drew | apply keep_alloc | refine keep_far ?_ GW199.out _ | refine keep_far ?_ GW206.out _) | exact HK.out)⟩
        ·rw [if_neg c55] at H
         have c55b0 : (t217 == 2) = false := beq_eq_false_iff_ne.mpr c55
         have c55b1 : (t217 != 2) = true := bne_iff_ne.mpr c55
         by_cases c64 : t217 = 3
         ·rw [if_pos c64] at H
          have c64b0 : (t217 == 3) = true := beq_iff_eq.mpr c64
          have c64b1 : (t217 != 3) = false := bne_eq_false_iff_eq.mpr c64
          clear c64
          replace H := Option.bind_eq_some_iff.mp H
          obtain ⟨⟨t228, t229⟩, A650, H⟩ := H
          replace H : (some (x207000_6, x207001_6, t202, t228, x207004_6, x207005_6, t229)) = some (r1, r2, r3, r4, r5, r6, r7) := H
          have A65 := za A650
          clear A650
          simp only [Option.some.injEq, Prod.mk.injEq] at H
          obtain ⟨rfl, rfl, rfl, rfl, rfl, rfl, rfl⟩ := H
          go_wp2_with (first | ((with_reducible refine gate_callee (f := 21) rfl ?_); refine zL (some 36) Try.func21 #[.pointer (some ⟨g, 0, none⟩), .int .i64 6] ?_; (with_reducible refine (awardingbodymake_Tape_Next.calls g s0_0 x1001_27 6 t217 t218 w0 _ ?side1 ?side2 A33.out).mono ?_); (case side1 => repeat (first | (with_reducible first | exact HI0.out | apply IsS61.alloc | apply IsS61.drewN | apply IsS61.drew | apply IsS61.set_1 | refine IsS61.far ?_ NB0_199.out _ | refine IsS61.far ?_ NB0_206.out _) | exact HI0.out)); (case side2 => repeat (first | (with_reducible first | exact HB.out | apply below_alloc | apply pw_below_drewN | apply below_drew1 | refine below_set ?_ (IsS61.ge HI0.out) | refine below_set ?_ GE199.out | refine below_set ?_ GE206.out) | exact HB.out)); rintro e w66 ⟨rfl, hi, hb, hk⟩; refine ⟨_, rfl, ?_⟩; replace BK199 := zk hk BK199 NB199_0; replace BK206 := zk hk BK206 NB206_0; replace HK := zt HK hk; replace HB := za (hb); replace HI0 := za (hi); (try clear hb); (try clear hb2); (try clear hk); (try clear hi)) | ((with_reducible refine gate_callee (f := 36) rfl ?_); refine zL (some 59) Try.func36 #[.pointer (some ⟨g, 0, none⟩)] ?_; (with_reducible refine (awardingbodymake_Tape_Wild.calls g s0_0 t218 t228 t229 w0 _ ?side1 ?side2 A65.out).mono ?_); (case side1 => repeat (first | (with_reducible first | exact HI0.out | apply IsS61.alloc | apply IsS61.drewN | apply IsS61.drew | apply IsS61.set_1 | refine IsS61.far ?_ NB0_199.out _ | refine IsS61.far ?_ NB0_206.out _) | exact HI0.out)); (case side2 => repeat (first | (with_reducible first | exact HB.out | apply below_alloc | apply pw_below_drewN | apply below_drew1 | refine below_set ?_ (IsS61.ge HI0.out) | refine below_set ?_ GE199.out | refine below_set ?_ GE206.out) | exact HB.out)); rintro e w67 ⟨rfl, hi, hb, hk⟩; refine ⟨_, rfl, ?_⟩; replace BK199 := zk hk BK199 NB199_0; replace BK206 := zk hk BK206 NB206_0; replace HK := zt HK hk; replace HB := za (hb); replace HI0 := za (hi); (try clear hb); (try clear hb2); (try clear hk); (try clear hi); have hnb68 := NB206_199.out; have hnc68 := NB199_206.out; have hnb69 := NB206_0.out; have hnc69 := NB0_206.out; obtain ⟨hcz70_0, hcz70_1, hcz70_2, hcz70_3, hcz70_4, hcz70_5, hfz70_0, hfz70_1, hfz70_2, hfz70_3, hfz70_4, hfz70_5⟩ := z6 BK206; have hnb71 := NB199_0.out; have hnc71 := NB0_199.out; obtain ⟨hcz72_0, hcz72_1, hcz72_2, hcz72_3, hcz72_4, hcz72_5, hfz72_0, hfz72_1, hfz72_2, hfz72_3, hfz72_4, hfz72_5⟩ := z6 BK199))
          refine bodyPost_ret (results_cell_row rfl _ _ gb199 23 #[.int .i64 x207000_6, .int .i64 x207001_6, .int .i64 t202, .int .i64 t228, .int .i64 x207004_6, .int .i64 x207005_6] (0, 0) _ rfl (by (with_reducible repeat (first | refine blk_drewN ?_ _ | refine blk_drew ?_ | refine blk_alloc ?_ _)); refine blk_put (cs := #[.int .i64 x207000_6, .int .i64 x207001_6, .int .i64 t202, .int .i64 t228, .int .i64 x207004_6, .int .i64 0]) ?_ 5 _ rfl; (with_reducible repeat (first | refine blk_drewN ?_ _ | refine blk_drew ?_ | refine blk_alloc ?_ _)); refine blk_put (cs := #[.int .i64 x207000_6, .int .i64 x207001_6, .int .i64 t202, .int .i64 t228, .int .i64 0, .int .i64 0]) ?_ 4 _ rfl; (with_reducible repeat (first | refine blk_drewN ?_ _ | refine blk_drew ?_ | refine blk_alloc ?_ _)); refine blk_put (cs := #[.int .i64 x207000_6, .int .i64 x207001_6, .int .i64 t202, .int .i64 0, .int .i64 0, .int .i64 0]) ?_ 3 _ rfl; (with_reducible repeat (first | refine blk_drewN ?_ _ | refine blk_drew ?_ | refine blk_alloc ?_ _)); refine blk_put (cs := #[.int .i64 x207000_6, .int .i64 x207001_6, .int .i64 0, .int .i64 0, .int .i64 0, .int .i64 0]) ?_ 2 _ rfl; (with_reducible repeat (first | refine blk_drewN ?_ _ | refine blk_drew ?_ | refine blk_alloc ?_ _)); refine blk_put (cs := #[.int .i64 x207000_6, .int .i64 0, .int .i64 0, .int .i64 0, .int .i64 0, .int .i64 0]) ?_ 1 _ rfl; (with_reducible repeat (first | refine blk_drewN ?_ _ | refine blk_drew ?_ | refine blk_alloc ?_ _)); refine blk_put (cs := #[.int .i64 0, .int .i64 0, .int .i64 0, .int .i64 0, .int .i64 0, .int .i64 0]) ?_ 0 _ rfl; (with_reducible repeat (first | refine blk_drewN ?_ _ | refine blk_drew ?_ | refine blk_alloc ?_ _)); refine blk_far ?_ NB199_206.out _; (with_reducible repeat (first | refine blk_drewN ?_ _ | refine blk_drew ?_ | refine blk_alloc ?_ _)); exact BK199.out) Try.underlying23 rfl (by kernel_rfl)) rfl ?_
          exact ⟨zf, by repeat (first | (with_reducible first | exact HI0.out | apply IsS61.alloc | apply IsS61.drewN | apply IsS61.drew | apply IsS61.set_1 | refine IsS61.far ?_ NB0_199.out _ | refine IsS61.far ?_ NB0_206.out _) | exact HI0.out), zm HB, by repeat (first | (with_reducible first | exact HK.out | apply KeepBut.set_ | apply keep_drewN | apply keep_drew | apply keep_alloc | refine keep_far ?_ GW199.out _ | refine keep_far ?_ GW206.out _) | exact HK.out)⟩
         ·rw [if_neg c64] at H
          have c64b0 : (t217 == 3) = false := beq_eq_false_iff_ne.mpr c64
          have c64b1 : (t217 != 3) = true := bne_iff_ne.mpr c64
          by_cases c73 : t217 = 4
          ·rw [if_pos c73] at H
           have c73b0 : (t217 == 4) = true := beq_iff_eq.mpr c73
           have c73b1 : (t217 != 4) = false := bne_eq_false_iff_eq.mpr c73
           clear c73
           replace H := Option.bind_eq_some_iff.mp H
           obtain ⟨⟨t230, t231⟩, A740, H⟩ := H
           replace H : (some (x207000_6, x207001_6, t202, t204, t230, x207005_6, t231)) = some (r1, r2, r3, r4, r5, r6, r7) := H
           have A74 := za A740
           clear A740
           simp only [Option.some.injEq, Prod.mk.injEq] at H
           obtain ⟨rfl, rfl, rfl, rfl, rfl, rfl, rfl⟩ := H
           go_wp2_with (first | ((with_reducible refine gate_callee (f := 21) rfl ?_); refine zL (some 36) Try.func21 #[.pointer (some ⟨g, 0, none⟩), .int .i64 6] ?_; (with_reducible refine (awardingbodymake_Tape_Next.calls g s0_0 x1001_27 6 t217 t218 w0 _ ?side1 ?side2 A33.out).mono ?_); (case side1 => repeat (first | (with_reducible first | exact HI0.out | apply IsS61.alloc | apply IsS61.drewN | apply IsS61.drew | apply IsS61.set_1 | refine IsS61.far ?_ NB0_199.out _ | refine IsS61.far ?_ NB0_206.out _) | exact HI0.out)); (case side2 => repeat (first | (with_reducible first | exact HB.out | apply below_alloc | apply pw_below_drewN | apply below_drew1 | refine below_set ?_ (IsS61.ge HI0.out) | refine below_set ?_ GE199.out | refine below_set ?_ GE206.out) | exact HB.out)); rintro e w75 ⟨rfl, hi, hb, hk⟩; refine ⟨_, rfl, ?_⟩; replace BK199 := zk hk BK199 NB199_0; replace BK206 := zk hk BK206 NB206_0; replace HK := zt HK hk; replace HB := za (hb); replace HI0 := za (hi); (try clear hb); (try clear hb2); (try clear hk); (try clear hi)) | ((with_reducible refine gate_callee (f := 34) rfl ?_); refine zL (some 64) Try.func34 #[.pointer (some ⟨g, 0, none⟩), .int .i64 (-1), .int .i64 6] ?_; (with_reducible refine (awardingbodymake_Tape_Range.calls g s0_0 t218 (-1) 6 t230 t231 w0 _ ?side1 ?side2 A74.out).mono ?_); (case side1 => repeat (first | (with_reducible first | exact HI0.out | apply IsS61.alloc | apply IsS61.drewN | apply IsS61.drew | apply IsS61.set_1 | refine IsS61.far ?_ NB0_199.out _ | refine IsS61.far ?_ NB0_206.out _) | exact HI0.out)); (case side2 => repeat (first | (with_reducible first | exact HB.out | apply below_alloc | apply pw_below_drewN | apply below_drew1 | refine below_set ?_ (IsS61.ge HI0.out) | refine below_set ?_ GE199.out | refine below_set ?_ GE206.out) | exact HB.out)); rintro e w76 ⟨rfl, hi, hb, hk⟩; refine ⟨_, rfl, ?_⟩; replace BK199 := zk hk BK199 NB199_0; replace BK206 := zk hk BK206 NB206_0; replace HK := zt HK hk; replace HB := za (hb); replace HI0 := za (hi); (try clear hb); (try clear hb2); (try clear hk); (try clear hi); have hnb77 := NB206_199.out; have hnc77 := NB199_206.out; have hnb78 := NB206_0.out; have hnc78 := NB0_206.out; obtain ⟨hcz79_0, hcz79_1, hcz79_2, hcz79_3, hcz79_4, hcz79_5, hfz79_0, hfz79_1, hfz79_2, hfz79_3, hfz79_4, hfz79_5⟩ := z6 BK206; have hnb80 := NB199_0.out; have hnc80 := NB0_199.out; obtain ⟨hcz81_0, hcz81_1, hcz81_2, hcz81_3, hcz81_4, hcz81_5, hfz81_0, hfz81_1, hfz81_2, hfz81_3, hfz81_4, hfz81_5⟩ := z6 BK199))
           refine bodyPost_ret (results_cell_row rfl _ _ gb199 23 #[.int .i64 x207000_6, .int .i64 x207001_6, .int .i64 t202, .int .i64 t204, .int .i64 t230, .int .i64 x207005_6] (0, 0) _ rfl (by (with_reducible repeat (first | refine blk_drewN ?_ _ | refine blk_drew ?_ | refine blk_alloc ?_ _)); refine blk_put (cs := #[.int .i64 x207000_6, .int .i64 x207001_6, .int .i64 t202, .int .i64 t204, .int .i64 t230, .int .i64 0]) ?_ 5 _ rfl; (with_reducible repeat (first | refine blk_drewN ?_ _ | refine blk_drew ?_ | refine blk_alloc ?_ _)); refine blk_put (cs := #[.int .i64 x207000_6, .int .i64 x207001_6, .int .i64 t202, .int .i64 t204, .int .i64 0, .int .i64 0]) ?_ 4 _ rfl; (with_reducible repeat (first | refine blk_drewN ?_ _ | refine blk_drew ?_ | refine blk_alloc ?_ _)); refine blk_put (cs := #[.int .i64 x207000_6, .int .i64 x207001_6, .int .i64 t202, .int .i64 0, .int .i64 0, .int .i64 0]) ?_ 3 _ rfl; (with_reducible repeat (first | refine blk_drewN ?_ _ | refine blk_drew ?_ | refine blk_alloc ?_ _)); refine blk_put (cs := #[.int .i64 x207000_6, .int .i64 x207001_6, .int .i64 0, .int .i64 0, .int .i64 0, .int .i64 0]) ?_ 2 _ rfl; (with_reducible repeat (first | refine blk_drewN ?_ _ | refine blk_drew ?_ | refine blk_alloc ?_ _)); refine blk_put (cs := #[.int .i64 x207000_6, .int .i64 0, .int .i64 0, .int .i64 0, .int .i64 0, .int .i64 0]) ?_ 1 _ rfl; (with_reducible repeat (first | refine blk_drewN ?_ _ | refine blk_drew ?_ | refine blk_alloc ?_ _)); refine blk_put (cs := #[.int .i64 0, .int .i64 0, .int .i64 0, .int .i64 0, .int .i64 0, .int .i64 0]) ?_ 0 _ rfl; (with_reducible repeat (first | refine blk_drewN ?_ _ | refine blk_drew ?_ | refine blk_alloc ?_ _)); refine blk_far ?_ NB199_206.out _; (with_reducible repeat (first | refine blk_drewN ?_ _ | refine blk_drew ?_ | refine blk_alloc ?_ _)); exact BK199.out) Try.underlying23 rfl (by kernel_rfl)) rfl ?_
           exact ⟨zf, by repeat (first | (with_reducible first | exact HI0.out | apply IsS61.alloc | apply IsS61.drewN | apply IsS61.drew | apply IsS61.set_1 | refine IsS61.far ?_ NB0_199.out _ | refine IsS61.far ?_ NB0_206.out _) | exact HI0.out), zm HB, by repeat (first | (with_reducible first | exact HK.out | apply KeepBut.set_ | apply keep_drewN | apply keep_drew | apply keep_alloc | refine keep_far ?_ GW199.out _ | refine keep_far ?_ GW206.out _) | exact HK.out)⟩
          ·rw [if_neg c73] at H
           have c73b0 : (t217 == 4) = false := beq_eq_false_iff_ne.mpr c73
           have c73b1 : (t217 != 4) = true := bne_iff_ne.mpr c73
           replace H := Option.bind_eq_some_iff.mp H
           obtain ⟨⟨t232, t233⟩, A820, H⟩ := H
           replace H : (some (x207000_6, x207001_6, t202, t204, x207004_6, t232, t233)) = some (r1, r2, r3, r4, r5, r6, r7) := H
           have A82 := za A820
           clear A820
           simp only [Option.some.injEq, Prod.mk.injEq] at H
           obtain ⟨rfl, rfl, rfl, rfl, rfl, rfl, rfl⟩ := H
           go_wp2_with (first | ((with_reducible refine gate_callee (f := 21) rfl ?_); refine zL (some 36) Try.func21 #[.pointer (some ⟨g, 0, none⟩), .int .i64 6] ?_; (with_reducible refine (awardingbodymake_Tape_Next.calls g s0_0 x1001_27 6 t217 t218 w0 _ ?side1 ?side2 A33.out).mono ?_); (case side1 => repeat (first | (with_reducible first | exact HI0.out | apply IsS61.alloc | apply IsS61.drewN | apply IsS61.drew | apply IsS61.set_1 | refine IsS61.far ?_ NB0_199.out _ | refine IsS61.far ?_ NB0_206.out _) | exact HI0.out)); (case side2 => repeat (first | (with_reducible first | exact HB.out | apply below_alloc | apply pw_below_drewN | apply below_drew1 | refine below_set ?_ (IsS61.ge HI0.out) | refine below_set ?_ GE199.out | refine below_set ?_ GE206.out) | exact HB.out)); rintro e w83 ⟨rfl, hi, hb, hk⟩; refine ⟨_, rfl, ?_⟩; replace BK199 := zk hk BK199 NB199_0; replace BK206 := zk hk BK206 NB206_0; replace HK := zt HK hk; replace HB := za (hb); replace HI0 := za (hi); (try clear hb); (try clear hb2); (try clear hk); (try clear hi)) | ((with_reducible refine gate_callee (f := 34) rfl ?_); refine zL (some 38) Try.func34 #[.pointer (some ⟨g, 0, none⟩), .int .i64 (-1), .int .i64 5] ?_; (with_reducible refine (awardingbodymake_Tape_Range.calls g s0_0 t218 (-1) 5 t232 t233 w0 _ ?side1 ?side2 A82.out).mono ?_); (case side1 => repeat (first | (with_reducible first | exact HI0.out | apply IsS61.alloc | apply IsS61.drewN | apply IsS61.drew | apply IsS61.set_1 | refine IsS61.far ?_ NB0_199.out _ | refine IsS61.far ?_ NB0_206.out _) | exact HI0.out)); (case side2 => repeat (first | (with_reducible first | exact HB.out | apply below_alloc | apply pw_below_drewN | apply below_drew1 | refine below_set ?_ (IsS61.ge HI0.out) | refine below_set ?_ GE199.out | refine below_set ?_ GE206.out) | exact HB.out)); rintro e w84 ⟨rfl, hi, hb, hk⟩; refine ⟨_, rfl, ?_⟩; replace BK199 := zk hk BK199 NB199_0; replace BK206 := zk hk BK206 NB206_0; replace HK := zt HK hk; replace HB := za (hb); replace HI0 := za (hi); (try clear hb); (try clear hb2); (try clear hk); (try clear hi); have hnb85 := NB206_199.out; have hnc85 := NB199_206.out; have hnb86 := NB206_0.out; have hnc86 := NB0_206.out; obtain ⟨hcz87_0, hcz87_1, hcz87_2, hcz87_3, hcz87_4, hcz87_5, hfz87_0, hfz87_1, hfz87_2, hfz87_3, hfz87_4, hfz87_5⟩ := z6 BK206; have hnb88 := NB199_0.out; have hnc88 := NB0_199.out; obtain ⟨hcz89_0, hcz89_1, hcz89_2, hcz89_3, hcz89_4, hcz89_5, hfz89_0, hfz89_1, hfz89_2, hfz89_3, hfz89_4, hfz89_5⟩ := z6 BK199))
           refine bodyPost_ret (results_cell_row rfl _ _ gb199 23 #[.int .i64 x207000_6, .int .i64 x207001_6, .int .i64 t202, .int .i64 t204, .int .i64 x207004_6, .int .i64 t232] (0, 0) _ rfl (by (with_reducible repeat (first | refine blk_drewN ?_ _ | refine blk_drew ?_ | refine blk_alloc ?_ _)); refine blk_put (cs := #[.int .i64 x207000_6, .int .i64 x207001_6, .int .i64 t202, .int .i64 t204, .int .i64 x207004_6, .int .i64 0]) ?_ 5 _ rfl; (with_reducible repeat (first | refine blk_drewN ?_ _ | refine blk_drew ?_ | refine blk_alloc ?_ _)); refine blk_put (cs := #[.int .i64 x207000_6, .int .i64 x207001_6, .int .i64 t202, .int .i64 t204, .int .i64 0, .int .i64 0]) ?_ 4 _ rfl; (with_reducible repeat (first | refine blk_drewN ?_ _ | refine blk_drew ?_ | refine blk_alloc ?_ _)); refine blk_put (cs := #[.int .i64 x207000_6, .int .i64 x207001_6, .int .i64 t202, .int .i64 0, .int .i64 0, .int .i64 0]) ?_ 3 _ rfl; (with_reducible repeat (first | refine blk_drewN ?_ _ | refine blk_drew ?_ | refine blk_alloc ?_ _)); refine blk_put (cs := #[.int .i64 x207000_6, .int .i64 x207001_6, .int .i64 0, .int .i64 0, .int .i64 0, .int .i64 0]) ?_ 2 _ rfl; (with_reducible repeat (first | refine blk_drewN ?_ _ | refine blk_drew ?_ | refine blk_alloc ?_ _)); refine blk_put (cs := #[.int .i64 x207000_6, .int .i64 0, .int .i64 0, .int .i64 0, .int .i64 0, .int .i64 0]) ?_ 1 _ rfl; (with_reducible repeat (first | refine blk_drewN ?_ _ | refine blk_drew ?_ | refine blk_alloc ?_ _)); refine blk_put (cs := #[.int .i64 0, .int .i64 0, .int .i64 0, .int .i64 0, .int .i64 0, .int .i64 0]) ?_ 0 _ rfl; (with_reducible repeat (first | refine blk_drewN ?_ _ | refine blk_drew ?_ | refine blk_alloc ?_ _)); refine blk_far ?_ NB199_206.out _; (with_reducible repeat (first | refine blk_drewN ?_ _ | refine blk_drew ?_ | refine blk_alloc ?_ _)); exact BK199.out) Try.underlying23 rfl (by kernel_rfl)) rfl ?_
           exact ⟨zf, by repeat (first | (with_reducible first | exact HI0.out | apply IsS61.alloc | apply IsS61.drewN | apply IsS61.drew | apply IsS61.set_1 | refine IsS61.far ?_ NB0_199.out _ | refine IsS61.far ?_ NB0_206.out _) | exact HI0.out), zm HB, by repeat (first | (with_reducible first | exact HK.out | apply KeepBut.set_ | apply keep_drewN | apply keep_drew | apply keep_alloc | refine keep_far ?_ GW199.out _ | refine keep_far ?_ GW206.out _) | exact HK.out)⟩
     ·replace c32 := Bool.eq_false_iff.mpr c32
      subst c32
      have H1 : (some (x207000_6, x207001_6, t202, t204, x207004_6, x207005_6, x1001_27)) = some (r1, r2, r3, r4, r5, r6, r7) := by rw [if_neg (show ¬ (false = true) by decide)] at H; exact H
      clear H
      have H := H1
      clear H1
      simp only [Option.some.injEq, Prod.mk.injEq] at H
      obtain ⟨rfl, rfl, rfl, rfl, rfl, rfl, rfl⟩ := H
      have hnb90 := NB206_199.out
      have hnc90 := NB199_206.out
      have hnb91 := NB206_0.out
      have hnc91 := NB0_206.out
      obtain ⟨hcz92_0, hcz92_1, hcz92_2, hcz92_3, hcz92_4, hcz92_5, hfz92_0, hfz92_1, hfz92_2, hfz92_3, hfz92_4, hfz92_5⟩ := z6 BK206
      have hnb93 := NB199_0.out
      have hnc93 := NB0_199.out
      obtain ⟨hcz94_0, hcz94_1, hcz94_2, hcz94_3, hcz94_4, hcz94_5, hfz94_0, hfz94_1, hfz94_2, hfz94_3, hfz94_4, hfz94_5⟩ := z6 BK199
      go_wp2
      refine bodyPost_ret (results_cell_row rfl _ _ gb199 23 #[.int .i64 x207000_6, .int .i64 x207001_6, .int .i64 t202, .int .i64 t204, .int .i64 x207004_6, .int .i64 x207005_6] (0, 0) _ rfl (by (with_reducible repeat (first | refine blk_drewN ?_ _ | refine blk_drew ?_ | refine blk_alloc ?_ _)); refine blk_put (cs := #[.int .i64 x207000_6, .int .i64 x207001_6, .int .i64 t202, .int .i64 t204, .int .i64 x207004_6, .int .i64 0]) ?_ 5 _ rfl; (with_reducible repeat (first | refine blk_drewN ?_ _ | refine blk_drew ?_ | refine blk_alloc ?_ _)); refine blk_put (cs := #[.int .i64 x207000_6, .int .i64 x207001_6, .int .i64 t202, .int .i64 t204, .int .i64 0, .int .i64 0]) ?_ 4 _ rfl; (with_reducible repeat (first | refine blk_drewN ?_ _ | refine blk_drew ?_ | refine blk_alloc ?_ _)); refine blk_put (cs := #[.int .i64 x207000_6, .int .i64 x207001_6, .int .i64 t202, .int .i64 0, .int .i64 0, .int .i64 0]) ?_ 3 _ rfl; (with_reducible repeat (first | refine blk_drewN ?_ _ | refine blk_drew ?_ | refine blk_alloc ?_ _)); refine blk_put (cs := #[.int .i64 x207000_6, .int .i64 x207001_6, .int .i64 0, .int .i64 0, .int .i64 0, .int .i64 0]) ?_ 2 _ rfl; (with_reducible repeat (first | refine blk_drewN ?_ _ | refine blk_drew ?_ | refine blk_alloc ?_ _)); refine blk_put (cs := #[.int .i64 x207000_6, .int .i64 0, .int .i64 0, .int .i64 0, .int .i64 0, .int .i64 0]) ?_ 1 _ rfl; (with_reducible repeat (first | refine blk_drewN ?_ _ | refine blk_drew ?_ | refine blk_alloc ?_ _)); refine blk_put (cs := #[.int .i64 0, .int .i64 0, .int .i64 0, .int .i64 0, .int .i64 0, .int .i64 0]) ?_ 0 _ rfl; (with_reducible repeat (first | refine blk_drewN ?_ _ | refine blk_drew ?_ | refine blk_alloc ?_ _)); exact BK199.out) Try.underlying23 rfl (by kernel_rfl)) rfl ?_
      exact ⟨zf, by repeat (first | (with_reducible first | exact HI0.out | apply IsS61.alloc | apply IsS61.drewN | apply IsS61.drew | apply IsS61.set_1 | refine IsS61.far ?_ NB0_199.out _ | refine IsS61.far ?_ NB0_206.out _) | exact HI0.out), zm HB, by repeat (first | (with_reducible first | exact HK.out | apply KeepBut.set_ | apply keep_drewN | apply keep_drew | apply keep_alloc | refine keep_far ?_ GW199.out _ | refine keep_far ?_ GW206.out _) | exact HK.out)⟩

end Go.Proofs.Ytdmlbgdefapcjaa.Print
