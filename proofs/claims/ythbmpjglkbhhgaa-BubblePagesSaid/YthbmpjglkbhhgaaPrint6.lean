-- Printed by a program of this session (wip/own_print.py) out of the translation; Lean checks it.
import Derived.Test.YthbmpjglkbhhgaaShort
import Derived.Test.YthbmpjglkbhhgaaPrint0
import Derived.Test.YthbmpjglkbhhgaaPrint3
import Derived.Test.YthbmpjglkbhhgaaPrint4
import Derived.Test.YthbmpjglkbhhgaaPrint5
namespace Go.Proofs.Ythbmpjglkbhhgaa.Print
open Go.RowKit Go.Proofs.YthbmpjglkbhhgaaW.PrintWords Go.Proofs.YthbmpjglkbhhgaaW.PrintLast Go.Proofs.YthbmpjglkbhhgaaW.PrintMore
attribute [local go_sem] max2_int min2_int max_two min_two max_three min_three max_four min_four   -- for this text's walks alone
set_option linter.unusedVariables false
set_option linter.unusedSimpArgs false

/-! ### awardingbodymake_Tape_LoosePaper: function 28 -/
mutual
def awardingbodymake_Tape_LoosePaper.j0 : Nat → Bool → List Int → Int → Int → Int → List (S65) → Option (Int × Int × (List (S65)) × Int)
  | 0, _, _, _, _, _, _ => none
  | k + 1, x19, x1000, x1001, x237000, x237001, x237002 => if x19 = true then ((awardingbodymake_Tape_Next.f x1000 x1001 5).bind fun bt239 => (if bt239.1 = 0 then ((awardingbodymake_Tape_Wild.f x1000 bt239.2).bind fun bt241 => (some (bt241.1, x237001, x237002, bt241.2))) else (if bt239.1 = 1 then ((awardingbodymake_Tape_Range.f x1000 bt239.2 (-1) 5).bind fun bt243 => (some (x237000, bt243.1, x237002, bt243.2))) else (if bt239.1 = 2 then (some (x237000, x237001, ([] : List (S65)), bt239.2)) else (if bt239.1 = 3 then ((awardingbodymake_Tape_Part.f k x1000 bt239.2 1).bind fun bt245 => (if x237002.length < 2932031007402 then (some (x237000, x237001, (x237002 ++ [(⟨bt245.1, bt245.2.1, bt245.2.2.1, bt245.2.2.2.1, bt245.2.2.2.2.1, bt245.2.2.2.2.2.1⟩ : S65)]), bt245.2.2.2.2.2.2)) else (none))) else (awardingbodymake_Tape_LoosePaper.l0 k 0 x1000 bt239.2 x237000 x237001 x237002)))))) else (some (x237000, x237001, x237002, x1001))
def awardingbodymake_Tape_LoosePaper.l0 : Nat → Int → List Int → Int → Int → Int → List (S65) → Option (Int × Int × (List (S65)) × Int)
  | 0, _, _, _, _, _, _ => none
  | k + 1, x6, x1000, x1001, x237000, x237001, x237002 => if x6 < 6 then (if x237002.length < 2932031007402 then (awardingbodymake_Tape_LoosePaper.l0 k (wrap64 (x6 + 1)) x1000 x1001 x237000 x237001 (x237002 ++ [(⟨1, 40, 0, 0, 0, 0⟩ : S65)])) else (none)) else (some (x237000, x237001, x237002, x1001))
end
def awardingbodymake_Tape_LoosePaper.f (k : Nat) (s0_0 : List Int) (s0_1 : Int) (a1 : Int) : Option (Int × Int × (List (S65)) × Int) := (awardingbodymake_Tape_Range.f s0_0 s0_1 0 3).bind fun bt226 => ((awardingbodymake_Tape_Next.f s0_0 bt226.2 3).bind fun bt228 => ((awardingbodymake_Tape_Paper.f k s0_0 bt228.2 bt226.1 bt228.1).bind fun bt230 => (if a1 > 0 then ((awardingbodymake_Tape_One.f s0_0 bt230.2.2.2 a1).bind fun bt237 => (awardingbodymake_Tape_LoosePaper.j0 k bt237.1 s0_0 bt237.2 bt230.1 bt230.2.1 bt230.2.2.1)) else (awardingbodymake_Tape_LoosePaper.j0 k false s0_0 bt230.2.2.2 bt230.1 bt230.2.1 bt230.2.2.1))))
theorem awardingbodymake_Tape_LoosePaper.mono_l : ∀ k, (∀ y0 y1 y2 y3 y4 y5, LeO (awardingbodymake_Tape_LoosePaper.j0 k y0 y1 y2 y3 y4 y5) (awardingbodymake_Tape_LoosePaper.j0 (k + 1) y0 y1 y2 y3 y4 y5)) ∧ (∀ y0 y1 y2 y3 y4 y5, LeO (awardingbodymake_Tape_LoosePaper.l0 k y0 y1 y2 y3 y4 y5) (awardingbodymake_Tape_LoosePaper.l0 (k + 1) y0 y1 y2 y3 y4 y5))
  | 0 => ⟨fun _ _ _ _ _ _ r h => by simp [awardingbodymake_Tape_LoosePaper.j0] at h, fun _ _ _ _ _ _ r h => by simp [awardingbodymake_Tape_LoosePaper.l0] at h⟩
  | k + 1 => by
    obtain ⟨ih0, ih1⟩ := awardingbodymake_Tape_LoosePaper.mono_l k
    refine ⟨?_, ?_⟩
    · intro y0 y1 y2 y3 y4 y5
      unfold awardingbodymake_Tape_LoosePaper.j0
      repeat' first
      | (with_reducible exact ih0 _ _ _ _ _ _)
      | (with_reducible exact ih1 _ _ _ _ _ _)
      | (with_reducible exact awardingbodymake_Tape_Paper.mono _ _ _ _ _)
      | (with_reducible exact awardingbodymake_Tape_Part.mono _ _ _ _)
      | (with_reducible exact LeO.refl _)
      | (with_reducible exact LeO.none _)
      | (with_reducible refine LeO.ite ?_ ?_)
      | (with_reducible refine LeO.bind ?_ (fun _ => ?_))
      | exact ih0 _ _ _ _ _ _
      | exact ih1 _ _ _ _ _ _
      | exact awardingbodymake_Tape_Paper.mono _ _ _ _ _
      | exact awardingbodymake_Tape_Part.mono _ _ _ _
      | exact LeO.none _
      | refine LeO.ite ?_ ?_
      | refine LeO.bind ?_ (fun _ => ?_)
    · intro y0 y1 y2 y3 y4 y5
      unfold awardingbodymake_Tape_LoosePaper.l0
      repeat' first
      | (with_reducible exact ih0 _ _ _ _ _ _)
      | (with_reducible exact ih1 _ _ _ _ _ _)
      | (with_reducible exact awardingbodymake_Tape_Paper.mono _ _ _ _ _)
      | (with_reducible exact awardingbodymake_Tape_Part.mono _ _ _ _)
      | (with_reducible exact LeO.refl _)
      | (with_reducible exact LeO.none _)
      | (with_reducible refine LeO.ite ?_ ?_)
      | (with_reducible refine LeO.bind ?_ (fun _ => ?_))
      | exact ih0 _ _ _ _ _ _
      | exact ih1 _ _ _ _ _ _
      | exact awardingbodymake_Tape_Paper.mono _ _ _ _ _
      | exact awardingbodymake_Tape_Part.mono _ _ _ _
      | exact LeO.none _
      | refine LeO.ite ?_ ?_
      | refine LeO.bind ?_ (fun _ => ?_)
theorem awardingbodymake_Tape_LoosePaper.mono : ∀ a0 a1 a2 k, LeO (awardingbodymake_Tape_LoosePaper.f k a0 a1 a2) (awardingbodymake_Tape_LoosePaper.f (k + 1) a0 a1 a2) := by
  intro a0 a1 a2 k
  obtain ⟨ih0, ih1⟩ := awardingbodymake_Tape_LoosePaper.mono_l k
  unfold awardingbodymake_Tape_LoosePaper.f
  repeat' first
      | (with_reducible exact ih0 _ _ _ _ _ _)
      | (with_reducible exact ih1 _ _ _ _ _ _)
      | (with_reducible exact awardingbodymake_Tape_Paper.mono _ _ _ _ _)
      | (with_reducible exact awardingbodymake_Tape_Part.mono _ _ _ _)
      | (with_reducible exact LeO.refl _)
      | (with_reducible exact LeO.none _)
      | (with_reducible refine LeO.ite ?_ ?_)
      | (with_reducible refine LeO.bind ?_ (fun _ => ?_))
      | exact ih0 _ _ _ _ _ _
      | exact ih1 _ _ _ _ _ _
      | exact awardingbodymake_Tape_Paper.mono _ _ _ _ _
      | exact awardingbodymake_Tape_Part.mono _ _ _ _
      | exact LeO.none _
      | refine LeO.ite ?_ ?_
      | refine LeO.bind ?_ (fun _ => ?_)
def awardingbodymake_Tape_LoosePaper.T15 : Bool × List (List Nat × List Nat) := (true, [([], []), ([0], [0]), ([], []), ([2], [2]), ([3], [3]), ([1, 4, 3], [1, 4]), ([0, 1, 2, 3, 4, 5], []), ([6, 5, 5, 0, 1, 2, 3, 4, 5], [5, 6])])
def awardingbodymake_Tape_LoosePaper.B15 : List Nat := [0, 1, 0, 4, 12, 31, 63, 127]
theorem awardingbodymake_Tape_LoosePaper.tab15 : rtab .any (opsOf Try.f28 15) = awardingbodymake_Tape_LoosePaper.T15 := by kernel_rfl
theorem awardingbodymake_Tape_LoosePaper.bits15 : waitsOk awardingbodymake_Tape_LoosePaper.T15.2 awardingbodymake_Tape_LoosePaper.B15 = true := by kernel_rfl
theorem q6a {p : Prop} (h : p := by ((repeat (first | (with_reducible first | exact HK.out | apply KeepBut.set_ | apply keep_drewN | apply keep_drew | apply keep_alloc | refine keep_far ?_ GW225.out _ | refine keep_far ?_ GW236.out _) | exact HK.out)); done)) : p := h
theorem q6b {p : Prop} (h : p := by ((repeat (first | (with_reducible first | exact HI0.out | apply IsS68.alloc | apply IsS68.drewN | apply IsS68.drew | apply IsS68.set_1 | refine IsS68.far ?_ NB0_225.out _ | refine IsS68.far ?_ NB0_236.out _) | exact HI0.out)); done)) : p := h
theorem q6c {p : Prop} (h : p := by (((repeat (first | (with_reducible first | refine blk_drewN ?_ _ | refine blk_drew ?_ | refine blk_alloc ?_ _) | refine blk_far ?_ (Aside0.out (by assumption)) _)); first | (with_reducible exact (Aside0.out (by assumption))) | exact (Aside0.out (by assumption))); done)) : p := h
theorem q6d {p : Prop} (h : p := by (((with_reducible repeat (first | apply Kd.R_alloc | apply Kd.R_drewN | apply Kd.R_drew)); exact HO_237002.out); done)) : p := h
theorem q6e {p : Prop} (h : p := by (((with_reducible repeat (first | refine blk_drewN ?_ _ | refine blk_drew ?_ | refine blk_alloc ?_ _)); refine blk_put (cs := #[.int .i64 t230, .int .i64 t231, .slice none 0 0]) ?_ 2 _ rfl; (with_reducible repeat (first | refine blk_drewN ?_ _ | refine blk_drew ?_ | refine blk_alloc ?_ _)); refine blk_put (cs := #[.int .i64 t230, .int .i64 0, .slice none 0 0]) ?_ 1 _ rfl; (with_reducible repeat (first | refine blk_drewN ?_ _ | refine blk_drew ?_ | refine blk_alloc ?_ _)); refine blk_put (cs := #[.int .i64 0, .int .i64 0, .slice none 0 0]) ?_ 0 _ rfl; (with_reducible repeat (first | refine blk_drewN ?_ _ | refine blk_drew ?_ | refine blk_alloc ?_ _)); refine blk_far ?_ NB225_236.out _; (with_reducible repeat (first | refine blk_drewN ?_ _ | refine blk_drew ?_ | refine blk_alloc ?_ _)); exact BK225.out); done)) : p := h
theorem q6f {p : Prop} (h : p := by (((with_reducible repeat (first | refine blk_drewN ?_ _ | refine blk_drew ?_ | refine blk_alloc ?_ _)); refine blk_put (cs := #[.int .i64 t230, .int .i64 t231, .slice none 0 0]) ?_ 2 _ rfl; (with_reducible repeat (first | refine blk_drewN ?_ _ | refine blk_drew ?_ | refine blk_alloc ?_ _)); refine blk_put (cs := #[.int .i64 t230, .int .i64 0, .slice none 0 0]) ?_ 1 _ rfl; (with_reducible repeat (first | refine blk_drewN ?_ _ | refine blk_drew ?_ | refine blk_alloc ?_ _)); refine blk_put (cs := #[.int .i64 0, .int .i64 0, .slice none 0 0]) ?_ 0 _ rfl; (with_reducible repeat (first | refine blk_drewN ?_ _ | refine blk_drew ?_ | refine blk_alloc ?_ _)); exact BK225.out); done)) : p := h
theorem q6g {p : Prop} (h : p := by ((rw [hg]; exact (keep_size (w := w) (g := g) (row := none) (q6a))); done)) : p := h
theorem q6h {p : Prop} (h : p := by ((first | rfl | (simp; done) | (simp [*]; done)); done)) : p := h
set_option maxHeartbeats 8000000 in
set_option maxRecDepth 100000 in
theorem awardingbodymake_Tape_LoosePaper.calls (k : Nat) (g : Nat) (s0_0 : List Int) (s0_1 : Int) (a1 : Int) (r1 : Int) (r2 : Int) (r3 : List (S65)) (r4 : Int) (w0 w : World) (hI : IsS68 w0 w g s0_0 s0_1) (hB : Below w0.heap.size w0 w) (h : awardingbodymake_Tape_LoosePaper.f k s0_0 s0_1 a1 = some (r1, r2, r3, r4)) :
    Calls Try.prog 28 #[.pointer (some ⟨g, 0, none⟩), .int .i64 a1] w fun e w' => ∃ v2_ : Value, e = .returned (.agg #[.int .i64 r1, .int .i64 r2, v2_]) ∧ Kd.R k65 65 w' w.heap.size (fun _ => True) v2_ r3 ∧ IsS68 w0 w' g s0_0 r4 ∧ Below w0.heap.size w0 w' ∧ KeepBut w w' g none := by
 have hu53 := Try.underlying53
 have hu65 := Try.underlying65
 have HI0 := za hI
 have HK := za (KeepBut.refl w g none)
 have HL := za hB.size
 clear hI
 have HW0 := za hB.size
 have HB := za hB; clear hB
 have H : ((awardingbodymake_Tape_Range.f s0_0 s0_1 0 3).bind fun bt226 => ((awardingbodymake_Tape_Next.f s0_0 bt226.2 3).bind fun bt228 => ((awardingbodymake_Tape_Paper.f k s0_0 bt228.2 bt226.1 bt228.1).bind fun bt230 => (if a1 > 0 then ((awardingbodymake_Tape_One.f s0_0 bt230.2.2.2 a1).bind fun bt237 => (awardingbodymake_Tape_LoosePaper.j0 k bt237.1 s0_0 bt237.2 bt230.1 bt230.2.1 bt230.2.2.1)) else (awardingbodymake_Tape_LoosePaper.j0 k false s0_0 bt230.2.2.2 bt230.1 bt230.2.1 bt230.2.2.1))))) = some (r1, r2, r3, r4) := h
 clear h
 replace H := Option.bind_eq_some_iff.mp H
 obtain ⟨⟨t226, t227⟩, A30, H⟩ := H
 replace H : ((awardingbodymake_Tape_Next.f s0_0 t227 3).bind fun bt228 => ((awardingbodymake_Tape_Paper.f k s0_0 bt228.2 t226 bt228.1).bind fun bt230 => (if a1 > 0 then ((awardingbodymake_Tape_One.f s0_0 bt230.2.2.2 a1).bind fun bt237 => (awardingbodymake_Tape_LoosePaper.j0 k bt237.1 s0_0 bt237.2 bt230.1 bt230.2.1 bt230.2.2.1)) else (awardingbodymake_Tape_LoosePaper.j0 k false s0_0 bt230.2.2.2 bt230.1 bt230.2.1 bt230.2.2.1)))) = some (r1, r2, r3, r4) := H
 have A3 := za A30; clear A30
 replace H := Option.bind_eq_some_iff.mp H
 obtain ⟨⟨t228, t229⟩, A40, H⟩ := H
 replace H : ((awardingbodymake_Tape_Paper.f k s0_0 t229 t226 t228).bind fun bt230 => (if a1 > 0 then ((awardingbodymake_Tape_One.f s0_0 bt230.2.2.2 a1).bind fun bt237 => (awardingbodymake_Tape_LoosePaper.j0 k bt237.1 s0_0 bt237.2 bt230.1 bt230.2.1 bt230.2.2.1)) else (awardingbodymake_Tape_LoosePaper.j0 k false s0_0 bt230.2.2.2 bt230.1 bt230.2.1 bt230.2.2.1))) = some (r1, r2, r3, r4) := H
 have A4 := za A40; clear A40
 replace H := Option.bind_eq_some_iff.mp H
 obtain ⟨⟨t230, t231, t232, t235⟩, A50, H⟩ := H
 replace H : (if a1 > 0 then ((awardingbodymake_Tape_One.f s0_0 t235 a1).bind fun bt237 => (awardingbodymake_Tape_LoosePaper.j0 k bt237.1 s0_0 bt237.2 t230 t231 t232)) else (awardingbodymake_Tape_LoosePaper.j0 k false s0_0 t235 t230 t231 t232)) = some (r1, r2, r3, r4) := H
 have A5 := za A50; clear A50; have HC6 := za H; clear H
 go_enter Try.func28, Try.ntmps28
 go_upto_region 2 with (first | ((with_reducible refine gate_dst (N := 4) rfl ?_); refine zE 4 #[.int .i64 0, .int .i64 0, .slice none 0 0] 53 ?_; intro gb225 hg w7 hbox hb; have BK225 := za (hbox); have GW225 := za ((q6g : w.heap.size ≤ gb225)); have GE225 := za ((Nat.le_trans HW0.out (q6g : w.heap.size ≤ gb225) : w0.heap.size ≤ gb225)); have NB0_225 := za ((by rw [hg]; exact Nat.ne_of_lt (IsS68.lt (show IsS68 w0 _ g s0_0 s0_1 from q6b)) : g ≠ gb225)); have NB225_0 := za ((by rw [hg]; exact Nat.ne_of_gt (IsS68.lt (show IsS68 w0 _ g s0_0 s0_1 from q6b)) : gb225 ≠ g)); replace HI0 := za (IsS68.below (q6b) hb); replace HK := zu HK hb; replace HB := zs HB hb; clear hb hbox hg) | ((with_reducible refine gate_callee (f := 30) rfl ?_); refine zL (some 9) Try.func30 #[.pointer (some ⟨g, 0, none⟩), .int .i64 0, .int .i64 3] ?_; (with_reducible refine (awardingbodymake_Tape_Range.calls g s0_0 s0_1 0 3 t226 t227 w0 _ ?side1 ?side2 A3.out).mono ?_); (case side1 => repeat (first | (with_reducible first | exact HI0.out | apply IsS68.alloc | apply IsS68.drewN | apply IsS68.drew | apply IsS68.set_1 | refine IsS68.far ?_ NB0_225.out _) | exact HI0.out)); (case side2 => repeat (first | (with_reducible first | exact HB.out | apply below_alloc | apply pw_below_drewN | apply below_drew1 | refine below_set ?_ (IsS68.ge HI0.out) | refine below_set ?_ GE225.out) | exact HB.out)); rintro e w8 ⟨rfl, hi, hb, hk⟩; refine ⟨_, rfl, ?_⟩; replace BK225 := zk hk BK225 NB225_0; replace HK := zt HK hk; replace HB := za (hb); replace HI0 := za (hi); (try clear hb); (try clear hb2); (try clear hk); (try clear hi)) | ((with_reducible refine gate_callee (f := 20) rfl ?_); refine zL (some 11) Try.func20 #[.pointer (some ⟨g, 0, none⟩), .int .i64 3] ?_; (with_reducible refine (awardingbodymake_Tape_Next.calls g s0_0 t227 3 t228 t229 w0 _ ?side1 ?side2 A4.out).mono ?_); (case side1 => repeat (first | (with_reducible first | exact HI0.out | apply IsS68.alloc | apply IsS68.drewN | apply IsS68.drew | apply IsS68.set_1 | refine IsS68.far ?_ NB0_225.out _) | exact HI0.out)); (case side2 => repeat (first | (with_reducible first | exact HB.out | apply below_alloc | apply pw_below_drewN | apply below_drew1 | refine below_set ?_ (IsS68.ge HI0.out) | refine below_set ?_ GE225.out) | exact HB.out)); rintro e w9 ⟨rfl, hi, hb, hk⟩; refine ⟨_, rfl, ?_⟩; replace BK225 := zk hk BK225 NB225_0; replace HK := zt HK hk; replace HB := za (hb); replace HI0 := za (hi); (try clear hb); (try clear hb2); (try clear hk); (try clear hi)) | ((with_reducible refine gate_callee (f := 34) rfl ?_); refine zL (some 12) Try.func34 #[.pointer (some ⟨g, 0, none⟩), .int .i64 t226, .int .i64 t228] ?_; (with_reducible refine (awardingbodymake_Tape_Paper.calls k g s0_0 t229 t226 t228 t230 t231 t232 t235 w0 _ ?side1 ?side2 A5.out).mono ?_); (case side1 => repeat (first | (with_reducible first | exact HI0.out | apply IsS68.alloc | apply IsS68.drewN | apply IsS68.drew | apply IsS68.set_1 | refine IsS68.far ?_ NB0_225.out _) | exact HI0.out)); (case side2 => repeat (first | (with_reducible first | exact HB.out | apply below_alloc | apply pw_below_drewN | apply below_drew1 | refine below_set ?_ (IsS68.ge HI0.out) | refine below_set ?_ GE225.out) | exact HB.out)); rintro e w10 ⟨v233, rfl, ho0, hi, hb, hk⟩; refine ⟨_, rfl, ?_⟩; have HO234 := za (Kd.R_lower ho0 (keep_size (w := w) (g := g) (row := none) (q6a))); replace BK225 := zk hk BK225 NB225_0; replace HK := zt HK hk; replace HB := za (hb); replace HI0 := za (hi); (try clear hb); (try clear hb2); (try clear hk); (try clear hi); (try clear ho0)) | ((with_reducible refine gate_dst (N := 5) rfl ?_); refine zE 5 #[.int .i64 0, .int .i64 0, .slice none 0 0] 53 ?_; intro gb236 hg w11 hbox hb; have BK236 := za (hbox); have GW236 := za ((q6g : w.heap.size ≤ gb236)); have GE236 := za ((Nat.le_trans HW0.out (q6g : w.heap.size ≤ gb236) : w0.heap.size ≤ gb236)); have NB225_236 := zl BK225 hg; have NB236_225 := zr BK225 hg; have NB0_236 := za ((by rw [hg]; exact Nat.ne_of_lt (IsS68.lt (show IsS68 w0 _ g s0_0 t235 from q6b)) : g ≠ gb236)); have NB236_0 := za ((by rw [hg]; exact Nat.ne_of_gt (IsS68.lt (show IsS68 w0 _ g s0_0 t235 from q6b)) : gb236 ≠ g)); replace HO234 := zR HO234 hb; replace HI0 := za (IsS68.below (q6b) hb); replace BK225 := zb BK225 hb; replace HK := zu HK hb; replace HB := zs HB hb; clear hb hbox hg; have hnb12 := NB236_225.out; have hnc12 := NB225_236.out; have hnb13 := NB236_0.out; have hnc13 := NB0_236.out; obtain ⟨hcz14_0, hcz14_1, hcz14_2, hfz14_0, hfz14_1, hfz14_2⟩ := z3 BK236; obtain ⟨Ao15, co15, eo15⟩ := Kd.R_slice HO234.out; subst eo15))
 (try simp only [Act.put, List.setIfInBounds_toArray, List.set_cons_zero, List.set_cons_succ])
 go_cut [19] (fun v19 wc => ∃ (kq : Nat) (x19_5 : Bool) (x1001_5 : Int), v19 = .bool x19_5 ∧ Aside0 (awardingbodymake_Tape_LoosePaper.j0 kq x19_5 s0_0 x1001_5 t230 t231 t232 = some (r1, r2, r3, r4)) ∧ Aside0 (kq ≤ k) ∧ Aside0 (Kd.R k65 65 wc w.heap.size (fun _ => True) (.slice Ao15 t232.length co15) t232) ∧ Aside0 (wc.heap[gb225]? = some (.cells #[.int .i64 0, .int .i64 0, (.slice none 0 0)] 53 (0, 0))) ∧ Aside0 (wc.heap[gb236]? = some (.cells #[.int .i64 t230, .int .i64 t231, (.slice Ao15 t232.length co15)] 53 (0, 0))) ∧ Aside0 (IsS68 w0 wc g s0_0 x1001_5) ∧ Aside0 (KeepBut w wc g none) ∧ Aside0 (Below w0.heap.size w0 wc))
 case first =>
  have H := HC6.out
  clear HC6
  by_cases c16 : a1 > 0
  ·rw [if_pos c16] at H
   have c16b0 : decide (0 < a1) = true := decide_eq_true c16
   clear c16
   (first | rw [c16b0] | (simp only [i64_w, i32_w]; rw [c16b0]) | skip)
   replace H := Option.bind_eq_some_iff.mp H
   obtain ⟨⟨t237, t238⟩, A170, H⟩ := H
   replace H : (awardingbodymake_Tape_LoosePaper.j0 k t237 s0_0 t238 t230 t231 t232) = some (r1, r2, r3, r4) := H
   have A17 := za A170; clear A170; have H' := za H; clear H
   go_wp2_with (first | (go_at_call 18; (with_reducible refine (awardingbodymake_Tape_One.calls g s0_0 t235 a1 t237 t238 w0 _ ?side1 ?side2 A17.out).mono ?_); (case side1 => repeat (first | (with_reducible first | exact HI0.out | apply IsS68.alloc | apply IsS68.drewN | apply IsS68.drew | apply IsS68.set_1 | refine IsS68.far ?_ NB0_225.out _ | refine IsS68.far ?_ NB0_236.out _) | exact HI0.out)); (case side2 => repeat (first | (with_reducible first | exact HB.out | apply below_alloc | apply pw_below_drewN | apply below_drew1 | refine below_set ?_ (IsS68.ge HI0.out) | refine below_set ?_ GE225.out | refine below_set ?_ GE236.out) | exact HB.out)); rintro e w18 ⟨rfl, hi, hb, hk⟩; replace BK225 := zk hk BK225 NB225_0; replace HO234 := za (Kd.R_mono (Kd.R_keep (IsS68.apart (show IsS68 w0 _ g s0_0 t235 from q6b) (by (with_reducible repeat (first | apply Kd.R_alloc | apply Kd.R_drewN | apply Kd.R_drew)); exact (Kd.R_mono (Kd.R_far (p := ⟨gb236, 2, none⟩) (Kd.R_far (p := ⟨gb236, 1, none⟩) (Kd.R_far (p := ⟨gb236, 0, none⟩) (Kd.R_types HO234.out BK236.out (by decide)) (fun _ hk => hk.2) (.int .i64 t230)) (fun _ hk => hk.2) (.int .i64 t231)) (fun _ hk => hk.2) (.slice Ao15 t232.length co15)) (fun _ h_ => h_.1))) (by decide)) hk (fun _ h => h.2)) (fun _ h => h.1)); replace BK236 := za (KeepBut.blk hk (g' := gb236) (o := .cells #[.int .i64 t230, .int .i64 t231, .slice Ao15 t232.length co15] 53 (0, 0)) (by (with_reducible repeat (first | refine blk_drewN ?_ _ | refine blk_drew ?_ | refine blk_alloc ?_ _)); refine blk_put (cs := #[.int .i64 t230, .int .i64 t231, .slice none 0 0]) ?_ 2 _ rfl; (with_reducible repeat (first | refine blk_drewN ?_ _ | refine blk_drew ?_ | refine blk_alloc ?_ _)); refine blk_put (cs := #[.int .i64 t230, .int .i64 0, .slice none 0 0]) ?_ 1 _ rfl; (with_reducible repeat (first | refine blk_drewN ?_ _ | refine blk_drew ?_ | refine blk_alloc ?_ _)); refine blk_put (cs := #[.int .i64 0, .int .i64 0, .slice none 0 0]) ?_ 0 _ rfl; (with_reducible repeat (first | refine blk_drewN ?_ _ | refine blk_drew ?_ | refine blk_alloc ?_ _)); exact BK236.out) NB236_0.out (by simp)); replace HK := zt HK hk; replace HB := za (hb); replace HI0 := za (hi); (try clear hb); (try clear hb2); (try clear hk); (try clear hi)))
   go_meet
   case rel => exact ⟨_, (t237), (t238), q6h, H', ⟨by first | omega | exact Nat.le_refl _⟩, ⟨by (with_reducible repeat (first | apply Kd.R_alloc | apply Kd.R_drewN | apply Kd.R_drew)); exact HO234.out⟩, ⟨q6c⟩, ⟨q6c⟩, ⟨q6b⟩, ⟨q6a⟩, ⟨zm HB⟩⟩
  ·rw [if_neg c16] at H
   have c16b0 : decide (0 < a1) = false := decide_eq_false c16
   clear c16
   (first | rw [c16b0] | (simp only [i64_w, i32_w]; rw [c16b0]) | skip)
   have H' := za H; clear H
   go_wp2
   go_meet
   case rel => exact ⟨_, (false), (t235), q6h, H', ⟨by first | omega | exact Nat.le_refl _⟩, ⟨by (with_reducible repeat (first | apply Kd.R_alloc | apply Kd.R_drewN | apply Kd.R_drew)); exact Kd.R_mono (Kd.R_far (p := ⟨gb236, 2, none⟩) (Kd.R_far (p := ⟨gb236, 1, none⟩) (Kd.R_far (p := ⟨gb236, 0, none⟩) (Kd.R_types HO234.out BK236.out (by decide)) (fun _ hk => hk.2) (.int .i64 t230)) (fun _ hk => hk.2) (.int .i64 t231)) (fun _ hk => hk.2) (.slice Ao15 t232.length co15)) (fun _ hk => trivial)⟩, ⟨q6c⟩, ⟨by (with_reducible repeat (first | refine blk_drewN ?_ _ | refine blk_drew ?_ | refine blk_alloc ?_ _)); refine blk_put (cs := #[.int .i64 t230, .int .i64 t231, .slice none 0 0]) ?_ 2 _ rfl; (with_reducible repeat (first | refine blk_drewN ?_ _ | refine blk_drew ?_ | refine blk_alloc ?_ _)); refine blk_put (cs := #[.int .i64 t230, .int .i64 0, .slice none 0 0]) ?_ 1 _ rfl; (with_reducible repeat (first | refine blk_drewN ?_ _ | refine blk_drew ?_ | refine blk_alloc ?_ _)); refine blk_put (cs := #[.int .i64 0, .int .i64 0, .slice none 0 0]) ?_ 0 _ rfl; (with_reducible repeat (first | refine blk_drewN ?_ _ | refine blk_drew ?_ | refine blk_alloc ?_ _)); exact BK236.out⟩, ⟨q6b⟩, ⟨q6a⟩, ⟨zm HB⟩⟩
 case rest =>
  clear HC6; (try clear c1); (try clear c2); (try clear p2); (try clear c3); (try clear c12); (try clear c13); (try clear c16); (try clear c16b0); (try clear hcz14_0); (try clear hcz14_1); (try clear hcz14_2); (try clear hfz14_0); (try clear hfz14_1); (try clear hfz14_2)
  obtain ⟨kq, x19_5, x1001_5, rfl, HA, HJ5, HO_237002, BK225, BK236, HI0, HK, HB⟩ := hcut
  cases kq with
  | zero => exact absurd HA.out (by simp [awardingbodymake_Tape_LoosePaper.j0])
  | succ kj5 =>
   have H := HA.out
   clear HA
   simp only [awardingbodymake_Tape_LoosePaper.j0] at H
   by_cases c19 : x19_5 = true
   ·subst c19
    have H1 : ((awardingbodymake_Tape_Next.f s0_0 x1001_5 5).bind fun bt239 => (if bt239.1 = 0 then ((awardingbodymake_Tape_Wild.f s0_0 bt239.2).bind fun bt241 => (some (bt241.1, t231, t232, bt241.2))) else (if bt239.1 = 1 then ((awardingbodymake_Tape_Range.f s0_0 bt239.2 (-1) 5).bind fun bt243 => (some (t230, bt243.1, t232, bt243.2))) else (if bt239.1 = 2 then (some (t230, t231, ([] : List (S65)), bt239.2)) else (if bt239.1 = 3 then ((awardingbodymake_Tape_Part.f kj5 s0_0 bt239.2 1).bind fun bt245 => (if t232.length < 2932031007402 then (some (t230, t231, (t232 ++ [(⟨bt245.1, bt245.2.1, bt245.2.2.1, bt245.2.2.2.1, bt245.2.2.2.2.1, bt245.2.2.2.2.2.1⟩ : S65)]), bt245.2.2.2.2.2.2)) else (none))) else (awardingbodymake_Tape_LoosePaper.l0 kj5 0 s0_0 bt239.2 t230 t231 t232)))))) = some (r1, r2, r3, r4) := by rw [if_pos rfl] at H; exact H
    clear H; have H := H1; clear H1
    replace H := Option.bind_eq_some_iff.mp H
    obtain ⟨⟨t239, t240⟩, A200, H⟩ := H
    replace H : (if t239 = 0 then ((awardingbodymake_Tape_Wild.f s0_0 t240).bind fun bt241 => (some (bt241.1, t231, t232, bt241.2))) else (if t239 = 1 then ((awardingbodymake_Tape_Range.f s0_0 t240 (-1) 5).bind fun bt243 => (some (t230, bt243.1, t232, bt243.2))) else (if t239 = 2 then (some (t230, t231, ([] : List (S65)), t240)) else (if t239 = 3 then ((awardingbodymake_Tape_Part.f kj5 s0_0 t240 1).bind fun bt245 => (if t232.length < 2932031007402 then (some (t230, t231, (t232 ++ [(⟨bt245.1, bt245.2.1, bt245.2.2.1, bt245.2.2.2.1, bt245.2.2.2.2.1, bt245.2.2.2.2.2.1⟩ : S65)]), bt245.2.2.2.2.2.2)) else (none))) else (awardingbodymake_Tape_LoosePaper.l0 kj5 0 s0_0 t240 t230 t231 t232))))) = some (r1, r2, r3, r4) := H
    have A20 := za A200; clear A200
    by_cases c21 : t239 = 0
    ·rw [if_pos c21] at H
     have c21b0 : (t239 == 0) = true := beq_iff_eq.mpr c21
     have c21b1 : (t239 != 0) = false := bne_eq_false_iff_eq.mpr c21
     clear c21
     replace H := Option.bind_eq_some_iff.mp H
     obtain ⟨⟨t241, t242⟩, A220, H⟩ := H
     replace H : (some (t241, t231, t232, t242)) = some (r1, r2, r3, r4) := H
     have A22 := za A220; clear A220
     simp only [Option.some.injEq, Prod.mk.injEq] at H
     obtain ⟨rfl, rfl, rfl, rfl⟩ := H
     go_wp2_with (first | ((with_reducible refine gate_callee (f := 20) rfl ?_); refine zL (some 21) Try.func20 #[.pointer (some ⟨g, 0, none⟩), .int .i64 5] ?_; (with_reducible refine (awardingbodymake_Tape_Next.calls g s0_0 x1001_5 5 t239 t240 w0 _ ?side1 ?side2 A20.out).mono ?_); (case side1 => repeat (first | (with_reducible first | exact HI0.out | apply IsS68.alloc | apply IsS68.drewN | apply IsS68.drew | apply IsS68.set_1 | refine IsS68.far ?_ NB0_225.out _ | refine IsS68.far ?_ NB0_236.out _) | exact HI0.out)); (case side2 => repeat (first | (with_reducible first | exact HB.out | apply below_alloc | apply pw_below_drewN | apply below_drew1 | refine below_set ?_ (IsS68.ge HI0.out) | refine below_set ?_ GE225.out | refine below_set ?_ GE236.out) | exact HB.out)); rintro e w23 ⟨rfl, hi, hb, hk⟩; refine ⟨_, rfl, ?_⟩; replace HO_237002 := za (Kd.R_mono (Kd.R_keep (IsS68.apart (show IsS68 w0 _ g s0_0 x1001_5 from q6b) q6d (by decide)) hk (fun _ h => h.2)) (fun _ h => h.1)); replace BK225 := zk hk BK225 NB225_0; replace BK236 := zk hk BK236 NB236_0; replace HK := zt HK hk; replace HB := za (hb); replace HI0 := za (hi); (try clear hb); (try clear hb2); (try clear hk); (try clear hi)) | ((with_reducible refine gate_callee (f := 47) rfl ?_); refine zL (some 35) Try.func47 #[.pointer (some ⟨g, 0, none⟩)] ?_; (with_reducible refine (awardingbodymake_Tape_Wild.calls g s0_0 t240 t241 t242 w0 _ ?side1 ?side2 A22.out).mono ?_); (case side1 => repeat (first | (with_reducible first | exact HI0.out | apply IsS68.alloc | apply IsS68.drewN | apply IsS68.drew | apply IsS68.set_1 | refine IsS68.far ?_ NB0_225.out _ | refine IsS68.far ?_ NB0_236.out _) | exact HI0.out)); (case side2 => repeat (first | (with_reducible first | exact HB.out | apply below_alloc | apply pw_below_drewN | apply below_drew1 | refine below_set ?_ (IsS68.ge HI0.out) | refine below_set ?_ GE225.out | refine below_set ?_ GE236.out) | exact HB.out)); rintro e w24 ⟨rfl, hi, hb, hk⟩; refine ⟨_, rfl, ?_⟩; replace HO_237002 := za (Kd.R_mono (Kd.R_keep (IsS68.apart (show IsS68 w0 _ g s0_0 t240 from q6b) q6d (by decide)) hk (fun _ h => h.2)) (fun _ h => h.1)); replace BK225 := zk hk BK225 NB225_0; replace BK236 := zk hk BK236 NB236_0; replace HK := zt HK hk; replace HB := za (hb); replace HI0 := za (hi); (try clear hb); (try clear hb2); (try clear hk); (try clear hi); have hnb25 := NB236_225.out; have hnc25 := NB225_236.out; have hnb26 := NB236_0.out; have hnc26 := NB0_236.out; obtain ⟨hcz27_0, hcz27_1, hcz27_2, hfz27_0, hfz27_1, hfz27_2⟩ := z3 BK236; have hnb28 := NB225_0.out; have hnc28 := NB0_225.out; obtain ⟨hcz29_0, hcz29_1, hcz29_2, hfz29_0, hfz29_1, hfz29_2⟩ := z3 BK225))
     refine bodyPost_ret (results_cell_row rfl _ _ gb225 53 #[.int .i64 t241, .int .i64 t231, .slice Ao15 t232.length co15] (0, 0) _ rfl (by (with_reducible repeat (first | refine blk_drewN ?_ _ | refine blk_drew ?_ | refine blk_alloc ?_ _)); refine blk_put (cs := #[.int .i64 t241, .int .i64 t231, .slice none 0 0]) ?_ 2 _ rfl; (with_reducible repeat (first | refine blk_drewN ?_ _ | refine blk_drew ?_ | refine blk_alloc ?_ _)); refine blk_put (cs := #[.int .i64 t241, .int .i64 0, .slice none 0 0]) ?_ 1 _ rfl; (with_reducible repeat (first | refine blk_drewN ?_ _ | refine blk_drew ?_ | refine blk_alloc ?_ _)); refine blk_put (cs := #[.int .i64 0, .int .i64 0, .slice none 0 0]) ?_ 0 _ rfl; (with_reducible repeat (first | refine blk_drewN ?_ _ | refine blk_drew ?_ | refine blk_alloc ?_ _)); refine blk_far ?_ NB225_236.out _; (with_reducible repeat (first | refine blk_drewN ?_ _ | refine blk_drew ?_ | refine blk_alloc ?_ _)); exact BK225.out) Try.underlying53 rfl (by kernel_rfl)) rfl ?_
     exact ⟨_, zf, by (with_reducible repeat (first | apply Kd.R_alloc | apply Kd.R_drewN | apply Kd.R_drew)); exact Kd.R_mono (Kd.R_far (p := ⟨gb225, 2, none⟩) (Kd.R_far (p := ⟨gb225, 1, none⟩) (Kd.R_far (p := ⟨gb225, 0, none⟩) (Kd.R_far (p := ⟨gb236, 0, none⟩) (Kd.R_types (Kd.R_types HO_237002.out BK236.out (by decide)) BK225.out (by decide)) (fun _ hk => hk.1.2) (.int .i64 t241)) (fun _ hk => hk.2) (.int .i64 t241)) (fun _ hk => hk.2) (.int .i64 t231)) (fun _ hk => hk.2) (.slice Ao15 t232.length co15)) (fun _ hk => trivial), q6b, zm HB, q6a⟩
    ·rw [if_neg c21] at H
     have c21b0 : (t239 == 0) = false := beq_eq_false_iff_ne.mpr c21
     have c21b1 : (t239 != 0) = true := bne_iff_ne.mpr c21
     by_cases c30 : t239 = 1
     ·rw [if_pos c30] at H
      have c30b0 : (t239 == 1) = true := beq_iff_eq.mpr c30
      have c30b1 : (t239 != 1) = false := bne_eq_false_iff_eq.mpr c30
      clear c30
      replace H := Option.bind_eq_some_iff.mp H
      obtain ⟨⟨t243, t244⟩, A310, H⟩ := H
      replace H : (some (t230, t243, t232, t244)) = some (r1, r2, r3, r4) := H
      have A31 := za A310; clear A310
      simp only [Option.some.injEq, Prod.mk.injEq] at H
      obtain ⟨rfl, rfl, rfl, rfl⟩ := H
      go_wp2_with (first | ((with_reducible refine gate_callee (f := 20) rfl ?_); refine zL (some 21) Try.func20 #[.pointer (some ⟨g, 0, none⟩), .int .i64 5] ?_; (with_reducible refine (awardingbodymake_Tape_Next.calls g s0_0 x1001_5 5 t239 t240 w0 _ ?side1 ?side2 A20.out).mono ?_); (case side1 => repeat (first | (with_reducible first | exact HI0.out | apply IsS68.alloc | apply IsS68.drewN | apply IsS68.drew | apply IsS68.set_1 | refine IsS68.far ?_ NB0_225.out _ | refine IsS68.far ?_ NB0_236.out _) | exact HI0.out)); (case side2 => repeat (first | (with_reducible first | exact HB.out | apply below_alloc | apply pw_below_drewN | apply below_drew1 | refine below_set ?_ (IsS68.ge HI0.out) | refine below_set ?_ GE225.out | refine below_set ?_ GE236.out) | exact HB.out)); rintro e w32 ⟨rfl, hi, hb, hk⟩; refine ⟨_, rfl, ?_⟩; replace HO_237002 := za (Kd.R_mono (Kd.R_keep (IsS68.apart (show IsS68 w0 _ g s0_0 x1001_5 from q6b) q6d (by decide)) hk (fun _ h => h.2)) (fun _ h => h.1)); replace BK225 := zk hk BK225 NB225_0; replace BK236 := zk hk BK236 NB236_0; replace HK := zt HK hk; replace HB := za (hb); replace HI0 := za (hi); (try clear hb); (try clear hb2); (try clear hk); (try clear hi)) | ((with_reducible refine gate_callee (f := 30) rfl ?_); refine zL (some 40) Try.func30 #[.pointer (some ⟨g, 0, none⟩), .int .i64 (-1), .int .i64 5] ?_; (with_reducible refine (awardingbodymake_Tape_Range.calls g s0_0 t240 (-1) 5 t243 t244 w0 _ ?side1 ?side2 A31.out).mono ?_); (case side1 => repeat (first | (with_reducible first | exact HI0.out | apply IsS68.alloc | apply IsS68.drewN | apply IsS68.drew | apply IsS68.set_1 | refine IsS68.far ?_ NB0_225.out _ | refine IsS68.far ?_ NB0_236.out _) | exact HI0.out)); (case side2 => repeat (first | (with_reducible first | exact HB.out | apply below_alloc | apply pw_below_drewN | apply below_drew1 | refine below_set ?_ (IsS68.ge HI0.out) | refine below_set ?_ GE225.out | refine below_set ?_ GE236.out) | exact HB.out)); rintro e w33 ⟨rfl, hi, hb, hk⟩; refine ⟨_, rfl, ?_⟩; replace HO_237002 := za (Kd.R_mono (Kd.R_keep (IsS68.apart (show IsS68 w0 _ g s0_0 t240 from q6b) q6d (by decide)) hk (fun _ h => h.2)) (fun _ h => h.1)); replace BK225 := zk hk BK225 NB225_0; replace BK236 := zk hk BK236 NB236_0; replace HK := zt HK hk; replace HB := za (hb); replace HI0 := za (hi); (try clear hb); (try clear hb2); (try clear hk); (try clear hi); have hnb34 := NB236_225.out; have hnc34 := NB225_236.out; have hnb35 := NB236_0.out; have hnc35 := NB0_236.out; obtain ⟨hcz36_0, hcz36_1, hcz36_2, hfz36_0, hfz36_1, hfz36_2⟩ := z3 BK236; have hnb37 := NB225_0.out; have hnc37 := NB0_225.out; obtain ⟨hcz38_0, hcz38_1, hcz38_2, hfz38_0, hfz38_1, hfz38_2⟩ := z3 BK225))
      refine bodyPost_ret (results_cell_row rfl _ _ gb225 53 #[.int .i64 t230, .int .i64 t243, .slice Ao15 t232.length co15] (0, 0) _ rfl (by (with_reducible repeat (first | refine blk_drewN ?_ _ | refine blk_drew ?_ | refine blk_alloc ?_ _)); refine blk_put (cs := #[.int .i64 t230, .int .i64 t243, .slice none 0 0]) ?_ 2 _ rfl; (with_reducible repeat (first | refine blk_drewN ?_ _ | refine blk_drew ?_ | refine blk_alloc ?_ _)); refine blk_put (cs := #[.int .i64 t230, .int .i64 0, .slice none 0 0]) ?_ 1 _ rfl; (with_reducible repeat (first | refine blk_drewN ?_ _ | refine blk_drew ?_ | refine blk_alloc ?_ _)); refine blk_put (cs := #[.int .i64 0, .int .i64 0, .slice none 0 0]) ?_ 0 _ rfl; (with_reducible repeat (first | refine blk_drewN ?_ _ | refine blk_drew ?_ | refine blk_alloc ?_ _)); refine blk_far ?_ NB225_236.out _; (with_reducible repeat (first | refine blk_drewN ?_ _ | refine blk_drew ?_ | refine blk_alloc ?_ _)); exact BK225.out) Try.underlying53 rfl (by kernel_rfl)) rfl ?_
      exact ⟨_, zf, by (with_reducible repeat (first | apply Kd.R_alloc | apply Kd.R_drewN | apply Kd.R_drew)); exact Kd.R_mono (Kd.R_far (p := ⟨gb225, 2, none⟩) (Kd.R_far (p := ⟨gb225, 1, none⟩) (Kd.R_far (p := ⟨gb225, 0, none⟩) (Kd.R_far (p := ⟨gb236, 1, none⟩) (Kd.R_types (Kd.R_types HO_237002.out BK236.out (by decide)) BK225.out (by decide)) (fun _ hk => hk.1.2) (.int .i64 t243)) (fun _ hk => hk.2) (.int .i64 t230)) (fun _ hk => hk.2) (.int .i64 t243)) (fun _ hk => hk.2) (.slice Ao15 t232.length co15)) (fun _ hk => trivial), q6b, zm HB, q6a⟩
     ·rw [if_neg c30] at H
      have c30b0 : (t239 == 1) = false := beq_eq_false_iff_ne.mpr c30
      have c30b1 : (t239 != 1) = true := bne_iff_ne.mpr c30
      by_cases c39 : t239 = 2
      ·rw [if_pos c39] at H
       have c39b0 : (t239 == 2) = true := beq_iff_eq.mpr c39
       have c39b1 : (t239 != 2) = false := bne_eq_false_iff_eq.mpr c39
       clear c39
       simp only [Option.some.injEq, Prod.mk.injEq] at H
       obtain ⟨rfl, rfl, rfl, rfl⟩ := H
       go_wp2_with (first | ((with_reducible refine gate_callee (f := 20) rfl ?_); refine zL (some 21) Try.func20 #[.pointer (some ⟨g, 0, none⟩), .int .i64 5] ?_; (with_reducible refine (awardingbodymake_Tape_Next.calls g s0_0 x1001_5 5 t239 t240 w0 _ ?side1 ?side2 A20.out).mono ?_); (case side1 => repeat (first | (with_reducible first | exact HI0.out | apply IsS68.alloc | apply IsS68.drewN | apply IsS68.drew | apply IsS68.set_1 | refine IsS68.far ?_ NB0_225.out _ | refine IsS68.far ?_ NB0_236.out _) | exact HI0.out)); (case side2 => repeat (first | (with_reducible first | exact HB.out | apply below_alloc | apply pw_below_drewN | apply below_drew1 | refine below_set ?_ (IsS68.ge HI0.out) | refine below_set ?_ GE225.out | refine below_set ?_ GE236.out) | exact HB.out)); rintro e w40 ⟨rfl, hi, hb, hk⟩; refine ⟨_, rfl, ?_⟩; replace HO_237002 := za (Kd.R_mono (Kd.R_keep (IsS68.apart (show IsS68 w0 _ g s0_0 x1001_5 from q6b) q6d (by decide)) hk (fun _ h => h.2)) (fun _ h => h.1)); replace BK225 := zk hk BK225 NB225_0; replace BK236 := zk hk BK236 NB236_0; replace HK := zt HK hk; replace HB := za (hb); replace HI0 := za (hi); (try clear hb); (try clear hb2); (try clear hk); (try clear hi); have hnb41 := NB236_225.out; have hnc41 := NB225_236.out; have hnb42 := NB236_0.out; have hnc42 := NB0_236.out; obtain ⟨hcz43_0, hcz43_1, hcz43_2, hfz43_0, hfz43_1, hfz43_2⟩ := z3 BK236; have hnb44 := NB225_0.out; have hnc44 := NB0_225.out; obtain ⟨hcz45_0, hcz45_1, hcz45_2, hfz45_0, hfz45_1, hfz45_2⟩ := z3 BK225))
       refine bodyPost_ret (results_cell_row rfl _ _ gb225 53 #[.int .i64 t230, .int .i64 t231, .slice none 0 0] (0, 0) _ rfl q6e Try.underlying53 rfl (by kernel_rfl)) rfl ?_
       exact ⟨_, zf, by first | exact Kd.R_nil _ _ _ _ _ | exact Kd.N_nil _ _ _ _ _ | exact Kd.V_nil _ _ _ _ _ | exact Kd.Q_nil _ _ _ _ _ | exact Kd.S_nil _ _ _ _ _, q6b, zm HB, q6a⟩
      ·rw [if_neg c39] at H
       have c39b0 : (t239 == 2) = false := beq_eq_false_iff_ne.mpr c39
       have c39b1 : (t239 != 2) = true := bne_iff_ne.mpr c39
       by_cases c46 : t239 = 3
       ·rw [if_pos c46] at H
        have c46b0 : (t239 == 3) = true := beq_iff_eq.mpr c46
        have c46b1 : (t239 != 3) = false := bne_eq_false_iff_eq.mpr c46
        clear c46
        replace H := Option.bind_eq_some_iff.mp H
        obtain ⟨⟨t245, t246, t247, t248, t249, t250, t251⟩, A470, H⟩ := H
        replace H : (if t232.length < 2932031007402 then (some (t230, t231, (t232 ++ [(⟨t245, t246, t247, t248, t249, t250⟩ : S65)]), t251)) else (none)) = some (r1, r2, r3, r4) := H
        have A47 := za A470; clear A470
        by_cases c48 : t232.length < 2932031007402
        ·rw [if_pos c48] at H
         have LMc48 := za c48; clear c48
         obtain ⟨y252, hy_⟩ : ∃ y_ : List (S65), y_ = (t232 ++ [(⟨t245, t246, t247, t248, t249, t250⟩ : S65)]) := ⟨_, rfl⟩
         replace H : (some (t230, t231, y252, t251)) = some (r1, r2, r3, r4) := by first | (rw [hy_]; with_reducible exact H) | (have H2_ := (Option.bind_some _ _).symm.trans H; rw [hy_]; with_reducible exact H2_) | (have H2_ := (Option.bind_some _ _).symm.trans H; with_reducible exact H2_) | with_reducible exact H | (rw [hy_]; exact H) | exact H
         have Ny252 := za hy_; clear hy_
         simp only [Option.some.injEq, Prod.mk.injEq] at H
         obtain ⟨rfl, rfl, rfl, rfl⟩ := H
         try go_wp2_with (first | ((with_reducible refine gate_callee (f := 20) rfl ?_); refine zL (some 21) Try.func20 #[.pointer (some ⟨g, 0, none⟩), .int .i64 5] ?_; (with_reducible refine (awardingbodymake_Tape_Next.calls g s0_0 x1001_5 5 t239 t240 w0 _ ?side1 ?side2 A20.out).mono ?_); (case side1 => repeat (first | (with_reducible first | exact HI0.out | apply IsS68.alloc | apply IsS68.drewN | apply IsS68.drew | apply IsS68.set_1 | refine IsS68.far ?_ NB0_225.out _ | refine IsS68.far ?_ NB0_236.out _) | exact HI0.out)); (case side2 => repeat (first | (with_reducible first | exact HB.out | apply below_alloc | apply pw_below_drewN | apply below_drew1 | refine below_set ?_ (IsS68.ge HI0.out) | refine below_set ?_ GE225.out | refine below_set ?_ GE236.out) | exact HB.out)); rintro e w49 ⟨rfl, hi, hb, hk⟩; refine ⟨_, rfl, ?_⟩; replace HO_237002 := za (Kd.R_mono (Kd.R_keep (IsS68.apart (show IsS68 w0 _ g s0_0 x1001_5 from q6b) q6d (by decide)) hk (fun _ h => h.2)) (fun _ h => h.1)); replace BK225 := zk hk BK225 NB225_0; replace BK236 := zk hk BK236 NB236_0; replace HK := zt HK hk; replace HB := za (hb); replace HI0 := za (hi); (try clear hb); (try clear hb2); (try clear hk); (try clear hi)))
         replace HO_237002 := za (Kd.R_drew HO_237002.out)
         replace BK225 := za (blk_drew BK225.out)
         replace BK236 := za (blk_drew BK236.out)
         replace HI0 := za (IsS68.drew HI0.out)
         replace HK := za (keep_drew HK.out)
         replace HB := za (below_drew1 HB.out)
         refine start_ (n := 8) (S := fun w' => w'.cell? ⟨gb236, 0, none⟩ = some (.int .i64 t230) ∧ w'.cell? ⟨gb236, 1, none⟩ = some (.int .i64 t231) ∧ w'.cell? ⟨gb236, 2, none⟩ = some (.slice Ao15 t232.length co15)) (ds := [7]) #[false, false, false, false, false, false, false, false] (by kernel_rfl) rfl rfl ⟨(blk_cell BK236.out 0).trans rfl, (blk_cell BK236.out 1).trans rfl, (blk_cell BK236.out 2).trans rfl⟩ (fun hHeld => ?_); refine with_tabW awardingbodymake_Tape_LoosePaper.tab15 awardingbodymake_Tape_LoosePaper.bits15 (fun HT_ HW_ => ?_)
         generalize w49.drew = w50 at HO_237002 BK225 BK236 HI0 HK HB hHeld ⊢
         refine pure_ (i := 0) (N := some 47) (v := ?_) (a' := ?_) #[true, false, false, false, false, false, false, false] rfl rfl (any_of HT_.out (by kernel_rfl)) (fun _ _ _ h => h) (Or.inl ⟨by rfl, ?_⟩) ?_ ?_
         rotate_left
         ·intro w'
          go_simp
          with_reducible rfl
         rotate_left
         ·simp only [Act.put, List.setIfInBounds_toArray, List.set_cons_zero, List.set_cons_succ, i64_w, i32_w]
          rfl
         refine pure_ (i := 2) (N := some 49) (v := ?_) (a' := ?_) #[true, false, true, false, false, false, false, false] rfl rfl (any_of HT_.out (by kernel_rfl)) (fun _ _ _ h => h) (Or.inl ⟨by rfl, ?_⟩) ?_ ?_
         rotate_left
         ·intro w'
          go_simp
          with_reducible rfl
         rotate_left
         ·simp only [Act.put, List.setIfInBounds_toArray, List.set_cons_zero, List.set_cons_succ, i64_w, i32_w]
          rfl
         refine take_ (i := 1) (N := some 48) (v := ?_) (a' := ?_) #[true, true, true, false, false, false, false, false] rfl rfl (take_ofW HT_.out HW_.out (by kernel_rfl)) (fun _ _ _ h => h) (Or.inl ⟨by rfl, ?_⟩) hHeld ?_ ?_
         rotate_left
         ·rintro w' ⟨s0, s1, s2⟩
          go_simp
          with_reducible rfl
         rotate_left
         ·simp only [Act.put, List.setIfInBounds_toArray, List.set_cons_zero, List.set_cons_succ, i64_w, i32_w]
          rfl
         refine one_ (i := 3) (N := some 50) #[true, true, true, true, false, false, false, false] rfl rfl (one_of HT_.out (by kernel_rfl)) (by decide) (fun K hK => ?_)
         refine goes_ Try.func48 (by kernel_rfl) rfl #[.pointer (some ⟨g, 0, none⟩), .int .i64 1] (by rfl) rfl rfl (by (try simp only [List.map_toArray, List.map_cons, List.map_nil]); first | done | rfl | (simp only [List.length_drop, List.length_take]; rfl)) ?_
         with_reducible refine (awardingbodymake_Tape_Part.calls kj5 g s0_0 t240 1 t245 t246 t247 t248 t249 t250 t251 w0 _ ?side1 ?side2 A47.out).mono ?_
         (case side1 => repeat (first | (with_reducible first | exact HI0.out | apply IsS68.alloc | apply IsS68.drewN | apply IsS68.drew | apply IsS68.set_1 | refine IsS68.far ?_ NB0_225.out _ | refine IsS68.far ?_ NB0_236.out _) | exact HI0.out))
         (case side2 => repeat (first | (with_reducible first | exact HB.out | apply below_alloc | apply pw_below_drewN | apply below_drew1 | refine below_set ?_ (IsS68.ge HI0.out) | refine below_set ?_ GE225.out | refine below_set ?_ GE236.out) | exact HB.out))
         rintro e w51 ⟨rfl, hi, hb, hk⟩
         refine ⟨_, rfl, ?_⟩
         replace HO_237002 := za (Kd.R_mono (Kd.R_keep (IsS68.apart (show IsS68 w0 _ g s0_0 t240 from q6b) q6d (by decide)) hk (fun _ h => h.2)) (fun _ h => h.1))
         replace BK225 := zk hk BK225 NB225_0
         replace BK236 := zk hk BK236 NB236_0
         replace HK := zt HK hk
         replace HB := za (hb)
         replace HI0 := za (hi)
         (try clear hb)
         (try clear hb2)
         (try clear hk)
         (try clear hi)
         refine hK.out _ _ ⟨(blk_cell BK236.out 0).trans rfl, (blk_cell BK236.out 1).trans rfl, (blk_cell BK236.out 2).trans rfl⟩ (fun hHeld => ?_)
         clear hK K
         refine norm_ (a' := ?_) ?_ ?_
         rotate_left
         ·show Act.put _ (some 50) _ = _
          simp only [Act.put, List.setIfInBounds_toArray, List.set_cons_zero, List.set_cons_succ, i64_w, i32_w]
          rfl
         refine one_ (i := 4) (N := some 51) #[true, true, true, true, true, false, false, false] rfl rfl (one_of HT_.out (by kernel_rfl)) (by decide) (fun K hK => ?_)
         refine value_ (w1 := ?_) (v := ?_) (by rfl) rfl ?_ ?_
         rotate_left 2
         ·go_simp
          constructor
          ·rfl
          ·rfl
         refine hK.out _ _ ⟨(blk_cell (blk_alloc BK236.out _) 0).trans rfl, (blk_cell (blk_alloc BK236.out _) 1).trans rfl, (blk_cell (blk_alloc BK236.out _) 2).trans rfl⟩ (fun hHeld => ?_)
         clear hK K
         refine norm_ (a' := ?_) ?_ ?_
         rotate_left
         ·show Act.put _ (some 51) _ = _
          simp only [Act.put, List.setIfInBounds_toArray, List.set_cons_zero, List.set_cons_succ, i64_w, i32_w]
          rfl
         refine one_ (i := 5) (N := some 52) #[true, true, true, true, true, true, false, false] rfl rfl (one_of HT_.out (by kernel_rfl)) (by decide) (fun K hK => ?_)
         refine Kd.R_append_step k65 w.heap.size (by rfl) (.tmp 48) (.tmp 51) 51 65 (.agg #[(.int .i64 0), (.int .i64 0), (.int .i64 0), (.int .i64 0), (.int .i64 0), (.int .i64 0)]) 48 rfl Try.underlying51 info65 rfl (by decide) (by omega) (.slice Ao15 t232.length co15) t232 (⟨t245, t246, t247, t248, t249, t250⟩ : S65) [.int .i64 t245, .int .i64 t246, .int .i64 t247, .int .i64 t248, .int .i64 t249, .int .i64 t250] (fun _ => True) (fun _ => False) rfl rfl ?aP (fun _ hk => hk.elim) ?aF ?aO (Below.refl _ _) ?aS ?aL ?_
         (case aP => exact k65_mkM _ _ _ (⟨t245, t246, t247, t248, t249, t250⟩ : S65))
         (case aF => exact (fun _ _ => trivial))
         (case aO => exact q6d)
         (case aS => exact (keep_size (w := w) (g := g) (row := none) (q6a)))
         (case aL => have := LMc48.out; omega)
         intro v253 w52 ho hb hg hat
         rw [← Ny252.out] at ho
         have HO254 := za (ho)
         replace BK225 := (zw BK225 hg (Kd.R_ne HO_237002.out BK225.out (by decide)))
         replace BK236 := (zw BK236 hg (Kd.R_ne HO_237002.out BK236.out (by decide)))
         replace HI0 := za (IsS68.grown (q6b) hg (IsS68.own_ne HI0.out HO_237002.out (by decide)))
         replace HB := za (below_weaken (zm HB) HL.out hb)
         replace HK := za (KeepBut.trans (q6a) (KeepBut.of_grown hg g) (Kd.R_base2 HO_237002.out))
         clear HO_237002 ho hb hg hat
         obtain ⟨Ao53, co53, eo53⟩ := Kd.R_slice HO254.out
         (first | subst eo53 | (injection eo53 with f1_ f2_ f3_; have f4_ := f1_.symm; have f5_ := f3_.symm; clear f1_ f2_ f3_; subst f4_; subst f5_))
         refine hK.out _ _ ⟨(blk_cell BK236.out 0).trans rfl, (blk_cell BK236.out 1).trans rfl, (blk_cell BK236.out 2).trans rfl⟩ (fun hHeld => ?_)
         clear hK K
         refine norm_ (a' := ?_) ?_ ?_
         rotate_left
         ·show Act.put _ (some 52) _ = _
          simp only [Act.put, List.setIfInBounds_toArray, List.set_cons_zero, List.set_cons_succ, i64_w, i32_w]
          rfl
         refine pure_ (i := 6) (N := some 53) (v := ?_) (a' := ?_) #[true, true, true, true, true, true, true, false] rfl rfl (any_of HT_.out (by kernel_rfl)) (fun _ _ _ h => h) (Or.inl ⟨by rfl, ?_⟩) ?_ ?_
         rotate_left
         ·intro w'
          go_simp
          with_reducible rfl
         rotate_left
         ·simp only [Act.put, List.setIfInBounds_toArray, List.set_cons_zero, List.set_cons_succ, i64_w, i32_w]
          rfl
         refine last_ (i := 7) (N := none) #[true, true, true, true, true, true, true, true] rfl rfl (one_of HT_.out (by kernel_rfl)) (by decide) (fun K hK => ?_)
         have hs54 : w52.cell? ⟨gb236, 2, none⟩ = some (.slice Ao15 t232.length co15) := (blk_cell BK236.out 2).trans rfl
         have hfs54 := blk_frozen BK236.out 2
         have hns54_0 := NB225_236.out
         have hms54_0 := NB236_225.out
         refine skip_ (w1 := ?_) (by rfl) rfl ?_ ?_
         rotate_left
         ·go_simp
          rfl
         refine hK.out _ _ ?_
         clear hK K
         refine done_ (done_of HT_.out (by kernel_rfl)) ?_
         have hnb55 := NB236_225.out
         have hnc55 := NB225_236.out
         have hnb56 := NB236_0.out
         have hnc56 := NB0_236.out
         obtain ⟨hcz57_0, hcz57_1, hcz57_2, hfz57_0, hfz57_1, hfz57_2⟩ := z3 BK236
         have hnb58 := NB225_0.out
         have hnc58 := NB0_225.out
         obtain ⟨hcz59_0, hcz59_1, hcz59_2, hfz59_0, hfz59_1, hfz59_2⟩ := z3 BK225
         try go_wp2
         refine bodyPost_ret (results_cell_row rfl _ _ gb225 53 #[.int .i64 t230, .int .i64 t231, .slice Ao53 y252.length co53] (0, 0) _ rfl q6e Try.underlying53 rfl (by kernel_rfl)) rfl ?_
         exact ⟨_, zf, by (with_reducible repeat (first | apply Kd.R_alloc | apply Kd.R_drewN | apply Kd.R_drew)); exact Kd.R_mono (Kd.R_far (p := ⟨gb225, 2, none⟩) (Kd.R_far (p := ⟨gb225, 1, none⟩) (Kd.R_far (p := ⟨gb225, 0, none⟩) (Kd.R_far (p := ⟨gb236, 2, none⟩) (Kd.R_types (Kd.R_types HO254.out BK236.out (by decide)) BK225.out (by decide)) (fun _ hk => hk.1.2) (.slice Ao53 y252.length co53)) (fun _ hk => hk.2) (.int .i64 t230)) (fun _ hk => hk.2) (.int .i64 t231)) (fun _ hk => hk.2) (.slice Ao53 y252.length co53)) (fun _ hk => trivial), q6b, zm HB, q6a⟩
        ·rw [if_neg c48] at H
         exact absurd H (by simp)
       ·rw [if_neg c46] at H
        have c46b0 : (t239 == 3) = false := beq_eq_false_iff_ne.mpr c46
        have c46b1 : (t239 != 3) = true := bne_iff_ne.mpr c46
        have H' := za H; clear H
        go_wp2_with (first | ((with_reducible refine gate_callee (f := 20) rfl ?_); refine zL (some 21) Try.func20 #[.pointer (some ⟨g, 0, none⟩), .int .i64 5] ?_; (with_reducible refine (awardingbodymake_Tape_Next.calls g s0_0 x1001_5 5 t239 t240 w0 _ ?side1 ?side2 A20.out).mono ?_); (case side1 => repeat (first | (with_reducible first | exact HI0.out | apply IsS68.alloc | apply IsS68.drewN | apply IsS68.drew | apply IsS68.set_1 | refine IsS68.far ?_ NB0_225.out _ | refine IsS68.far ?_ NB0_236.out _) | exact HI0.out)); (case side2 => repeat (first | (with_reducible first | exact HB.out | apply below_alloc | apply pw_below_drewN | apply below_drew1 | refine below_set ?_ (IsS68.ge HI0.out) | refine below_set ?_ GE225.out | refine below_set ?_ GE236.out) | exact HB.out)); rintro e w60 ⟨rfl, hi, hb, hk⟩; refine ⟨_, rfl, ?_⟩; replace HO_237002 := za (Kd.R_mono (Kd.R_keep (IsS68.apart (show IsS68 w0 _ g s0_0 x1001_5 from q6b) q6d (by decide)) hk (fun _ h => h.2)) (fun _ h => h.1)); replace BK225 := zk hk BK225 NB225_0; replace BK236 := zk hk BK236 NB236_0; replace HK := zt HK hk; replace HB := za (hb); replace HI0 := za (hi); (try clear hb); (try clear hb2); (try clear hk); (try clear hi)))
        go_loopg [6] kj5 (fun kq v6 w' => ∃ (x6_2 : Int) (x237002_2 : List (S65)) (u237002 : Value), v6 = .int .i64 x6_2 ∧ Aside0 (awardingbodymake_Tape_LoosePaper.l0 kq x6_2 s0_0 t240 t230 t231 x237002_2 = some (r1, r2, r3, r4)) ∧ Aside0 (kq ≤ kj5) ∧ Aside0 (Kd.R k65 65 w' w.heap.size (fun _ => True) u237002 x237002_2) ∧ Aside0 (w'.heap[gb225]? = some (.cells #[.int .i64 0, .int .i64 0, (.slice none 0 0)] 53 (0, 0))) ∧ Aside0 (w'.heap[gb236]? = some (.cells #[.int .i64 t230, .int .i64 t231, u237002] 53 (0, 0))) ∧ Aside0 (IsS68 w0 w' g s0_0 t240) ∧ Aside0 (KeepBut w w' g none) ∧ Aside0 (Below w0.heap.size w0 w'))
        case atStart => exact ⟨(0), (t232), (.slice Ao15 t232.length co15), q6h, H', ⟨Nat.le_refl _⟩, ⟨by (with_reducible repeat (first | apply Kd.R_alloc | apply Kd.R_drewN | apply Kd.R_drew)); exact HO_237002.out⟩, ⟨q6c⟩, ⟨q6c⟩, ⟨q6b⟩, ⟨q6a⟩, ⟨zm HB⟩⟩
        case round =>
         clear H'; (try clear c1); (try clear c2); (try clear p2); (try clear c3); (try clear c4); (try clear c5); (try clear c12); (try clear c13); (try clear c16); (try clear c16b0); (try clear c19); (try clear c20); (try clear c21); (try clear c21b0); (try clear c21b1); (try clear c25); (try clear c26); (try clear c28); (try clear c30); (try clear c30b0); (try clear c30b1); (try clear c34); (try clear c35); (try clear c37); (try clear c39); (try clear c39b0); (try clear c39b1); (try clear c41); (try clear c42); (try clear c44); (try clear c46); (try clear c46b0); (try clear c46b1); (try clear c47); (try clear c48); (try clear c55); (try clear c56); (try clear c58); (try clear hcz14_0); (try clear hcz14_1); (try clear hcz14_2); (try clear hcz27_0); (try clear hcz27_1); (try clear hcz27_2); (try clear hcz29_0); (try clear hcz29_1); (try clear hcz29_2); (try clear hcz36_0); (try clear hcz36_1); (try clear hcz36_2); (try clear hcz38_0); (try clear hcz38_1); (try clear hcz38_2); (try clear hcz43_0); (try clear hcz43_1); (try clear hcz43_2); (try clear hcz45_0); (try clear hcz45_1); (try clear hcz45_2); (try clear hcz57_0); (try clear hcz57_1); (try clear hcz57_2); (try clear hcz59_0); (try clear hcz59_1); (try clear hcz59_2); (try clear hfz14_0); (try clear hfz14_1); (try clear hfz14_2); (try clear hfz27_0); (try clear hfz27_1); (try clear hfz27_2); (try clear hfz29_0); (try clear hfz29_1); (try clear hfz29_2); (try clear hfz36_0); (try clear hfz36_1); (try clear hfz36_2); (try clear hfz38_0); (try clear hfz38_1); (try clear hfz38_2); (try clear hfz43_0); (try clear hfz43_1); (try clear hfz43_2); (try clear hfz45_0); (try clear hfz45_1); (try clear hfz45_2); (try clear hfz57_0); (try clear hfz57_1); (try clear hfz57_2); (try clear hfz59_0); (try clear hfz59_1); (try clear hfz59_2); (try clear p2)
         obtain ⟨x6_2, x237002_2, u237002, rfl, HA, HK2, HO_237002, BK225, BK236, HI0, HK, HB⟩ := hrel
         cases gk with
         | zero => exact absurd HA.out (by simp [awardingbodymake_Tape_LoosePaper.l0])
         | succ k2 =>
          have H := HA.out
          clear HA
          simp only [awardingbodymake_Tape_LoosePaper.l0] at H
          by_cases c61 : x6_2 < 6
          ·rw [if_pos c61] at H
           have c61b0 : decide (x6_2 < 6) = true := decide_eq_true c61
           clear c61
           by_cases c62 : x237002_2.length < 2932031007402
           ·rw [if_pos c62] at H
            have LMc62 := za c62; clear c62
            obtain ⟨y255, hy_⟩ : ∃ y_ : List (S65), y_ = (x237002_2 ++ [(⟨1, 40, 0, 0, 0, 0⟩ : S65)]) := ⟨_, rfl⟩
            replace H : (awardingbodymake_Tape_LoosePaper.l0 k2 (wrap64 (x6_2 + 1)) s0_0 t240 t230 t231 y255) = some (r1, r2, r3, r4) := by first | (rw [hy_]; with_reducible exact H) | (have H2_ := (Option.bind_some _ _).symm.trans H; rw [hy_]; with_reducible exact H2_) | (have H2_ := (Option.bind_some _ _).symm.trans H; with_reducible exact H2_) | with_reducible exact H | (rw [hy_]; exact H) | exact H
            have Ny255 := za hy_; clear hy_; have H' := za H; clear H
            have hnb63 := NB236_225.out
            have hnc63 := NB225_236.out
            have hnb64 := NB236_0.out
            have hnc64 := NB0_236.out
            obtain ⟨hcz65_0, hcz65_1, hcz65_2, hfz65_0, hfz65_1, hfz65_2⟩ := z3 BK236
            go_wp2_with (first | ((with_reducible refine gate_builtin (b := .append) (xs := #[.tmp 27, .tmp 29]) rfl ?_); at_builtin; refine Kd.R_append k65 w.heap.size rfl (.tmp 27) (.tmp 29) 51 65 (.agg #[(.int .i64 0), (.int .i64 0), (.int .i64 0), (.int .i64 0), (.int .i64 0), (.int .i64 0)]) 48 rfl Try.underlying51 info65 rfl (by decide) (by omega) u237002 x237002_2 (⟨1, 40, 0, 0, 0, 0⟩ : S65) [.int .i64 1, .int .i64 40, .int .i64 0, .int .i64 0, .int .i64 0, .int .i64 0] (fun _ => True) (fun _ => False) rfl rfl ?aP (fun _ hk => hk.elim) ?aF ?aO (Below.refl _ _) ?aS ?aL ?_; (case aP => exact k65_mkM _ _ _ (⟨1, 40, 0, 0, 0, 0⟩ : S65)); (case aF => exact (fun _ _ => trivial)); (case aO => exact q6d); (case aS => exact (keep_size (w := w) (g := g) (row := none) (q6a))); (case aL => have := LMc62.out; omega); intro v256 w66 ho hb hg hat; rw [← Ny255.out] at ho; have HO257 := za (ho); replace BK225 := (zw BK225 hg (Kd.R_ne HO_237002.out BK225.out (by decide))); replace BK236 := (zw BK236 hg (Kd.R_ne HO_237002.out BK236.out (by decide))); replace HI0 := za (IsS68.grown (q6b) hg (IsS68.own_ne HI0.out HO_237002.out (by decide))); replace HB := za (below_weaken (zm HB) HL.out hb); replace HK := za (KeepBut.trans (q6a) (KeepBut.of_grown hg g) (Kd.R_base2 HO_237002.out)); clear HO_237002 ho hb hg hat; obtain ⟨Ao67, co67, eo67⟩ := Kd.R_slice HO257.out; subst eo67; obtain ⟨hcz68_0, hcz68_1, hcz68_2, hfz68_0, hfz68_1, hfz68_2⟩ := z3 BK236))
            go_roundg k2
            case measure => have := HJ5.out; have := HK2.out; omega
            case rel => exact ⟨(wrap64 (x6_2 + 1)), (y255), (.slice Ao67 y255.length co67), q6h, H', ⟨by have := HJ5.out; have := HK2.out; omega⟩, ⟨by (with_reducible repeat (first | apply Kd.R_alloc | apply Kd.R_drewN | apply Kd.R_drew)); exact Kd.R_mono (Kd.R_far (p := ⟨gb236, 2, none⟩) (Kd.R_types HO257.out BK236.out (by decide)) (fun _ hk => hk.2) (.slice Ao67 y255.length co67)) (fun _ hk => trivial)⟩, ⟨q6c⟩, ⟨by (with_reducible repeat (first | refine blk_drewN ?_ _ | refine blk_drew ?_ | refine blk_alloc ?_ _)); refine blk_put (cs := #[.int .i64 t230, .int .i64 t231, u237002]) ?_ 2 _ rfl; (with_reducible repeat (first | refine blk_drewN ?_ _ | refine blk_drew ?_ | refine blk_alloc ?_ _)); exact BK236.out⟩, ⟨q6b⟩, ⟨q6a⟩, ⟨zm HB⟩⟩
           ·rw [if_neg c62] at H
            exact absurd H (by simp)
          ·rw [if_neg c61] at H
           have c61b0 : decide (x6_2 < 6) = false := decide_eq_false c61
           clear c61
           simp only [Option.some.injEq, Prod.mk.injEq] at H
           obtain ⟨rfl, rfl, rfl, rfl⟩ := H
           have hnb69 := NB236_225.out
           have hnc69 := NB225_236.out
           have hnb70 := NB236_0.out
           have hnc70 := NB0_236.out
           obtain ⟨hcz71_0, hcz71_1, hcz71_2, hfz71_0, hfz71_1, hfz71_2⟩ := z3 BK236
           have hnb72 := NB225_0.out
           have hnc72 := NB0_225.out
           obtain ⟨hcz73_0, hcz73_1, hcz73_2, hfz73_0, hfz73_1, hfz73_2⟩ := z3 BK225
           obtain ⟨Ao74, co74, eo74⟩ := Kd.R_slice HO_237002.out
           subst eo74
           go_wp2
           refine bodyPost_ret (results_cell_row rfl _ _ gb225 53 #[.int .i64 t230, .int .i64 t231, .slice Ao74 x237002_2.length co74] (0, 0) _ rfl q6f Try.underlying53 rfl (by kernel_rfl)) rfl ?_
           exact ⟨_, zf, by (with_reducible repeat (first | apply Kd.R_alloc | apply Kd.R_drewN | apply Kd.R_drew)); exact Kd.R_mono (Kd.R_far (p := ⟨gb225, 2, none⟩) (Kd.R_far (p := ⟨gb225, 1, none⟩) (Kd.R_far (p := ⟨gb225, 0, none⟩) (Kd.R_types HO_237002.out BK225.out (by decide)) (fun _ hk => hk.2) (.int .i64 t230)) (fun _ hk => hk.2) (.int .i64 t231)) (fun _ hk => hk.2) (.slice Ao74 x237002_2.length co74)) (fun _ hk => trivial), q6b, zm HB, q6a⟩
   ·replace c19 := Bool.eq_false_iff.mpr c19
    subst c19
    have H1 : (some (t230, t231, t232, x1001_5)) = some (r1, r2, r3, r4) := by rw [if_neg (show ¬ (false = true) by decide)] at H; exact H
    clear H; have H := H1; clear H1
    simp only [Option.some.injEq, Prod.mk.injEq] at H
    obtain ⟨rfl, rfl, rfl, rfl⟩ := H
    have hnb75 := NB236_225.out
    have hnc75 := NB225_236.out
    have hnb76 := NB236_0.out
    have hnc76 := NB0_236.out
    obtain ⟨hcz77_0, hcz77_1, hcz77_2, hfz77_0, hfz77_1, hfz77_2⟩ := z3 BK236
    have hnb78 := NB225_0.out
    have hnc78 := NB0_225.out
    obtain ⟨hcz79_0, hcz79_1, hcz79_2, hfz79_0, hfz79_1, hfz79_2⟩ := z3 BK225
    go_wp2
    refine bodyPost_ret (results_cell_row rfl _ _ gb225 53 #[.int .i64 t230, .int .i64 t231, .slice Ao15 t232.length co15] (0, 0) _ rfl q6f Try.underlying53 rfl (by kernel_rfl)) rfl ?_
    exact ⟨_, zf, by (with_reducible repeat (first | apply Kd.R_alloc | apply Kd.R_drewN | apply Kd.R_drew)); exact Kd.R_mono (Kd.R_far (p := ⟨gb225, 2, none⟩) (Kd.R_far (p := ⟨gb225, 1, none⟩) (Kd.R_far (p := ⟨gb225, 0, none⟩) (Kd.R_types HO_237002.out BK225.out (by decide)) (fun _ hk => hk.2) (.int .i64 t230)) (fun _ hk => hk.2) (.int .i64 t231)) (fun _ hk => hk.2) (.slice Ao15 t232.length co15)) (fun _ hk => trivial), q6b, zm HB, q6a⟩

end Go.Proofs.Ythbmpjglkbhhgaa.Print
