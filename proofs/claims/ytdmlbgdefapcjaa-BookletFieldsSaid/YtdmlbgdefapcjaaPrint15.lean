-- Printed by a program of this session (wip/own_print.py) out of the translation; Lean checks it.
import Derived.Test.YtdmlbgdefapcjaaShort
import Derived.Test.YtdmlbgdefapcjaaPrint0
import Derived.Test.YtdmlbgdefapcjaaPrint10
import Derived.Test.YtdmlbgdefapcjaaPrint11
import Derived.Test.YtdmlbgdefapcjaaPrint14
namespace Go.Proofs.Ytdmlbgdefapcjaa.Print
open Go.RowKit Go.Proofs.YtdmlbgdefapcjaaW.PrintWords Go.Proofs.YtdmlbgdefapcjaaW.PrintLast Go.Proofs.YtdmlbgdefapcjaaW.PrintMore
attribute [local go_sem] max2_int min2_int max_two min_two max_three min_three max_four min_four   -- for this text's walks alone
set_option linter.unusedVariables false
set_option linter.unusedSimpArgs false

/-! ### awardingbodymake_Tape_Long: function 17 -/
mutual
def awardingbodymake_Tape_Long.l0 : Nat → Int → List Int → Int → Int → Int → List (S23) → Option (Int × Int × (List (S23)) × Int)
  | 0, _, _, _, _, _, _ => none
  | k + 1, x4, x1000, x1001, x303000, x303001, x303002 => if x4 > 0 then ((awardingbodymake_Tape_Part.f k x1000 x1001 0).bind fun bt305 => ((awardingbodymake_Tape_Next.f x1000 bt305.2.2.2.2.2.2 2).bind fun bt313 => (if bt313.1 = 0 then (awardingbodymake_Tape_Long.j1 k x4 (bt305.1 == 1) x1000 bt313.2 x303000 x303001 x303002 bt305.1 bt305.2.1 bt305.2.2.1 bt305.2.2.2.1 bt305.2.2.2.2.1 bt305.2.2.2.2.2.1) else (awardingbodymake_Tape_Long.j1 k x4 false x1000 bt313.2 x303000 x303001 x303002 bt305.1 bt305.2.1 bt305.2.2.1 bt305.2.2.2.1 bt305.2.2.2.2.1 bt305.2.2.2.2.2.1)))) else (some (x303000, x303001, x303002, x1001))
def awardingbodymake_Tape_Long.j1 : Nat → Int → Bool → List Int → Int → Int → Int → List (S23) → Int → Int → Int → Int → Int → Int → Option (Int × Int × (List (S23)) × Int)
  | 0, _, _, _, _, _, _, _, _, _, _, _, _, _ => none
  | k + 1, x4, x22, x1000, x1001, x303000, x303001, x303002, x313000, x313001, x313002, x313003, x313004, x313005 => if x22 = true then ((awardingbodymake_Tape_Range.f x1000 x1001 1 28).bind fun bt315 => (if x303002.length < 2932031007402 then ((some (x303002 ++ [(⟨x313000, bt315.1, x313002, x313003, x313004, x313005⟩ : S23)] : List (S23))).bind fun y317 => ((awardingbodyref06_ValidPaper.f k x303000 x303001 y317).bind fun t320 => (if t320 = true then (awardingbodymake_Tape_Long.l0 k (wrap64 (x4 - 1)) x1000 bt315.2 x303000 x303001 y317) else (if 0 ≤ (wrap64 ((y317.length : Int) - 1)) then (if (wrap64 ((y317.length : Int) - 1)) ≤ (y317.length : Int) then (awardingbodymake_Tape_Long.l0 k (wrap64 (x4 - 1)) x1000 bt315.2 x303000 x303001 (y317.take ((wrap64 ((y317.length : Int) - 1)) : Int).toNat)) else (none)) else (none))))) else (none))) else (if x303002.length < 2932031007402 then ((some (x303002 ++ [(⟨x313000, x313001, x313002, x313003, x313004, x313005⟩ : S23)] : List (S23))).bind fun y324 => ((awardingbodyref06_ValidPaper.f k x303000 x303001 y324).bind fun t327 => (if t327 = true then (awardingbodymake_Tape_Long.l0 k (wrap64 (x4 - 1)) x1000 x1001 x303000 x303001 y324) else (if 0 ≤ (wrap64 ((y324.length : Int) - 1)) then (if (wrap64 ((y324.length : Int) - 1)) ≤ (y324.length : Int) then (awardingbodymake_Tape_Long.l0 k (wrap64 (x4 - 1)) x1000 x1001 x303000 x303001 (y324.take ((wrap64 ((y324.length : Int) - 1)) : Int).toNat)) else (none)) else (none))))) else (none))
end
def awardingbodymake_Tape_Long.f (k : Nat) (s0_0 : List Int) (s0_1 : Int) : Option (Int × Int × (List (S23)) × Int) := (awardingbodymake_Tape_Range.f s0_0 s0_1 1 24).bind fun bt303 => (awardingbodymake_Tape_Long.l0 k bt303.1 s0_0 bt303.2 0 0 ([] : List (S23)))
theorem awardingbodymake_Tape_Long.mono_l : ∀ k, (∀ y0 y1 y2 y3 y4 y5, LeO (awardingbodymake_Tape_Long.l0 k y0 y1 y2 y3 y4 y5) (awardingbodymake_Tape_Long.l0 (k + 1) y0 y1 y2 y3 y4 y5)) ∧ (∀ y0 y1 y2 y3 y4 y5 y6 y7 y8 y9 y10 y11 y12, LeO (awardingbodymake_Tape_Long.j1 k y0 y1 y2 y3 y4 y5 y6 y7 y8 y9 y10 y11 y12) (awardingbodymake_Tape_Long.j1 (k + 1) y0 y1 y2 y3 y4 y5 y6 y7 y8 y9 y10 y11 y12))
  | 0 => ⟨fun _ _ _ _ _ _ r h => by simp [awardingbodymake_Tape_Long.l0] at h, fun _ _ _ _ _ _ _ _ _ _ _ _ _ r h => by simp [awardingbodymake_Tape_Long.j1] at h⟩
  | k + 1 => by
    obtain ⟨ih0, ih1⟩ := awardingbodymake_Tape_Long.mono_l k
    refine ⟨?_, ?_⟩
    · intro y0 y1 y2 y3 y4 y5
      unfold awardingbodymake_Tape_Long.l0
      repeat' first
      | (with_reducible exact ih0 _ _ _ _ _ _)
      | (with_reducible exact ih1 _ _ _ _ _ _ _ _ _ _ _ _ _)
      | (with_reducible exact awardingbodymake_Tape_Part.mono _ _ _ _)
      | (with_reducible exact awardingbodyref06_ValidPaper.mono _ _ _ _)
      | (with_reducible exact LeO.refl _)
      | (with_reducible exact LeO.none _)
      | (with_reducible refine LeO.ite ?_ ?_)
      | (with_reducible refine LeO.bind ?_ (fun _ => ?_))
      | exact ih0 _ _ _ _ _ _
      | exact ih1 _ _ _ _ _ _ _ _ _ _ _ _ _
      | exact awardingbodymake_Tape_Part.mono _ _ _ _
      | exact awardingbodyref06_ValidPaper.mono _ _ _ _
      | exact LeO.none _
      | refine LeO.ite ?_ ?_
      | refine LeO.bind ?_ (fun _ => ?_)
    · intro y0 y1 y2 y3 y4 y5 y6 y7 y8 y9 y10 y11 y12
      unfold awardingbodymake_Tape_Long.j1
      repeat' first
      | (with_reducible exact ih0 _ _ _ _ _ _)
      | (with_reducible exact ih1 _ _ _ _ _ _ _ _ _ _ _ _ _)
      | (with_reducible exact awardingbodymake_Tape_Part.mono _ _ _ _)
      | (with_reducible exact awardingbodyref06_ValidPaper.mono _ _ _ _)
      | (with_reducible exact LeO.refl _)
      | (with_reducible exact LeO.none _)
      | (with_reducible refine LeO.ite ?_ ?_)
      | (with_reducible refine LeO.bind ?_ (fun _ => ?_))
      | exact ih0 _ _ _ _ _ _
      | exact ih1 _ _ _ _ _ _ _ _ _ _ _ _ _
      | exact awardingbodymake_Tape_Part.mono _ _ _ _
      | exact awardingbodyref06_ValidPaper.mono _ _ _ _
      | exact LeO.none _
      | refine LeO.ite ?_ ?_
      | refine LeO.bind ?_ (fun _ => ?_)
theorem awardingbodymake_Tape_Long.mono : ∀ a0 a1 k, LeO (awardingbodymake_Tape_Long.f k a0 a1) (awardingbodymake_Tape_Long.f (k + 1) a0 a1) := by
  intro a0 a1 k
  obtain ⟨ih0, ih1⟩ := awardingbodymake_Tape_Long.mono_l k
  unfold awardingbodymake_Tape_Long.f
  repeat' first
      | (with_reducible exact ih0 _ _ _ _ _ _)
      | (with_reducible exact ih1 _ _ _ _ _ _ _ _ _ _ _ _ _)
      | (with_reducible exact awardingbodymake_Tape_Part.mono _ _ _ _)
      | (with_reducible exact awardingbodyref06_ValidPaper.mono _ _ _ _)
      | (with_reducible exact LeO.refl _)
      | (with_reducible exact LeO.none _)
      | (with_reducible refine LeO.ite ?_ ?_)
      | (with_reducible refine LeO.bind ?_ (fun _ => ?_))
      | exact ih0 _ _ _ _ _ _
      | exact ih1 _ _ _ _ _ _ _ _ _ _ _ _ _
      | exact awardingbodymake_Tape_Part.mono _ _ _ _
      | exact awardingbodyref06_ValidPaper.mono _ _ _ _
      | exact LeO.none _
      | refine LeO.ite ?_ ?_
      | refine LeO.bind ?_ (fun _ => ?_)
set_option maxHeartbeats 8000000 in
set_option maxRecDepth 100000 in
theorem awardingbodymake_Tape_Long.calls (k : Nat) (g : Nat) (s0_0 : List Int) (s0_1 : Int) (r1 : Int) (r2 : Int) (r3 : List (S23)) (r4 : Int) (w0 w : World) (hI : IsS61 w0 w g s0_0 s0_1) (hB : Below w0.heap.size w0 w) (h : awardingbodymake_Tape_Long.f k s0_0 s0_1 = some (r1, r2, r3, r4)) :
    Calls Try.prog 17 #[.pointer (some ⟨g, 0, none⟩)] w fun e w' => ∃ v2_ : Value, e = .returned (.agg #[.int .i64 r1, .int .i64 r2, v2_]) ∧ Kd.R k23 23 w' w.heap.size (fun _ => True) v2_ r3 ∧ IsS61 w0 w' g s0_0 r4 ∧ Below w0.heap.size w0 w' ∧ KeepBut w w' g none := by
 have hu33 := Try.underlying33
 have hu23 := Try.underlying23
 have HI0 := za hI
 have HK := za (KeepBut.refl w g none)
 have HL := za hB.size
 clear hI
 have HW0 := za hB.size
 have HB := za hB
 clear hB
 have H : ((awardingbodymake_Tape_Range.f s0_0 s0_1 1 24).bind fun bt303 => (awardingbodymake_Tape_Long.l0 k bt303.1 s0_0 bt303.2 0 0 ([] : List (S23)))) = some (r1, r2, r3, r4) := h
 clear h
 replace H := Option.bind_eq_some_iff.mp H
 obtain ⟨⟨t303, t304⟩, A20, H⟩ := H
 replace H : (awardingbodymake_Tape_Long.l0 k t303 s0_0 t304 0 0 ([] : List (S23))) = some (r1, r2, r3, r4) := H
 have A2 := za A20
 clear A20
 have H' := za H
 clear H
 go_enter Try.func17, Try.ntmps17
 go_wp2_with (first | ((with_reducible refine gate_dst (N := 2) rfl ?_); refine zE 2 #[.int .i64 0, .int .i64 0, .slice none 0 0] 33 ?_; intro gb301 hg w3 hbox hb; have BK301 := za (hbox); have GW301 := za ((by rw [hg]; exact (keep_size (w := w) (g := g) (row := none) (by repeat (first | (with_reducible first | exact HK.out | apply KeepBut.set_ | apply keep_drewN | apply keep_drew | apply keep_alloc) | exact HK.out))) : w.heap.size ≤ gb301)); have GE301 := za ((Nat.le_trans HW0.out (by rw [hg]; exact (keep_size (w := w) (g := g) (row := none) (by repeat (first | (with_reducible first | exact HK.out | apply KeepBut.set_ | apply keep_drewN | apply keep_drew | apply keep_alloc) | exact HK.out))) : w.heap.size ≤ gb301) : w0.heap.size ≤ gb301)); have NB0_301 := za ((by rw [hg]; exact Nat.ne_of_lt (IsS61.lt (show IsS61 w0 _ g s0_0 s0_1 from by repeat (first | (with_reducible first | exact HI0.out | apply IsS61.alloc | apply IsS61.drewN | apply IsS61.drew | apply IsS61.set_1) | exact HI0.out))) : g ≠ gb301)); have NB301_0 := za ((by rw [hg]; exact Nat.ne_of_gt (IsS61.lt (show IsS61 w0 _ g s0_0 s0_1 from by repeat (first | (with_reducible first | exact HI0.out | apply IsS61.alloc | apply IsS61.drewN | apply IsS61.drew | apply IsS61.set_1) | exact HI0.out))) : gb301 ≠ g)); replace HI0 := za (IsS61.below (by repeat (first | (with_reducible first | exact HI0.out | apply IsS61.alloc | apply IsS61.drewN | apply IsS61.drew | apply IsS61.set_1) | exact HI0.out)) hb); replace HK := zu HK hb; replace HB := zs HB hb; clear hb hbox hg) | ((with_reducible refine gate_dst (N := 3) rfl ?_); refine zE 3 #[.int .i64 0, .int .i64 0, .slice none 0 0] 33 ?_; intro gb302 hg w4 hbox hb; have BK302 := za (hbox); have GW302 := za ((by rw [hg]; exact (keep_size (w := w) (g := g) (row := none) (by repeat (first | (with_reducible first | exact HK.out | apply KeepBut.set_ | apply keep_drewN | apply keep_drew | apply keep_alloc | refine keep_far ?_ GW301.out _) | exact HK.out))) : w.heap.size ≤ gb302)); have GE302 := za ((Nat.le_trans HW0.out (by rw [hg]; exact (keep_size (w := w) (g := g) (row := none) (by repeat (first | (with_reducible first | exact HK.out | apply KeepBut.set_ | apply keep_drewN | apply keep_drew | apply keep_alloc | refine keep_far ?_ GW301.out _) | exact HK.out))) : w.heap.size ≤ gb302) : w0.heap.size ≤ gb302)); have NB301_302 := zl BK301 hg; have NB302_301 := zr BK301 hg; have NB0_302 := za ((by rw [hg]; exact Nat.ne_of_lt (IsS61.lt (show IsS61 w0 _ g s0_0 s0_1 from by repeat (first | (with_reducible first | exact HI0.out | apply IsS61.alloc | apply IsS61.drewN | apply IsS61.drew | apply IsS61.set_1 | refine IsS61.far ?_ NB0_301.out _) | exact HI0.out))) : g ≠ gb302)); have NB302_0 := za ((by rw [hg]; exact Nat.ne_of_gt (IsS61.lt (show IsS61 w0 _ g s0_0 s0_1 from by repeat (first | (with_reducible first | exact HI0.out | apply IsS61.alloc | apply IsS61.drewN | apply IsS61.drew | apply IsS61.set_1 | refine IsS61.far ?_ NB0_301.out _) | exact HI0.out))) : gb302 ≠ g)); replace HI0 := za (IsS61.below (by repeat (first | (with_reducible first | exact HI0.out | apply IsS61.alloc | apply IsS61.drewN | apply IsS61.drew | apply IsS61.set_1 | refine IsS61.far ?_ NB0_301.out _) | exact HI0.out)) hb); replace BK301 := zb BK301 hb; replace HK := zu HK hb; replace HB := zs HB hb; clear hb hbox hg; have hnb5 := NB302_301.out; have hnc5 := NB301_302.out; have hnb6 := NB302_0.out; have hnc6 := NB0_302.out; obtain ⟨hcz7_0, hcz7_1, hcz7_2, hfz7_0, hfz7_1, hfz7_2⟩ := z3 BK302) | ((with_reducible refine gate_callee (f := 34) rfl ?_); refine zL (some 8) Try.func34 #[.pointer (some ⟨g, 0, none⟩), .int .i64 1, .int .i64 24] ?_; (with_reducible refine (awardingbodymake_Tape_Range.calls g s0_0 s0_1 1 24 t303 t304 w0 _ ?side1 ?side2 A2.out).mono ?_); (case side1 => exact (by repeat (first | (with_reducible first | exact HI0.out | apply IsS61.alloc | apply IsS61.drewN | apply IsS61.drew | apply IsS61.set_1 | refine IsS61.far ?_ NB0_301.out _ | refine IsS61.far ?_ NB0_302.out _) | exact HI0.out))); (case side2 => exact (by repeat (first | (with_reducible first | exact HB.out | apply below_alloc | apply pw_below_drewN | apply below_drew1 | refine below_set ?_ (IsS61.ge HI0.out) | refine below_set ?_ GE301.out | refine below_set ?_ GE302.out) | exact HB.out))); rintro e w8 ⟨rfl, hi, hb, hk⟩; refine ⟨_, rfl, ?_⟩; replace BK301 := zk hk BK301 NB301_0; replace BK302 := za (KeepBut.blk hk (g' := gb302) (o := .cells #[.int .i64 0, .int .i64 0, .slice none 0 0] 33 (0, 0)) (by (with_reducible repeat (first | refine blk_drewN ?_ _ | refine blk_drew ?_ | refine blk_alloc ?_ _)); refine blk_put (cs := #[.int .i64 0, .int .i64 0, .slice none 0 0]) ?_ 2 _ rfl; (with_reducible repeat (first | refine blk_drewN ?_ _ | refine blk_drew ?_ | refine blk_alloc ?_ _)); refine blk_put (cs := #[.int .i64 0, .int .i64 0, .slice none 0 0]) ?_ 1 _ rfl; (with_reducible repeat (first | refine blk_drewN ?_ _ | refine blk_drew ?_ | refine blk_alloc ?_ _)); refine blk_put (cs := #[.int .i64 0, .int .i64 0, .slice none 0 0]) ?_ 0 _ rfl; (with_reducible repeat (first | refine blk_drewN ?_ _ | refine blk_drew ?_ | refine blk_alloc ?_ _)); exact BK302.out) NB302_0.out (by simp)); replace HK := zt HK hk; replace HB := za (hb); replace HI0 := za (hi); (try clear hb); (try clear hb2); (try clear hk); (try clear hi)))
 go_loopg [4] k (fun kq v4 w' => ∃ (x4_1 : Int) (x1001_1 : Int) (x303002_1 : List (S23)) (u303002 : Value), v4 = .int .i64 x4_1 ∧ Aside0 (awardingbodymake_Tape_Long.l0 kq x4_1 s0_0 x1001_1 0 0 x303002_1 = some (r1, r2, r3, r4)) ∧ Aside0 (kq ≤ k) ∧ Aside0 (Kd.R k23 23 w' w.heap.size (fun _ => True) u303002 x303002_1) ∧ Aside0 (w'.heap[gb301]? = some (.cells #[.int .i64 0, .int .i64 0, (.slice none 0 0)] 33 (0, 0))) ∧ Aside0 (w'.heap[gb302]? = some (.cells #[.int .i64 0, .int .i64 0, u303002] 33 (0, 0))) ∧ Aside0 (IsS61 w0 w' g s0_0 x1001_1) ∧ Aside0 (KeepBut w w' g none) ∧ Aside0 (Below w0.heap.size w0 w'))
 case atStart => exact ⟨(t303), (t304), (([] : List (S23))), (.slice none 0 0), (by first | rfl | (simp; done) | (simp [*]; done)), H', ⟨Nat.le_refl _⟩, ⟨by first | exact Kd.R_nil _ _ _ _ _ | exact Kd.N_nil _ _ _ _ _ | exact Kd.V_nil _ _ _ _ _ | exact Kd.Q_nil _ _ _ _ _ | exact Kd.S_nil _ _ _ _ _⟩, ⟨by (with_reducible repeat (first | refine blk_drewN ?_ _ | refine blk_drew ?_ | refine blk_alloc ?_ _)); exact BK301.out⟩, ⟨by (with_reducible repeat (first | refine blk_drewN ?_ _ | refine blk_drew ?_ | refine blk_alloc ?_ _)); exact BK302.out⟩, ⟨by repeat (first | (with_reducible first | exact HI0.out | apply IsS61.alloc | apply IsS61.drewN | apply IsS61.drew | apply IsS61.set_1 | refine IsS61.far ?_ NB0_301.out _ | refine IsS61.far ?_ NB0_302.out _) | exact HI0.out)⟩, ⟨by repeat (first | (with_reducible first | exact HK.out | apply KeepBut.set_ | apply keep_drewN | apply keep_drew | apply keep_alloc | refine keep_far ?_ GW301.out _ | refine keep_far ?_ GW302.out _) | exact HK.out)⟩, ⟨zm HB⟩⟩
 case round =>
  clear H'
  try clear c1
  try clear p2
  try clear c3
  try clear c5
  try clear c6
  try clear hcz7_0
  try clear hcz7_1
  try clear hcz7_2
  try clear hfz7_0
  try clear hfz7_1
  try clear hfz7_2
  obtain ⟨x4_1, x1001_1, x303002_1, u303002, rfl, HA, HK1, HO_303002, BK301, BK302, HI0, HK, HB⟩ := hrel
  cases gk with
  | zero => exact absurd HA.out (by simp [awardingbodymake_Tape_Long.l0])
  | succ k1 =>
   have H := HA.out
   clear HA
   simp only [awardingbodymake_Tape_Long.l0] at H
   by_cases c9 : x4_1 > 0
   ·rw [if_pos c9] at H
    have c9b0 : decide (0 < x4_1) = true := decide_eq_true c9
    clear c9
    replace H := Option.bind_eq_some_iff.mp H
    obtain ⟨⟨t305, t306, t307, t308, t309, t310, t311⟩, A100, H⟩ := H
    replace H : ((awardingbodymake_Tape_Next.f s0_0 t311 2).bind fun bt313 => (if bt313.1 = 0 then (awardingbodymake_Tape_Long.j1 k1 x4_1 (t305 == 1) s0_0 bt313.2 0 0 x303002_1 t305 t306 t307 t308 t309 t310) else (awardingbodymake_Tape_Long.j1 k1 x4_1 false s0_0 bt313.2 0 0 x303002_1 t305 t306 t307 t308 t309 t310))) = some (r1, r2, r3, r4) := H
    have A10 := za A100
    clear A100
    have HC11 := za H
    clear H
    go_upto_region 6 with (first | ((with_reducible refine gate_callee (f := 37) rfl ?_); refine zL (some 14) Try.func37 #[.pointer (some ⟨g, 0, none⟩), .int .i64 0] ?_; (with_reducible refine (awardingbodymake_Tape_Part.calls k1 g s0_0 x1001_1 0 t305 t306 t307 t308 t309 t310 t311 w0 _ ?side1 ?side2 A10.out).mono ?_); (case side1 => exact (by repeat (first | (with_reducible first | exact HI0.out | apply IsS61.alloc | apply IsS61.drewN | apply IsS61.drew | apply IsS61.set_1 | refine IsS61.far ?_ NB0_301.out _ | refine IsS61.far ?_ NB0_302.out _) | exact HI0.out))); (case side2 => exact (by repeat (first | (with_reducible first | exact HB.out | apply below_alloc | apply pw_below_drewN | apply below_drew1 | refine below_set ?_ (IsS61.ge HI0.out) | refine below_set ?_ GE301.out | refine below_set ?_ GE302.out) | exact HB.out))); rintro e w12 ⟨rfl, hi, hb, hk⟩; refine ⟨_, rfl, ?_⟩; replace HO_303002 := za (Kd.R_mono (Kd.R_keep (IsS61.apart (show IsS61 w0 _ g s0_0 x1001_1 from by repeat (first | (with_reducible first | exact HI0.out | apply IsS61.alloc | apply IsS61.drewN | apply IsS61.drew | apply IsS61.set_1 | refine IsS61.far ?_ NB0_301.out _ | refine IsS61.far ?_ NB0_302.out _) | exact HI0.out)) (by (with_reducible repeat (first | apply Kd.R_alloc | apply Kd.R_drewN | apply Kd.R_drew)); exact HO_303002.out) (by decide)) hk (fun _ h => h.2)) (fun _ h => h.1)); replace BK301 := zk hk BK301 NB301_0; replace BK302 := zk hk BK302 NB302_0; replace HK := zt HK hk; replace HB := za (hb); replace HI0 := za (hi); (try clear hb); (try clear hb2); (try clear hk); (try clear hi)) | ((with_reducible refine gate_dst (N := 5) rfl ?_); refine zE 5 #[.int .i64 0, .int .i64 0, .int .i64 0, .int .i64 0, .int .i64 0, .int .i64 0] 23 ?_; intro gb312 hg w13 hbox hb; have BK312 := za (hbox); have GW312 := za ((by rw [hg]; exact (keep_size (w := w) (g := g) (row := none) (by repeat (first | (with_reducible first | exact HK.out | apply KeepBut.set_ | apply keep_drewN | apply keep_drew | apply keep_alloc | refine keep_far ?_ GW301.out _ | refine keep_far ?_ GW302.out _) | exact HK.out))) : w.heap.size ≤ gb312)); have GE312 := za ((Nat.le_trans HW0.out (by rw [hg]; exact (keep_size (w := w) (g := g) (row := none) (by repeat (first | (with_reducible first | exact HK.out | apply KeepBut.set_ | apply keep_drewN | apply keep_drew | apply keep_alloc | refine keep_far ?_ GW301.out _ | refine keep_far ?_ GW302.out _) | exact HK.out))) : w.heap.size ≤ gb312) : w0.heap.size ≤ gb312)); have NB301_312 := zl BK301 hg; have NB312_301 := zr BK301 hg; have NB302_312 := zl BK302 hg; have NB312_302 := zr BK302 hg; have NB0_312 := za ((by rw [hg]; exact Nat.ne_of_lt (IsS61.lt (show IsS61 w0 _ g s0_0 t311 from by repeat (first | (with_reducible first | exact HI0.out | apply IsS61.alloc | apply IsS61.drewN | apply IsS61.drew | apply IsS61.set_1 | refine IsS61.far ?_ NB0_301.out _ | refine IsS61.far ?_ NB0_302.out _) | exact HI0.out))) : g ≠ gb312)); have NB312_0 := za ((by rw [hg]; exact Nat.ne_of_gt (IsS61.lt (show IsS61 w0 _ g s0_0 t311 from by repeat (first | (with_reducible first | exact HI0.out | apply IsS61.alloc | apply IsS61.drewN | apply IsS61.drew | apply IsS61.set_1 | refine IsS61.far ?_ NB0_301.out _ | refine IsS61.far ?_ NB0_302.out _) | exact HI0.out))) : gb312 ≠ g)); replace HO_303002 := za (Kd.R_below (Kd.R_elderB (by (with_reducible repeat (first | apply Kd.R_alloc | apply Kd.R_drewN | apply Kd.R_drew)); exact HO_303002.out) gb312 (Nat.le_of_eq hg.symm)) hb); replace BK301 := zb BK301 hb; replace BK302 := zb BK302 hb; replace HI0 := za (IsS61.below (by repeat (first | (with_reducible first | exact HI0.out | apply IsS61.alloc | apply IsS61.drewN | apply IsS61.drew | apply IsS61.set_1 | refine IsS61.far ?_ NB0_301.out _ | refine IsS61.far ?_ NB0_302.out _) | exact HI0.out)) hb); replace HK := zu HK hb; replace HB := zs HB hb; clear hb hbox hg; have hnb14 := NB312_301.out; have hnc14 := NB301_312.out; have hnb15 := NB312_302.out; have hnc15 := NB302_312.out; have hnb16 := NB312_0.out; have hnc16 := NB0_312.out; obtain ⟨hcz17_0, hcz17_1, hcz17_2, hcz17_3, hcz17_4, hcz17_5, hfz17_0, hfz17_1, hfz17_2, hfz17_3, hfz17_4, hfz17_5⟩ := z6 BK312))
    (try simp only [Act.put, List.setIfInBounds_toArray, List.set_cons_zero, List.set_cons_succ])
    go_cut [22] (fun v22 wc => ∃ (kq : Nat) (x22_10 : Bool) (x1001_10 : Int), v22 = .bool x22_10 ∧ Aside0 (awardingbodymake_Tape_Long.j1 kq x4_1 x22_10 s0_0 x1001_10 0 0 x303002_1 t305 t306 t307 t308 t309 t310 = some (r1, r2, r3, r4)) ∧ Aside0 (kq ≤ k1) ∧ Aside0 (Kd.R k23 23 wc w.heap.size (fun k_ => k_ ≠ gb312) u303002 x303002_1) ∧ Aside0 (wc.heap[gb301]? = some (.cells #[.int .i64 0, .int .i64 0, (.slice none 0 0)] 33 (0, 0))) ∧ Aside0 (wc.heap[gb302]? = some (.cells #[.int .i64 0, .int .i64 0, u303002] 33 (0, 0))) ∧ Aside0 (wc.heap[gb312]? = some (.cells #[.int .i64 t305, .int .i64 t306, .int .i64 t307, .int .i64 t308, .int .i64 t309, .int .i64 t310] 23 (0, 0))) ∧ Aside0 (IsS61 w0 wc g s0_0 x1001_10) ∧ Aside0 (KeepBut w wc g none) ∧ Aside0 (Below w0.heap.size w0 wc))
    case first =>
     have H := HC11.out
     clear HC11
     replace H := Option.bind_eq_some_iff.mp H
     obtain ⟨⟨t313, t314⟩, A180, H⟩ := H
     replace H : (if t313 = 0 then (awardingbodymake_Tape_Long.j1 k1 x4_1 (t305 == 1) s0_0 t314 0 0 x303002_1 t305 t306 t307 t308 t309 t310) else (awardingbodymake_Tape_Long.j1 k1 x4_1 false s0_0 t314 0 0 x303002_1 t305 t306 t307 t308 t309 t310)) = some (r1, r2, r3, r4) := H
     have A18 := za A180
     clear A180
     by_cases c19 : t313 = 0
     ·rw [if_pos c19] at H
      have c19b0 : (t313 == 0) = true := beq_iff_eq.mpr c19
      have c19b1 : (t313 != 0) = false := bne_eq_false_iff_eq.mpr c19
      clear c19
      (first | rw [c19b0] | (simp only [i64_w, i32_w]; rw [c19b0]) | skip)
      have H' := za H
      clear H
      go_wp2_with (first | ((with_reducible refine gate_callee (f := 21) rfl ?_); refine zL (some 16) Try.func21 #[.pointer (some ⟨g, 0, none⟩), .int .i64 2] ?_; (with_reducible refine (awardingbodymake_Tape_Next.calls g s0_0 t311 2 t313 t314 w0 _ ?side1 ?side2 A18.out).mono ?_); (case side1 => exact (by repeat (first | (with_reducible first | exact HI0.out | apply IsS61.alloc | apply IsS61.drewN | apply IsS61.drew | apply IsS61.set_1 | refine IsS61.far ?_ NB0_301.out _ | refine IsS61.far ?_ NB0_302.out _ | refine IsS61.far ?_ NB0_312.out _) | exact HI0.out))); (case side2 => exact (by repeat (first | (with_reducible first | exact HB.out | apply below_alloc | apply pw_below_drewN | apply below_drew1 | refine below_set ?_ (IsS61.ge HI0.out) | refine below_set ?_ GE301.out | refine below_set ?_ GE302.out | refine below_set ?_ GE312.out) | exact HB.out))); rintro e w20 ⟨rfl, hi, hb, hk⟩; refine ⟨_, rfl, ?_⟩; replace HO_303002 := za (Kd.R_mono (Kd.R_keep (IsS61.apart (show IsS61 w0 _ g s0_0 t311 from by repeat (first | (with_reducible first | exact HI0.out | apply IsS61.alloc | apply IsS61.drewN | apply IsS61.drew | apply IsS61.set_1 | refine IsS61.far ?_ NB0_301.out _ | refine IsS61.far ?_ NB0_302.out _ | refine IsS61.far ?_ NB0_312.out _) | exact HI0.out)) (by (with_reducible repeat (first | apply Kd.R_alloc | apply Kd.R_drewN | apply Kd.R_drew)); exact (Kd.R_mono (Kd.R_far (p := ⟨gb312, 5, none⟩) (Kd.R_far (p := ⟨gb312, 4, none⟩) (Kd.R_far (p := ⟨gb312, 3, none⟩) (Kd.R_far (p := ⟨gb312, 2, none⟩) (Kd.R_far (p := ⟨gb312, 1, none⟩) (Kd.R_far (p := ⟨gb312, 0, none⟩) (Kd.R_mono HO_303002.out (fun k_ hk => (⟨hk, hk.2⟩ : _ ∧ k_ ≠ gb312))) (fun _ hk => hk.2) (.int .i64 t305)) (fun _ hk => hk.2) (.int .i64 t306)) (fun _ hk => hk.2) (.int .i64 t307)) (fun _ hk => hk.2) (.int .i64 t308)) (fun _ hk => hk.2) (.int .i64 t309)) (fun _ hk => hk.2) (.int .i64 t310)) (fun _ h_ => h_.1))) (by decide)) hk (fun _ h => h.2)) (fun _ h => h.1)); replace BK301 := zk hk BK301 NB301_0; replace BK302 := zk hk BK302 NB302_0; replace BK312 := za (KeepBut.blk hk (g' := gb312) (o := .cells #[.int .i64 t305, .int .i64 t306, .int .i64 t307, .int .i64 t308, .int .i64 t309, .int .i64 t310] 23 (0, 0)) (by (with_reducible repeat (first | refine blk_drewN ?_ _ | refine blk_drew ?_ | refine blk_alloc ?_ _)); refine blk_put (cs := #[.int .i64 t305, .int .i64 t306, .int .i64 t307, .int .i64 t308, .int .i64 t309, .int .i64 0]) ?_ 5 _ rfl; (with_reducible repeat (first | refine blk_drewN ?_ _ | refine blk_drew ?_ | refine blk_alloc ?_ _)); refine blk_put (cs := #[.int .i64 t305, .int .i64 t306, .int .i64 t307, .int .i64 t308, .int .i64 0, .int .i64 0]) ?_ 4 _ rfl; (with_reducible repeat (first | refine blk_drewN ?_ _ | refine blk_drew ?_ | refine blk_alloc ?_ _)); refine blk_put (cs := #[.int .i64 t305, .int .i64 t306, .int .i64 t307, .int .i64 0, .int .i64 0, .int .i64 0]) ?_ 3 _ rfl; (with_reducible repeat (first | refine blk_drewN ?_ _ | refine blk_drew ?_ | refine blk_alloc ?_ _)); refine blk_put (cs := #[.int .i64 t305, .int .i64 t306, .int .i64 0, .int .i64 0, .int .i64 0, .int .i64 0]) ?_ 2 _ rfl; (with_reducible repeat (first | refine blk_drewN ?_ _ | refine blk_drew ?_ | refine blk_alloc ?_ _)); refine blk_put (cs := #[.int .i64 t305, .int .i64 0, .int .i64 0, .int .i64 0, .int .i64 0, .int .i64 0]) ?_ 1 _ rfl; (with_reducible repeat (first | refine blk_drewN ?_ _ | refine blk_drew ?_ | refine blk_alloc ?_ _)); refine blk_put (cs := #[.int .i64 0, .int .i64 0, .int .i64 0, .int .i64 0, .int .i64 0, .int .i64 0]) ?_ 0 _ rfl; (with_reducible repeat (first | refine blk_drewN ?_ _ | refine blk_drew ?_ | refine blk_alloc ?_ _)); exact BK312.out) NB312_0.out (by simp)); replace HK := zt HK hk; replace HB := za (hb); replace HI0 := za (hi); (try clear hb); (try clear hb2); (try clear hk); (try clear hi); have hnb21 := NB312_301.out; have hnc21 := NB301_312.out; have hnb22 := NB312_302.out; have hnc22 := NB302_312.out; have hnb23 := NB312_0.out; have hnc23 := NB0_312.out; obtain ⟨hcz24_0, hcz24_1, hcz24_2, hcz24_3, hcz24_4, hcz24_5, hfz24_0, hfz24_1, hfz24_2, hfz24_3, hfz24_4, hfz24_5⟩ := z6 BK312))
      go_meet
      case rel => exact ⟨_, ((t305 == 1)), (t314), (by first | rfl | (simp; done) | (simp [*]; done)), H', ⟨by have := HK1.out; first | omega | exact Nat.le_refl _⟩, ⟨by (with_reducible repeat (first | apply Kd.R_alloc | apply Kd.R_drewN | apply Kd.R_drew)); exact Kd.R_mono HO_303002.out (fun _ hk => hk.2)⟩, ⟨by (with_reducible repeat (first | refine blk_drewN ?_ _ | refine blk_drew ?_ | refine blk_alloc ?_ _)); exact BK301.out⟩, ⟨by (with_reducible repeat (first | refine blk_drewN ?_ _ | refine blk_drew ?_ | refine blk_alloc ?_ _)); exact BK302.out⟩, ⟨by (with_reducible repeat (first | refine blk_drewN ?_ _ | refine blk_drew ?_ | refine blk_alloc ?_ _)); exact BK312.out⟩, ⟨by repeat (first | (with_reducible first | exact HI0.out | apply IsS61.alloc | apply IsS61.drewN | apply IsS61.drew | apply IsS61.set_1 | refine IsS61.far ?_ NB0_301.out _ | refine IsS61.far ?_ NB0_302.out _ | refine IsS61.far ?_ NB0_312.out _) | exact HI0.out)⟩, ⟨by repeat (first | (with_reducible first | exact HK.out | apply KeepBut.set_ | apply keep_drewN | apply keep_drew | apply keep_alloc | refine keep_far ?_ GW301.out _ | refine keep_far ?_ GW302.out _ | refine keep_far ?_ GW312.out _) | exact HK.out)⟩, ⟨zm HB⟩⟩
     ·rw [if_neg c19] at H
      have c19b0 : (t313 == 0) = false := beq_eq_false_iff_ne.mpr c19
      have c19b1 : (t313 != 0) = true := bne_iff_ne.mpr c19
      (first | rw [c19b0] | (simp only [i64_w, i32_w]; rw [c19b0]) | skip)
      have H' := za H
      clear H
      go_wp2_with (first | ((with_reducible refine gate_callee (f := 21) rfl ?_); refine zL (some 16) Try.func21 #[.pointer (some ⟨g, 0, none⟩), .int .i64 2] ?_; (with_reducible refine (awardingbodymake_Tape_Next.calls g s0_0 t311 2 t313 t314 w0 _ ?side1 ?side2 A18.out).mono ?_); (case side1 => exact (by repeat (first | (with_reducible first | exact HI0.out | apply IsS61.alloc | apply IsS61.drewN | apply IsS61.drew | apply IsS61.set_1 | refine IsS61.far ?_ NB0_301.out _ | refine IsS61.far ?_ NB0_302.out _ | refine IsS61.far ?_ NB0_312.out _) | exact HI0.out))); (case side2 => exact (by repeat (first | (with_reducible first | exact HB.out | apply below_alloc | apply pw_below_drewN | apply below_drew1 | refine below_set ?_ (IsS61.ge HI0.out) | refine below_set ?_ GE301.out | refine below_set ?_ GE302.out | refine below_set ?_ GE312.out) | exact HB.out))); rintro e w25 ⟨rfl, hi, hb, hk⟩; refine ⟨_, rfl, ?_⟩; replace HO_303002 := za (Kd.R_mono (Kd.R_keep (IsS61.apart (show IsS61 w0 _ g s0_0 t311 from by repeat (first | (with_reducible first | exact HI0.out | apply IsS61.alloc | apply IsS61.drewN | apply IsS61.drew | apply IsS61.set_1 | refine IsS61.far ?_ NB0_301.out _ | refine IsS61.far ?_ NB0_302.out _ | refine IsS61.far ?_ NB0_312.out _) | exact HI0.out)) (by (with_reducible repeat (first | apply Kd.R_alloc | apply Kd.R_drewN | apply Kd.R_drew)); exact (Kd.R_mono (Kd.R_far (p := ⟨gb312, 5, none⟩) (Kd.R_far (p := ⟨gb312, 4, none⟩) (Kd.R_far (p := ⟨gb312, 3, none⟩) (Kd.R_far (p := ⟨gb312, 2, none⟩) (Kd.R_far (p := ⟨gb312, 1, none⟩) (Kd.R_far (p := ⟨gb312, 0, none⟩) (Kd.R_mono HO_303002.out (fun k_ hk => (⟨hk, hk.2⟩ : _ ∧ k_ ≠ gb312))) (fun _ hk => hk.2) (.int .i64 t305)) (fun _ hk => hk.2) (.int .i64 t306)) (fun _ hk => hk.2) (.int .i64 t307)) (fun _ hk => hk.2) (.int .i64 t308)) (fun _ hk => hk.2) (.int .i64 t309)) (fun _ hk => hk.2) (.int .i64 t310)) (fun _ h_ => h_.1))) (by decide)) hk (fun _ h => h.2)) (fun _ h => h.1)); replace BK301 := zk hk BK301 NB301_0; replace BK302 := zk hk BK302 NB302_0; replace BK312 := za (KeepBut.blk hk (g' := gb312) (o := .cells #[.int .i64 t305, .int .i64 t306, .int .i64 t307, .int .i64 t308, .int .i64 t309, .int .i64 t310] 23 (0, 0)) (by (with_reducible repeat (first | refine blk_drewN ?_ _ | refine blk_drew ?_ | refine blk_alloc ?_ _)); refine blk_put (cs := #[.int .i64 t305, .int .i64 t306, .int .i64 t307, .int .i64 t308, .int .i64 t309, .int .i64 0]) ?_ 5 _ rfl; (with_reducible repeat (first | refine blk_drewN ?_ _ | refine blk_drew ?_ | refine blk_alloc ?_ _)); refine blk_put (cs := #[.int .i64 t305, .int .i64 t306, .int .i64 t307, .int .i64 t308, .int .i64 0, .int .i64 0]) ?_ 4 _ rfl; (with_reducible repeat (first | refine blk_drewN ?_ _ | refine blk_drew ?_ | refine blk_alloc ?_ _)); refine blk_put (cs := #[.int .i64 t305, .int .i64 t306, .int .i64 t307, .int .i64 0, .int .i64 0, .int .i64 0]) ?_ 3 _ rfl; (with_reducible repeat (first | refine blk_drewN ?_ _ | refine blk_drew ?_ | refine blk_alloc ?_ _)); refine blk_put (cs := #[.int .i64 t305, .int .i64 t306, .int .i64 0, .int .i64 0, .int .i64 0, .int .i64 0]) ?_ 2 _ rfl; (with_reducible repeat (first | refine blk_drewN ?_ _ | refine blk_drew ?_ | refine blk_alloc ?_ _)); refine blk_put (cs := #[.int .i64 t305, .int .i64 0, .int .i64 0, .int .i64 0, .int .i64 0, .int .i64 0]) ?_ 1 _ rfl; (with_reducible repeat (first | refine blk_drewN ?_ _ | refine blk_drew ?_ | refine blk_alloc ?_ _)); refine blk_put (cs := #[.int .i64 0, .int .i64 0, .int .i64 0, .int .i64 0, .int .i64 0, .int .i64 0]) ?_ 0 _ rfl; (with_reducible repeat (first | refine blk_drewN ?_ _ | refine blk_drew ?_ | refine blk_alloc ?_ _)); exact BK312.out) NB312_0.out (by simp)); replace HK := zt HK hk; replace HB := za (hb); replace HI0 := za (hi); (try clear hb); (try clear hb2); (try clear hk); (try clear hi)))
      go_meet
      case rel => exact ⟨_, (false), (t314), (by first | rfl | (simp; done) | (simp [*]; done)), H', ⟨by have := HK1.out; first | omega | exact Nat.le_refl _⟩, ⟨by (with_reducible repeat (first | apply Kd.R_alloc | apply Kd.R_drewN | apply Kd.R_drew)); exact Kd.R_mono HO_303002.out (fun _ hk => hk.2)⟩, ⟨by (with_reducible repeat (first | refine blk_drewN ?_ _ | refine blk_drew ?_ | refine blk_alloc ?_ _)); exact BK301.out⟩, ⟨by (with_reducible repeat (first | refine blk_drewN ?_ _ | refine blk_drew ?_ | refine blk_alloc ?_ _)); exact BK302.out⟩, ⟨by (with_reducible repeat (first | refine blk_drewN ?_ _ | refine blk_drew ?_ | refine blk_alloc ?_ _)); exact BK312.out⟩, ⟨by repeat (first | (with_reducible first | exact HI0.out | apply IsS61.alloc | apply IsS61.drewN | apply IsS61.drew | apply IsS61.set_1 | refine IsS61.far ?_ NB0_301.out _ | refine IsS61.far ?_ NB0_302.out _ | refine IsS61.far ?_ NB0_312.out _) | exact HI0.out)⟩, ⟨by repeat (first | (with_reducible first | exact HK.out | apply KeepBut.set_ | apply keep_drewN | apply keep_drew | apply keep_alloc | refine keep_far ?_ GW301.out _ | refine keep_far ?_ GW302.out _ | refine keep_far ?_ GW312.out _) | exact HK.out)⟩, ⟨zm HB⟩⟩
    case rest =>
     clear HC11
     try clear c1
     try clear c2
     try clear p2
     try clear c3
     try clear c5
     try clear c6
     try clear c9
     try clear c9b0
     try clear c14
     try clear c15
     try clear c16
     try clear c17
     try clear c19
     try clear c19b0
     try clear c19b1
     try clear c21
     try clear c22
     try clear c23
     try clear hcz17_0
     try clear hcz17_1
     try clear hcz17_2
     try clear hcz17_3
     try clear hcz17_4
     try clear hcz17_5
     try clear hcz24_0
     try clear hcz24_1
     try clear hcz24_2
     try clear hcz24_3
     try clear hcz24_4
     try clear hcz24_5
     try clear hcz7_0
     try clear hcz7_1
     try clear hcz7_2
     try clear hfz17_0
     try clear hfz17_1
     try clear hfz17_2
     try clear hfz17_3
     try clear hfz17_4
     try clear hfz17_5
     try clear hfz24_0
     try clear hfz24_1
     try clear hfz24_2
     try clear hfz24_3
     try clear hfz24_4
     try clear hfz24_5
     try clear hfz7_0
     try clear hfz7_1
     try clear hfz7_2
     try clear p2
     obtain ⟨kq, x22_10, x1001_10, rfl, HA, HJ10, HO_303002, BK301, BK302, BK312, HI0, HK, HB⟩ := hcut
     cases kq with
     | zero => exact absurd HA.out (by simp [awardingbodymake_Tape_Long.j1])
     | succ kj10 =>
      have H := HA.out
      clear HA
      simp only [awardingbodymake_Tape_Long.j1] at H
      by_cases c26 : x22_10 = true
      ·subst c26
       have H1 : ((awardingbodymake_Tape_Range.f s0_0 x1001_10 1 28).bind fun bt315 => (if x303002_1.length < 2932031007402 then ((some (x303002_1 ++ [(⟨t305, bt315.1, t307, t308, t309, t310⟩ : S23)] : List (S23))).bind fun y317 => ((awardingbodyref06_ValidPaper.f kj10 0 0 y317).bind fun t320 => (if t320 = true then (awardingbodymake_Tape_Long.l0 kj10 (wrap64 (x4_1 - 1)) s0_0 bt315.2 0 0 y317) else (if 0 ≤ (wrap64 ((y317.length : Int) - 1)) then (if (wrap64 ((y317.length : Int) - 1)) ≤ (y317.length : Int) then (awardingbodymake_Tape_Long.l0 kj10 (wrap64 (x4_1 - 1)) s0_0 bt315.2 0 0 (y317.take ((wrap64 ((y317.length : Int) - 1)) : Int).toNat)) else (none)) else (none))))) else (none))) = some (r1, r2, r3, r4) := by rw [if_pos rfl] at H; exact H
       clear H
       have H := H1
       clear H1
       replace H := Option.bind_eq_some_iff.mp H
       obtain ⟨⟨t315, t316⟩, A270, H⟩ := H
       replace H : (if x303002_1.length < 2932031007402 then ((some (x303002_1 ++ [(⟨t305, t315, t307, t308, t309, t310⟩ : S23)] : List (S23))).bind fun y317 => ((awardingbodyref06_ValidPaper.f kj10 0 0 y317).bind fun t320 => (if t320 = true then (awardingbodymake_Tape_Long.l0 kj10 (wrap64 (x4_1 - 1)) s0_0 t316 0 0 y317) else (if 0 ≤ (wrap64 ((y317.length : Int) - 1)) then (if (wrap64 ((y317.length : Int) - 1)) ≤ (y317.length : Int) then (awardingbodymake_Tape_Long.l0 kj10 (wrap64 (x4_1 - 1)) s0_0 t316 0 0 (y317.take ((wrap64 ((y317.length : Int) - 1)) : Int).toNat)) else (none)) else (none))))) else (none)) = some (r1, r2, r3, r4) := H
       have A27 := za A270
       clear A270
       by_cases c28 : x303002_1.length < 2932031007402
       ·rw [if_pos c28] at H
        have LMc28 := za c28
        clear c28
        obtain ⟨y317, hy317⟩ : ∃ y_ : List (S23), y_ = (x303002_1 ++ [(⟨t305, t315, t307, t308, t309, t310⟩ : S23)]) := ⟨_, rfl⟩
        replace H : ((awardingbodyref06_ValidPaper.f kj10 0 0 y317).bind fun t320 => (if t320 = true then (awardingbodymake_Tape_Long.l0 kj10 (wrap64 (x4_1 - 1)) s0_0 t316 0 0 y317) else (if 0 ≤ (wrap64 ((y317.length : Int) - 1)) then (if (wrap64 ((y317.length : Int) - 1)) ≤ (y317.length : Int) then (awardingbodymake_Tape_Long.l0 kj10 (wrap64 (x4_1 - 1)) s0_0 t316 0 0 (y317.take ((wrap64 ((y317.length : Int) - 1)) : Int).toNat)) else (none)) else (none)))) = some (r1, r2, r3, r4) := by first | (rw [hy317]; with_reducible exact H) | (have H2_ := (Option.bind_some _ _).symm.trans H; rw [hy317]; with_reducible exact H2_) | (have H2_ := (Option.bind_some _ _).symm.trans H; with_reducible exact H2_) | with_reducible exact H | (rw [hy317]; exact H) | exact H
        have Ny317 := za hy317
        clear hy317
        replace H := Option.bind_eq_some_iff.mp H
        obtain ⟨t320, A290, H⟩ := H
        replace H : (if t320 = true then (awardingbodymake_Tape_Long.l0 kj10 (wrap64 (x4_1 - 1)) s0_0 t316 0 0 y317) else (if 0 ≤ (wrap64 ((y317.length : Int) - 1)) then (if (wrap64 ((y317.length : Int) - 1)) ≤ (y317.length : Int) then (awardingbodymake_Tape_Long.l0 kj10 (wrap64 (x4_1 - 1)) s0_0 t316 0 0 (y317.take ((wrap64 ((y317.length : Int) - 1)) : Int).toNat)) else (none)) else (none))) = some (r1, r2, r3, r4) := H
        have A29 := za A290
        clear A290
        by_cases c30 : t320 = true
        ·subst c30
         have H1 : (awardingbodymake_Tape_Long.l0 kj10 (wrap64 (x4_1 - 1)) s0_0 t316 0 0 y317) = some (r1, r2, r3, r4) := by rw [if_pos rfl] at H; exact H
         clear H
         have H := H1
         clear H1
         have H' := za H
         clear H
         go_wp2_with (first | ((with_reducible refine gate_callee (f := 34) rfl ?_); refine zL (some 24) Try.func34 #[.pointer (some ⟨g, 0, none⟩), .int .i64 1, .int .i64 28] ?_; (with_reducible refine (awardingbodymake_Tape_Range.calls g s0_0 x1001_10 1 28 t315 t316 w0 _ ?side1 ?side2 A27.out).mono ?_); (case side1 => exact (by repeat (first | (with_reducible first | exact HI0.out | apply IsS61.alloc | apply IsS61.drewN | apply IsS61.drew | apply IsS61.set_1 | refine IsS61.far ?_ NB0_301.out _ | refine IsS61.far ?_ NB0_302.out _ | refine IsS61.far ?_ NB0_312.out _) | exact HI0.out))); (case side2 => exact (by repeat (first | (with_reducible first | exact HB.out | apply below_alloc | apply pw_below_drewN | apply below_drew1 | refine below_set ?_ (IsS61.ge HI0.out) | refine below_set ?_ GE301.out | refine below_set ?_ GE302.out | refine below_set ?_ GE312.out) | exact HB.out))); rintro e w31 ⟨rfl, hi, hb, hk⟩; refine ⟨_, rfl, ?_⟩; replace HO_303002 := za (Kd.R_mono (Kd.R_keep (IsS61.apart (show IsS61 w0 _ g s0_0 x1001_10 from by repeat (first | (with_reducible first | exact HI0.out | apply IsS61.alloc | apply IsS61.drewN | apply IsS61.drew | apply IsS61.set_1 | refine IsS61.far ?_ NB0_301.out _ | refine IsS61.far ?_ NB0_302.out _ | refine IsS61.far ?_ NB0_312.out _) | exact HI0.out)) (by (with_reducible repeat (first | apply Kd.R_alloc | apply Kd.R_drewN | apply Kd.R_drew)); exact HO_303002.out) (by decide)) hk (fun _ h => h.2)) (fun _ h => h.1)); replace BK301 := zk hk BK301 NB301_0; replace BK302 := zk hk BK302 NB302_0; replace BK312 := zk hk BK312 NB312_0; replace HK := zt HK hk; replace HB := za (hb); replace HI0 := za (hi); (try clear hb); (try clear hb2); (try clear hk); (try clear hi); have hnb32 := NB312_301.out; have hnc32 := NB301_312.out; have hnb33 := NB312_302.out; have hnc33 := NB302_312.out; have hnb34 := NB312_0.out; have hnc34 := NB0_312.out; obtain ⟨hcz35_0, hcz35_1, hcz35_2, hcz35_3, hcz35_4, hcz35_5, hfz35_0, hfz35_1, hfz35_2, hfz35_3, hfz35_4, hfz35_5⟩ := z6 BK312; have hnb36 := NB302_301.out; have hnc36 := NB301_302.out; have hnb37 := NB302_0.out; have hnc37 := NB0_302.out; obtain ⟨hcz38_0, hcz38_1, hcz38_2, hfz38_0, hfz38_1, hfz38_2⟩ := z3 BK302) | ((with_reducible refine gate_builtin (b := .append) (xs := #[.tmp 27, .tmp 29]) rfl ?_); at_builtin; refine Kd.R_append k23 w.heap.size rfl (.tmp 27) (.tmp 29) 31 23 (.agg #[(.int .i64 0), (.int .i64 0), (.int .i64 0), (.int .i64 0), (.int .i64 0), (.int .i64 0)]) 48 rfl Try.underlying31 info23 rfl (by decide) (by omega) u303002 x303002_1 (⟨t305, t315, t307, t308, t309, t310⟩ : S23) [.int .i64 t305, .int .i64 t315, .int .i64 t307, .int .i64 t308, .int .i64 t309, .int .i64 t310] (fun k_ => k_ ≠ gb312) (fun _ => False) rfl (by first | (go_simp; done) | (go_simp; rfl)) ?aP (fun _ hk => hk.elim) ?aF ?aO (Below.refl _ _) ?aS ?aL ?_; (case aP => exact k23_mkM _ _ _ (⟨t305, t315, t307, t308, t309, t310⟩ : S23)); (case aF => exact (fun k_ hk => Kd.freshB (g := gb312) (o := .cells #[.int .i64 t305, .int .i64 t315, .int .i64 t307, .int .i64 t308, .int .i64 t309, .int .i64 t310] 23 (0, 0)) (by (with_reducible repeat (first | refine blk_drewN ?_ _ | refine blk_drew ?_ | refine blk_alloc ?_ _)); refine blk_put (cs := #[.int .i64 t305, .int .i64 t306, .int .i64 t307, .int .i64 t308, .int .i64 t309, .int .i64 t310]) ?_ 1 _ rfl; (with_reducible repeat (first | refine blk_drewN ?_ _ | refine blk_drew ?_ | refine blk_alloc ?_ _)); exact BK312.out) k_ hk)); (case aO => exact (by (with_reducible repeat (first | apply Kd.R_alloc | apply Kd.R_drewN | apply Kd.R_drew)); exact Kd.R_mono (Kd.R_far (p := ⟨gb312, 1, none⟩) (Kd.R_mono HO_303002.out (fun k_ hk => (⟨hk, hk⟩ : _ ∧ k_ ≠ gb312))) (fun _ hk => hk.2) (.int .i64 t315)) (fun _ hk => hk.1))); (case aS => exact (keep_size (w := w) (g := g) (row := none) (by repeat (first | (with_reducible first | exact HK.out | apply KeepBut.set_ | apply keep_drewN | apply keep_drew | apply keep_alloc | refine keep_far ?_ GW301.out _ | refine keep_far ?_ GW302.out _ | refine keep_far ?_ GW312.out _) | exact HK.out)))); (case aL => have := LMc28.out; omega); intro v318 w39 ho hb hg hat; rw [← Ny317.out] at ho; have HO319 := za (ho); replace BK301 := (zw BK301 hg (Kd.R_ne HO_303002.out BK301.out (by decide))); replace BK302 := (zw BK302 hg (Kd.R_ne HO_303002.out BK302.out (by decide))); replace BK312 := za (blk_grown (g := gb312) (o := .cells #[.int .i64 t305, .int .i64 t315, .int .i64 t307, .int .i64 t308, .int .i64 t309, .int .i64 t310] 23 (0, 0)) (by (with_reducible repeat (first | refine blk_drewN ?_ _ | refine blk_drew ?_ | refine blk_alloc ?_ _)); refine blk_put (cs := #[.int .i64 t305, .int .i64 t306, .int .i64 t307, .int .i64 t308, .int .i64 t309, .int .i64 t310]) ?_ 1 _ rfl; (with_reducible repeat (first | refine blk_drewN ?_ _ | refine blk_drew ?_ | refine blk_alloc ?_ _)); exact BK312.out) hg (Kd.R_away HO_303002.out (fun _ hk => hk))); replace HI0 := za (IsS61.grown (show IsS61 w0 _ g s0_0 t316 from by repeat (first | (with_reducible first | exact HI0.out | apply IsS61.alloc | apply IsS61.drewN | apply IsS61.drew | apply IsS61.set_1 | refine IsS61.far ?_ NB0_301.out _ | refine IsS61.far ?_ NB0_302.out _ | refine IsS61.far ?_ NB0_312.out _) | exact HI0.out)) hg (IsS61.own_ne HI0.out HO_303002.out (by decide))); replace HB := za (below_weaken (zm HB) HL.out hb); replace HK := za (KeepBut.trans (by repeat (first | (with_reducible first | exact HK.out | apply KeepBut.set_ | apply keep_drewN | apply keep_drew | apply keep_alloc | refine keep_far ?_ GW301.out _ | refine keep_far ?_ GW302.out _ | refine keep_far ?_ GW312.out _) | exact HK.out)) (KeepBut.of_grown hg g) (Kd.R_base2 HO_303002.out)); clear HO_303002 ho hb hg hat; obtain ⟨Ao40, co40, eo40⟩ := Kd.R_slice HO319.out; subst eo40; obtain ⟨hcz41_0, hcz41_1, hcz41_2, hfz41_0, hfz41_1, hfz41_2⟩ := z3 BK302) | ((with_reducible refine gate_callee (f := 38) rfl ?_); refine zL (some 33) Try.func38 #[.agg #[.int .i64 0, .int .i64 0, .slice Ao40 y317.length co40]] ?_; (with_reducible refine (awardingbodyref06_ValidPaper.calls kj10 0 0 _ _ y317 true _ ?side1 ?side2 A29.out).mono ?_); (case side1 => refine (Kd.R_reads' (e := 23) (base := w.heap.size) (ok := fun k_ => k_ ≠ gb312) (n := y317.length) (c := co40) ?_).2.2; exact (by (with_reducible repeat (first | apply Kd.R_alloc | apply Kd.R_drewN | apply Kd.R_drew)); exact (Kd.R_mono (Kd.R_far (p := ⟨gb302, 2, none⟩) (Kd.R_types HO319.out BK302.out (by decide)) (fun _ hk => hk.2) (.slice Ao40 y317.length co40)) (fun _ h_ => h_.1)))); (case side2 => exact (Kd.R_reads' HO319.out).2.1); rintro e w42 ⟨rfl, hb⟩; refine ⟨_, rfl, ?_⟩; replace HO319 := za (Kd.R_below (by (with_reducible repeat (first | apply Kd.R_alloc | apply Kd.R_drewN | apply Kd.R_drew)); exact (Kd.R_mono (Kd.R_far (p := ⟨gb302, 2, none⟩) (Kd.R_types HO319.out BK302.out (by decide)) (fun _ hk => hk.2) (.slice Ao40 y317.length co40)) (fun _ h_ => h_.1))) hb); replace BK301 := zb BK301 hb; replace BK302 := za (blk_below (g := gb302) (o := .cells #[.int .i64 0, .int .i64 0, .slice Ao40 y317.length co40] 33 (0, 0)) (by (with_reducible repeat (first | refine blk_drewN ?_ _ | refine blk_drew ?_ | refine blk_alloc ?_ _)); refine blk_put (cs := #[.int .i64 0, .int .i64 0, u303002]) ?_ 2 _ rfl; (with_reducible repeat (first | refine blk_drewN ?_ _ | refine blk_drew ?_ | refine blk_alloc ?_ _)); exact BK302.out) hb); replace BK312 := zb BK312 hb; replace HI0 := za (IsS61.below (show IsS61 w0 (w39.setCell ⟨gb302, 2, none⟩ (.slice Ao40 y317.length co40)) g s0_0 t316 from by repeat (first | (with_reducible first | exact HI0.out | apply IsS61.alloc | apply IsS61.drewN | apply IsS61.drew | apply IsS61.set_1 | refine IsS61.far ?_ NB0_301.out _ | refine IsS61.far ?_ NB0_302.out _ | refine IsS61.far ?_ NB0_312.out _) | exact HI0.out)) hb); replace HK := zu HK hb; replace HB := zs HB hb; (try clear hb); (try clear hb2); (try clear hk); (try clear hi)))
         go_roundg kj10
         case measure => have := HK1.out; have := HJ10.out; omega
         case rel => exact ⟨(wrap64 (x4_1 - 1)), (t316), (y317), (.slice Ao40 y317.length co40), (by first | rfl | (simp; done) | (simp [*]; done)), H', ⟨by have := HK1.out; have := HJ10.out; omega⟩, ⟨by (with_reducible repeat (first | apply Kd.R_alloc | apply Kd.R_drewN | apply Kd.R_drew)); exact Kd.R_mono HO319.out (fun _ hk => trivial)⟩, ⟨by (with_reducible repeat (first | refine blk_drewN ?_ _ | refine blk_drew ?_ | refine blk_alloc ?_ _)); exact BK301.out⟩, ⟨by (with_reducible repeat (first | refine blk_drewN ?_ _ | refine blk_drew ?_ | refine blk_alloc ?_ _)); exact BK302.out⟩, ⟨by repeat (first | (with_reducible first | exact HI0.out | apply IsS61.alloc | apply IsS61.drewN | apply IsS61.drew | apply IsS61.set_1 | refine IsS61.far ?_ NB0_301.out _ | refine IsS61.far ?_ NB0_302.out _ | refine IsS61.far ?_ NB0_312.out _) | exact HI0.out)⟩, ⟨by repeat (first | (with_reducible first | exact HK.out | apply KeepBut.set_ | apply keep_drewN | apply keep_drew | apply keep_alloc | refine keep_far ?_ GW301.out _ | refine keep_far ?_ GW302.out _ | refine keep_far ?_ GW312.out _) | exact HK.out)⟩, ⟨zm HB⟩⟩
        ·replace c30 := Bool.eq_false_iff.mpr c30
         subst c30
         have H1 : (if 0 ≤ (wrap64 ((y317.length : Int) - 1)) then (if (wrap64 ((y317.length : Int) - 1)) ≤ (y317.length : Int) then (awardingbodymake_Tape_Long.l0 kj10 (wrap64 (x4_1 - 1)) s0_0 t316 0 0 (y317.take ((wrap64 ((y317.length : Int) - 1)) : Int).toNat)) else (none)) else (none)) = some (r1, r2, r3, r4) := by rw [if_neg (show ¬ (false = true) by decide)] at H; exact H
         clear H
         have H := H1
         clear H1
         obtain ⟨ji43, hji43⟩ : ∃ j_ : Int, (wrap64 ((y317.length : Int) - 1)) = j_ := ⟨_, rfl⟩
         replace H : (if 0 ≤ (ji43) then (if (ji43) ≤ (y317.length : Int) then (awardingbodymake_Tape_Long.l0 kj10 (wrap64 (x4_1 - 1)) s0_0 t316 0 0 (y317.take ((ji43) : Int).toNat)) else (none)) else (none)) = some (r1, r2, r3, r4) := by first | (rw [hji43] at H; exact H) | (simp only [hji43] at H ⊢; exact H)
         (try rw [hji43] at A27)
         (try rw [hji43] at A29)
         have hji43w : (IntKind.i64.wrap ((y317.length : Int) - 1)) = ji43 := (i64_w _).trans hji43
         by_cases c44 : 0 ≤ (ji43)
         ·rw [if_pos c44] at H
          have c44b0 := eq_true c44
          have c44b1 : decide (0 ≤ (ji43)) = true := decide_eq_true c44
          clear c44
          by_cases c45 : (ji43) ≤ (y317.length : Int)
          ·rw [if_pos c45] at H
           have c45b0 := eq_true c45
           have c45b1 : decide ((ji43) ≤ (y317.length : Int)) = true := decide_eq_true c45
           clear c45
           obtain ⟨y321, hy321⟩ : ∃ y_ : List (S23), y_ = (y317.take ((ji43) : Int).toNat) := ⟨_, rfl⟩
           replace H : (awardingbodymake_Tape_Long.l0 kj10 (wrap64 (x4_1 - 1)) s0_0 t316 0 0 y321) = some (r1, r2, r3, r4) := by first | (rw [hy321]; with_reducible exact H) | (have H2_ := (Option.bind_some _ _).symm.trans H; rw [hy321]; with_reducible exact H2_) | (have H2_ := (Option.bind_some _ _).symm.trans H; with_reducible exact H2_) | with_reducible exact H | (rw [hy321]; exact H) | exact H
           have Ny321 := za hy321
           clear hy321
           have H' := za H
           clear H
           go_wp2_with (first | ((with_reducible refine gate_callee (f := 34) rfl ?_); refine zL (some 24) Try.func34 #[.pointer (some ⟨g, 0, none⟩), .int .i64 1, .int .i64 28] ?_; (with_reducible refine (awardingbodymake_Tape_Range.calls g s0_0 x1001_10 1 28 t315 t316 w0 _ ?side1 ?side2 A27.out).mono ?_); (case side1 => exact (by repeat (first | (with_reducible first | exact HI0.out | apply IsS61.alloc | apply IsS61.drewN | apply IsS61.drew | apply IsS61.set_1 | refine IsS61.far ?_ NB0_301.out _ | refine IsS61.far ?_ NB0_302.out _ | refine IsS61.far ?_ NB0_312.out _) | exact HI0.out))); (case side2 => exact (by repeat (first | (with_reducible first | exact HB.out | apply below_alloc | apply pw_below_drewN | apply below_drew1 | refine below_set ?_ (IsS61.ge HI0.out) | refine below_set ?_ GE301.out | refine below_set ?_ GE302.out | refine below_set ?_ GE312.out) | exact HB.out))); rintro e w46 ⟨rfl, hi, hb, hk⟩; refine ⟨_, rfl, ?_⟩; replace HO_303002 := za (Kd.R_mono (Kd.R_keep (IsS61.apart (show IsS61 w0 _ g s0_0 x1001_10 from by repeat (first | (with_reducible first | exact HI0.out | apply IsS61.alloc | apply IsS61.drewN | apply IsS61.drew | apply IsS61.set_1 | refine IsS61.far ?_ NB0_301.out _ | refine IsS61.far ?_ NB0_302.out _ | refine IsS61.far ?_ NB0_312.out _) | exact HI0.out)) (by (with_reducible repeat (first | apply Kd.R_alloc | apply Kd.R_drewN | apply Kd.R_drew)); exact HO_303002.out) (by decide)) hk (fun _ h => h.2)) (fun _ h => h.1)); replace BK301 := zk hk BK301 NB301_0; replace BK302 := zk hk BK302 NB302_0; replace BK312 := zk hk BK312 NB312_0; replace HK := zt HK hk; replace HB := za (hb); replace HI0 := za (hi); (try clear hb); (try clear hb2); (try clear hk); (try clear hi); have hnb47 := NB312_301.out; have hnc47 := NB301_312.out; have hnb48 := NB312_302.out; have hnc48 := NB302_312.out; have hnb49 := NB312_0.out; have hnc49 := NB0_312.out; obtain ⟨hcz50_0, hcz50_1, hcz50_2, hcz50_3, hcz50_4, hcz50_5, hfz50_0, hfz50_1, hfz50_2, hfz50_3, hfz50_4, hfz50_5⟩ := z6 BK312; have hnb51 := NB302_301.out; have hnc51 := NB301_302.out; have hnb52 := NB302_0.out; have hnc52 := NB0_302.out; obtain ⟨hcz53_0, hcz53_1, hcz53_2, hfz53_0, hfz53_1, hfz53_2⟩ := z3 BK302) | ((with_reducible refine gate_builtin (b := .append) (xs := #[.tmp 27, .tmp 29]) rfl ?_); at_builtin; refine Kd.R_append k23 w.heap.size rfl (.tmp 27) (.tmp 29) 31 23 (.agg #[(.int .i64 0), (.int .i64 0), (.int .i64 0), (.int .i64 0), (.int .i64 0), (.int .i64 0)]) 48 rfl Try.underlying31 info23 rfl (by decide) (by omega) u303002 x303002_1 (⟨t305, t315, t307, t308, t309, t310⟩ : S23) [.int .i64 t305, .int .i64 t315, .int .i64 t307, .int .i64 t308, .int .i64 t309, .int .i64 t310] (fun k_ => k_ ≠ gb312) (fun _ => False) rfl (by first | (go_simp; done) | (go_simp; rfl)) ?aP (fun _ hk => hk.elim) ?aF ?aO (Below.refl _ _) ?aS ?aL ?_; (case aP => exact k23_mkM _ _ _ (⟨t305, t315, t307, t308, t309, t310⟩ : S23)); (case aF => exact (fun k_ hk => Kd.freshB (g := gb312) (o := .cells #[.int .i64 t305, .int .i64 t315, .int .i64 t307, .int .i64 t308, .int .i64 t309, .int .i64 t310] 23 (0, 0)) (by (with_reducible repeat (first | refine blk_drewN ?_ _ | refine blk_drew ?_ | refine blk_alloc ?_ _)); refine blk_put (cs := #[.int .i64 t305, .int .i64 t306, .int .i64 t307, .int .i64 t308, .int .i64 t309, .int .i64 t310]) ?_ 1 _ rfl; (with_reducible repeat (first | refine blk_drewN ?_ _ | refine blk_drew ?_ | refine blk_alloc ?_ _)); exact BK312.out) k_ hk)); (case aO => exact (by (with_reducible repeat (first | apply Kd.R_alloc | apply Kd.R_drewN | apply Kd.R_drew)); exact Kd.R_mono (Kd.R_far (p := ⟨gb312, 1, none⟩) (Kd.R_mono HO_303002.out (fun k_ hk => (⟨hk, hk⟩ : _ ∧ k_ ≠ gb312))) (fun _ hk => hk.2) (.int .i64 t315)) (fun _ hk => hk.1))); (case aS => exact (keep_size (w := w) (g := g) (row := none) (by repeat (first | (with_reducible first | exact HK.out | apply KeepBut.set_ | apply keep_drewN | apply keep_drew | apply keep_alloc | refine keep_far ?_ GW301.out _ | refine keep_far ?_ GW302.out _ | refine keep_far ?_ GW312.out _) | exact HK.out)))); (case aL => have := LMc28.out; omega); intro v318 w54 ho hb hg hat; rw [← Ny317.out] at ho; have HO319 := za (ho); replace BK301 := (zw BK301 hg (Kd.R_ne HO_303002.out BK301.out (by decide))); replace BK302 := (zw BK302 hg (Kd.R_ne HO_303002.out BK302.out (by decide))); replace BK312 := za (blk_grown (g := gb312) (o := .cells #[.int .i64 t305, .int .i64 t315, .int .i64 t307, .int .i64 t308, .int .i64 t309, .int .i64 t310] 23 (0, 0)) (by (with_reducible repeat (first | refine blk_drewN ?_ _ | refine blk_drew ?_ | refine blk_alloc ?_ _)); refine blk_put (cs := #[.int .i64 t305, .int .i64 t306, .int .i64 t307, .int .i64 t308, .int .i64 t309, .int .i64 t310]) ?_ 1 _ rfl; (with_reducible repeat (first | refine blk_drewN ?_ _ | refine blk_drew ?_ | refine blk_alloc ?_ _)); exact BK312.out) hg (Kd.R_away HO_303002.out (fun _ hk => hk))); replace HI0 := za (IsS61.grown (show IsS61 w0 _ g s0_0 t316 from by repeat (first | (with_reducible first | exact HI0.out | apply IsS61.alloc | apply IsS61.drewN | apply IsS61.drew | apply IsS61.set_1 | refine IsS61.far ?_ NB0_301.out _ | refine IsS61.far ?_ NB0_302.out _ | refine IsS61.far ?_ NB0_312.out _) | exact HI0.out)) hg (IsS61.own_ne HI0.out HO_303002.out (by decide))); replace HB := za (below_weaken (zm HB) HL.out hb); replace HK := za (KeepBut.trans (by repeat (first | (with_reducible first | exact HK.out | apply KeepBut.set_ | apply keep_drewN | apply keep_drew | apply keep_alloc | refine keep_far ?_ GW301.out _ | refine keep_far ?_ GW302.out _ | refine keep_far ?_ GW312.out _) | exact HK.out)) (KeepBut.of_grown hg g) (Kd.R_base2 HO_303002.out)); clear HO_303002 ho hb hg hat; obtain ⟨Ao55, co55, eo55⟩ := Kd.R_slice HO319.out; subst eo55; obtain ⟨hcz56_0, hcz56_1, hcz56_2, hfz56_0, hfz56_1, hfz56_2⟩ := z3 BK302) | ((with_reducible refine gate_callee (f := 38) rfl ?_); refine zL (some 33) Try.func38 #[.agg #[.int .i64 0, .int .i64 0, .slice Ao55 y317.length co55]] ?_; (with_reducible refine (awardingbodyref06_ValidPaper.calls kj10 0 0 _ _ y317 false _ ?side1 ?side2 A29.out).mono ?_); (case side1 => refine (Kd.R_reads' (e := 23) (base := w.heap.size) (ok := fun k_ => k_ ≠ gb312) (n := y317.length) (c := co55) ?_).2.2; exact (by (with_reducible repeat (first | apply Kd.R_alloc | apply Kd.R_drewN | apply Kd.R_drew)); exact (Kd.R_mono (Kd.R_far (p := ⟨gb302, 2, none⟩) (Kd.R_types HO319.out BK302.out (by decide)) (fun _ hk => hk.2) (.slice Ao55 y317.length co55)) (fun _ h_ => h_.1)))); (case side2 => exact (Kd.R_reads' HO319.out).2.1); rintro e w57 ⟨rfl, hb⟩; refine ⟨_, rfl, ?_⟩; replace HO319 := za (Kd.R_below (by (with_reducible repeat (first | apply Kd.R_alloc | apply Kd.R_drewN | apply Kd.R_drew)); exact (Kd.R_mono (Kd.R_far (p := ⟨gb302, 2, none⟩) (Kd.R_types HO319.out BK302.out (by decide)) (fun _ hk => hk.2) (.slice Ao55 y317.length co55)) (fun _ h_ => h_.1))) hb); replace BK301 := zb BK301 hb; replace BK302 := za (blk_below (g := gb302) (o := .cells #[.int .i64 0, .int .i64 0, .slice Ao55 y317.length co55] 33 (0, 0)) (by (with_reducible repeat (first | refine blk_drewN ?_ _ | refine blk_drew ?_ | refine blk_alloc ?_ _)); refine blk_put (cs := #[.int .i64 0, .int .i64 0, u303002]) ?_ 2 _ rfl; (with_reducible repeat (first | refine blk_drewN ?_ _ | refine blk_drew ?_ | refine blk_alloc ?_ _)); exact BK302.out) hb); replace BK312 := zb BK312 hb; replace HI0 := za (IsS61.below (show IsS61 w0 (w54.setCell ⟨gb302, 2, none⟩ (.slice Ao55 y317.length co55)) g s0_0 t316 from by repeat (first | (with_reducible first | exact HI0.out | apply IsS61.alloc | apply IsS61.drewN | apply IsS61.drew | apply IsS61.set_1 | refine IsS61.far ?_ NB0_301.out _ | refine IsS61.far ?_ NB0_302.out _ | refine IsS61.far ?_ NB0_312.out _) | exact HI0.out)) hb); replace HK := zu HK hb; replace HB := zs HB hb; (try clear hb); (try clear hb2); (try clear hk); (try clear hi); obtain ⟨hcz58_0, hcz58_1, hcz58_2, hfz58_0, hfz58_1, hfz58_2⟩ := z3 BK302; have q59 : ((ji43) : Int) ≤ ((y317.length : Int) : Int) := of_decide_eq_true (by first | (with_reducible assumption) | assumption); obtain ⟨i059, hi059, _, hsz59, _⟩ := info_parts info23; have hcut59 := cut_to (P := Try.prog) 31 23 .i64 Try.underlying31 hi059 Ao55 y317.length co55 (ji43) (of_decide_eq_true (by first | (with_reducible assumption) | assumption)) q59 (Kd.R_reads' HO319.out).2.1; have hr59 := Kd.R_take (m := ((ji43) : Int).toNat) HO319.out (by omega); have hy59 : y321.length = ((ji43) : Int).toNat := (by rw [Ny321.out, List.length_take]; omega); rw [← Ny321.out] at hr59; rw [← hy59] at hr59 hcut59; clear hy59 hi059 hsz59 HO319; have HO323 := za hr59; clear hr59; replace q59 := eq_true q59))
           go_roundg kj10
           case measure => have := HK1.out; have := HJ10.out; omega
           case rel => exact ⟨(wrap64 (x4_1 - 1)), (t316), (y321), (.slice Ao55 y321.length co55), (by first | rfl | (simp; done) | (simp [*]; done)), H', ⟨by have := HK1.out; have := HJ10.out; omega⟩, ⟨by (with_reducible repeat (first | apply Kd.R_alloc | apply Kd.R_drewN | apply Kd.R_drew)); exact Kd.R_mono (Kd.R_far (p := ⟨gb302, 2, none⟩) (Kd.R_types HO323.out BK302.out (by decide)) (fun _ hk => hk.2) (.slice Ao55 y321.length co55)) (fun _ hk => trivial)⟩, ⟨by (with_reducible repeat (first | refine blk_drewN ?_ _ | refine blk_drew ?_ | refine blk_alloc ?_ _)); refine blk_far ?_ NB301_302.out _; (with_reducible repeat (first | refine blk_drewN ?_ _ | refine blk_drew ?_ | refine blk_alloc ?_ _)); exact BK301.out⟩, ⟨by (with_reducible repeat (first | refine blk_drewN ?_ _ | refine blk_drew ?_ | refine blk_alloc ?_ _)); refine blk_put (cs := #[.int .i64 0, .int .i64 0, .slice Ao55 y317.length co55]) ?_ 2 _ rfl; (with_reducible repeat (first | refine blk_drewN ?_ _ | refine blk_drew ?_ | refine blk_alloc ?_ _)); exact BK302.out⟩, ⟨by repeat (first | (with_reducible first | exact HI0.out | apply IsS61.alloc | apply IsS61.drewN | apply IsS61.drew | apply IsS61.set_1 | refine IsS61.far ?_ NB0_301.out _ | refine IsS61.far ?_ NB0_302.out _ | refine IsS61.far ?_ NB0_312.out _) | exact HI0.out)⟩, ⟨by repeat (first | (with_reducible first | exact HK.out | apply KeepBut.set_ | apply keep_drewN | apply keep_drew | apply keep_alloc | refine keep_far ?_ GW301.out _ | refine keep_far ?_ GW302.out _ | refine keep_far ?_ GW312.out _) | exact HK.out)⟩, ⟨zm HB⟩⟩
          ·rw [if_neg c45] at H
           exact absurd H (by simp)
         ·rw [if_neg c44] at H
          exact absurd H (by simp)
       ·rw [if_neg c28] at H
        exact absurd H (by simp)
      ·replace c26 := Bool.eq_false_iff.mpr c26
       subst c26
       have H1 : (if x303002_1.length < 2932031007402 then ((some (x303002_1 ++ [(⟨t305, t306, t307, t308, t309, t310⟩ : S23)] : List (S23))).bind fun y324 => ((awardingbodyref06_ValidPaper.f kj10 0 0 y324).bind fun t327 => (if t327 = true then (awardingbodymake_Tape_Long.l0 kj10 (wrap64 (x4_1 - 1)) s0_0 x1001_10 0 0 y324) else (if 0 ≤ (wrap64 ((y324.length : Int) - 1)) then (if (wrap64 ((y324.length : Int) - 1)) ≤ (y324.length : Int) then (awardingbodymake_Tape_Long.l0 kj10 (wrap64 (x4_1 - 1)) s0_0 x1001_10 0 0 (y324.take ((wrap64 ((y324.length : Int) - 1)) : Int).toNat)) else (none)) else (none))))) else (none)) = some (r1, r2, r3, r4) := by rw [if_neg (show ¬ (false = true) by decide)] at H; exact H
       clear H
       have H := H1
       clear H1
       by_cases c60 : x303002_1.length < 2932031007402
       ·rw [if_pos c60] at H
        have LMc60 := za c60
        clear c60
        obtain ⟨y324, hy324⟩ : ∃ y_ : List (S23), y_ = (x303002_1 ++ [(⟨t305, t306, t307, t308, t309, t310⟩ : S23)]) := ⟨_, rfl⟩
        replace H : ((awardingbodyref06_ValidPaper.f kj10 0 0 y324).bind fun t327 => (if t327 = true then (awardingbodymake_Tape_Long.l0 kj10 (wrap64 (x4_1 - 1)) s0_0 x1001_10 0 0 y324) else (if 0 ≤ (wrap64 ((y324.length : Int) - 1)) then (if (wrap64 ((y324.length : Int) - 1)) ≤ (y324.length : Int) then (awardingbodymake_Tape_Long.l0 kj10 (wrap64 (x4_1 - 1)) s0_0 x1001_10 0 0 (y324.take ((wrap64 ((y324.length : Int) - 1)) : Int).toNat)) else (none)) else (none)))) = some (r1, r2, r3, r4) := by first | (rw [hy324]; with_reducible exact H) | (have H2_ := (Option.bind_some _ _).symm.trans H; rw [hy324]; with_reducible exact H2_) | (have H2_ := (Option.bind_some _ _).symm.trans H; with_reducible exact H2_) | with_reducible exact H | (rw [hy324]; exact H) | exact H
        have Ny324 := za hy324
        clear hy324
        replace H := Option.bind_eq_some_iff.mp H
        obtain ⟨t327, A610, H⟩ := H
        replace H : (if t327 = true then (awardingbodymake_Tape_Long.l0 kj10 (wrap64 (x4_1 - 1)) s0_0 x1001_10 0 0 y324) else (if 0 ≤ (wrap64 ((y324.length : Int) - 1)) then (if (wrap64 ((y324.length : Int) - 1)) ≤ (y324.length : Int) then (awardingbodymake_Tape_Long.l0 kj10 (wrap64 (x4_1 - 1)) s0_0 x1001_10 0 0 (y324.take ((wrap64 ((y324.length : Int) - 1)) : Int).toNat)) else (none)) else (none))) = some (r1, r2, r3, r4) := H
        have A61 := za A610
        clear A610
        by_cases c62 : t327 = true
        ·subst c62
         have H1 : (awardingbodymake_Tape_Long.l0 kj10 (wrap64 (x4_1 - 1)) s0_0 x1001_10 0 0 y324) = some (r1, r2, r3, r4) := by rw [if_pos rfl] at H; exact H
         clear H
         have H := H1
         clear H1
         have H' := za H
         clear H
         have hnb63 := NB302_301.out
         have hnc63 := NB301_302.out
         have hnb64 := NB302_312.out
         have hnc64 := NB312_302.out
         have hnb65 := NB302_0.out
         have hnc65 := NB0_302.out
         obtain ⟨hcz66_0, hcz66_1, hcz66_2, hfz66_0, hfz66_1, hfz66_2⟩ := z3 BK302
         have hnb67 := NB312_301.out
         have hnc67 := NB301_312.out
         have hnb68 := NB312_0.out
         have hnc68 := NB0_312.out
         obtain ⟨hcz69_0, hcz69_1, hcz69_2, hcz69_3, hcz69_4, hcz69_5, hfz69_0, hfz69_1, hfz69_2, hfz69_3, hfz69_4, hfz69_5⟩ := z6 BK312
         go_wp2_with (first | ((with_reducible refine gate_builtin (b := .append) (xs := #[.tmp 27, .tmp 29]) rfl ?_); at_builtin; refine Kd.R_append k23 w.heap.size rfl (.tmp 27) (.tmp 29) 31 23 (.agg #[(.int .i64 0), (.int .i64 0), (.int .i64 0), (.int .i64 0), (.int .i64 0), (.int .i64 0)]) 48 rfl Try.underlying31 info23 rfl (by decide) (by omega) u303002 x303002_1 (⟨t305, t306, t307, t308, t309, t310⟩ : S23) [.int .i64 t305, .int .i64 t306, .int .i64 t307, .int .i64 t308, .int .i64 t309, .int .i64 t310] (fun k_ => k_ ≠ gb312) (fun _ => False) rfl rfl ?aP (fun _ hk => hk.elim) ?aF ?aO (Below.refl _ _) ?aS ?aL ?_; (case aP => exact k23_mkM _ _ _ (⟨t305, t306, t307, t308, t309, t310⟩ : S23)); (case aF => exact (fun k_ hk => Kd.freshB (g := gb312) (o := .cells #[.int .i64 t305, .int .i64 t306, .int .i64 t307, .int .i64 t308, .int .i64 t309, .int .i64 t310] 23 (0, 0)) (by (with_reducible repeat (first | refine blk_drewN ?_ _ | refine blk_drew ?_ | refine blk_alloc ?_ _)); exact BK312.out) k_ hk)); (case aO => exact (by (with_reducible repeat (first | apply Kd.R_alloc | apply Kd.R_drewN | apply Kd.R_drew)); exact HO_303002.out)); (case aS => exact (keep_size (w := w) (g := g) (row := none) (by repeat (first | (with_reducible first | exact HK.out | apply KeepBut.set_ | apply keep_drewN | apply keep_drew | apply keep_alloc | refine keep_far ?_ GW301.out _ | refine keep_far ?_ GW302.out _ | refine keep_far ?_ GW312.out _) | exact HK.out)))); (case aL => have := LMc60.out; omega); intro v325 w70 ho hb hg hat; rw [← Ny324.out] at ho; have HO326 := za (ho); replace BK301 := (zw BK301 hg (Kd.R_ne HO_303002.out BK301.out (by decide))); replace BK302 := (zw BK302 hg (Kd.R_ne HO_303002.out BK302.out (by decide))); replace BK312 := (zw BK312 hg (Kd.R_away HO_303002.out (fun _ hk => hk))); replace HI0 := za (IsS61.grown (by repeat (first | (with_reducible first | exact HI0.out | apply IsS61.alloc | apply IsS61.drewN | apply IsS61.drew | apply IsS61.set_1 | refine IsS61.far ?_ NB0_301.out _ | refine IsS61.far ?_ NB0_302.out _ | refine IsS61.far ?_ NB0_312.out _) | exact HI0.out)) hg (IsS61.own_ne HI0.out HO_303002.out (by decide))); replace HB := za (below_weaken (zm HB) HL.out hb); replace HK := za (KeepBut.trans (by repeat (first | (with_reducible first | exact HK.out | apply KeepBut.set_ | apply keep_drewN | apply keep_drew | apply keep_alloc | refine keep_far ?_ GW301.out _ | refine keep_far ?_ GW302.out _ | refine keep_far ?_ GW312.out _) | exact HK.out)) (KeepBut.of_grown hg g) (Kd.R_base2 HO_303002.out)); clear HO_303002 ho hb hg hat; obtain ⟨Ao71, co71, eo71⟩ := Kd.R_slice HO326.out; subst eo71; obtain ⟨hcz72_0, hcz72_1, hcz72_2, hfz72_0, hfz72_1, hfz72_2⟩ := z3 BK302) | ((with_reducible refine gate_callee (f := 38) rfl ?_); refine zL (some 33) Try.func38 #[.agg #[.int .i64 0, .int .i64 0, .slice Ao71 y324.length co71]] ?_; (with_reducible refine (awardingbodyref06_ValidPaper.calls kj10 0 0 _ _ y324 true _ ?side1 ?side2 A61.out).mono ?_); (case side1 => refine (Kd.R_reads' (e := 23) (base := w.heap.size) (ok := fun k_ => k_ ≠ gb312) (n := y324.length) (c := co71) ?_).2.2; exact (by (with_reducible repeat (first | apply Kd.R_alloc | apply Kd.R_drewN | apply Kd.R_drew)); exact (Kd.R_mono (Kd.R_far (p := ⟨gb302, 2, none⟩) (Kd.R_types HO326.out BK302.out (by decide)) (fun _ hk => hk.2) (.slice Ao71 y324.length co71)) (fun _ h_ => h_.1)))); (case side2 => exact (Kd.R_reads' HO326.out).2.1); rintro e w73 ⟨rfl, hb⟩; refine ⟨_, rfl, ?_⟩; replace HO326 := za (Kd.R_below (by (with_reducible repeat (first | apply Kd.R_alloc | apply Kd.R_drewN | apply Kd.R_drew)); exact (Kd.R_mono (Kd.R_far (p := ⟨gb302, 2, none⟩) (Kd.R_types HO326.out BK302.out (by decide)) (fun _ hk => hk.2) (.slice Ao71 y324.length co71)) (fun _ h_ => h_.1))) hb); replace BK301 := zb BK301 hb; replace BK302 := za (blk_below (g := gb302) (o := .cells #[.int .i64 0, .int .i64 0, .slice Ao71 y324.length co71] 33 (0, 0)) (by (with_reducible repeat (first | refine blk_drewN ?_ _ | refine blk_drew ?_ | refine blk_alloc ?_ _)); refine blk_put (cs := #[.int .i64 0, .int .i64 0, u303002]) ?_ 2 _ rfl; (with_reducible repeat (first | refine blk_drewN ?_ _ | refine blk_drew ?_ | refine blk_alloc ?_ _)); exact BK302.out) hb); replace BK312 := zb BK312 hb; replace HI0 := za (IsS61.below (show IsS61 w0 (w70.setCell ⟨gb302, 2, none⟩ (.slice Ao71 y324.length co71)) g s0_0 x1001_10 from by repeat (first | (with_reducible first | exact HI0.out | apply IsS61.alloc | apply IsS61.drewN | apply IsS61.drew | apply IsS61.set_1 | refine IsS61.far ?_ NB0_301.out _ | refine IsS61.far ?_ NB0_302.out _ | refine IsS61.far ?_ NB0_312.out _) | exact HI0.out)) hb); replace HK := zu HK hb; replace HB := zs HB hb; (try clear hb); (try clear hb2); (try clear hk); (try clear hi)))
         go_roundg kj10
         case measure => have := HK1.out; have := HJ10.out; omega
         case rel => exact ⟨(wrap64 (x4_1 - 1)), (x1001_10), (y324), (.slice Ao71 y324.length co71), (by first | rfl | (simp; done) | (simp [*]; done)), H', ⟨by have := HK1.out; have := HJ10.out; omega⟩, ⟨by (with_reducible repeat (first | apply Kd.R_alloc | apply Kd.R_drewN | apply Kd.R_drew)); exact Kd.R_mono HO326.out (fun _ hk => trivial)⟩, ⟨by (with_reducible repeat (first | refine blk_drewN ?_ _ | refine blk_drew ?_ | refine blk_alloc ?_ _)); exact BK301.out⟩, ⟨by (with_reducible repeat (first | refine blk_drewN ?_ _ | refine blk_drew ?_ | refine blk_alloc ?_ _)); exact BK302.out⟩, ⟨by repeat (first | (with_reducible first | exact HI0.out | apply IsS61.alloc | apply IsS61.drewN | apply IsS61.drew | apply IsS61.set_1 | refine IsS61.far ?_ NB0_301.out _ | refine IsS61.far ?_ NB0_302.out _ | refine IsS61.far ?_ NB0_312.out _) | exact HI0.out)⟩, ⟨by repeat (first | (with_reducible first | exact HK.out | apply KeepBut.set_ | apply keep_drewN | apply keep_drew | apply keep_alloc | refine keep_far ?_ GW301.out _ | refine keep_far ?_ GW302.out _ | refine keep_far ?_ GW312.out _) | exact HK.out)⟩, ⟨zm HB⟩⟩
        ·replace c62 := Bool.eq_false_iff.mpr c62
         subst c62
         have H1 : (if 0 ≤ (wrap64 ((y324.length : Int) - 1)) then (if (wrap64 ((y324.length : Int) - 1)) ≤ (y324.length : Int) then (awardingbodymake_Tape_Long.l0 kj10 (wrap64 (x4_1 - 1)) s0_0 x1001_10 0 0 (y324.take ((wrap64 ((y324.length : Int) - 1)) : Int).toNat)) else (none)) else (none)) = some (r1, r2, r3, r4) := by rw [if_neg (show ¬ (false = true) by decide)] at H; exact H
         clear H
         have H := H1
         clear H1
         obtain ⟨ji74, hji74⟩ : ∃ j_ : Int, (wrap64 ((y324.length : Int) - 1)) = j_ := ⟨_, rfl⟩
         replace H : (if 0 ≤ (ji74) then (if (ji74) ≤ (y324.length : Int) then (awardingbodymake_Tape_Long.l0 kj10 (wrap64 (x4_1 - 1)) s0_0 x1001_10 0 0 (y324.take ((ji74) : Int).toNat)) else (none)) else (none)) = some (r1, r2, r3, r4) := by first | (rw [hji74] at H; exact H) | (simp only [hji74] at H ⊢; exact H)
         (try rw [hji74] at A61)
         have hji74w : (IntKind.i64.wrap ((y324.length : Int) - 1)) = ji74 := (i64_w _).trans hji74
         by_cases c75 : 0 ≤ (ji74)
         ·rw [if_pos c75] at H
          have c75b0 := eq_true c75
          have c75b1 : decide (0 ≤ (ji74)) = true := decide_eq_true c75
          clear c75
          by_cases c76 : (ji74) ≤ (y324.length : Int)
          ·rw [if_pos c76] at H
           have c76b0 := eq_true c76
           have c76b1 : decide ((ji74) ≤ (y324.length : Int)) = true := decide_eq_true c76
           clear c76
           obtain ⟨y328, hy328⟩ : ∃ y_ : List (S23), y_ = (y324.take ((ji74) : Int).toNat) := ⟨_, rfl⟩
           replace H : (awardingbodymake_Tape_Long.l0 kj10 (wrap64 (x4_1 - 1)) s0_0 x1001_10 0 0 y328) = some (r1, r2, r3, r4) := by first | (rw [hy328]; with_reducible exact H) | (have H2_ := (Option.bind_some _ _).symm.trans H; rw [hy328]; with_reducible exact H2_) | (have H2_ := (Option.bind_some _ _).symm.trans H; with_reducible exact H2_) | with_reducible exact H | (rw [hy328]; exact H) | exact H
           have Ny328 := za hy328
           clear hy328
           have H' := za H
           clear H
           have hnb77 := NB302_301.out
           have hnc77 := NB301_302.out
           have hnb78 := NB302_312.out
           have hnc78 := NB312_302.out
           have hnb79 := NB302_0.out
           have hnc79 := NB0_302.out
           obtain ⟨hcz80_0, hcz80_1, hcz80_2, hfz80_0, hfz80_1, hfz80_2⟩ := z3 BK302
           have hnb81 := NB312_301.out
           have hnc81 := NB301_312.out
           have hnb82 := NB312_0.out
           have hnc82 := NB0_312.out
           obtain ⟨hcz83_0, hcz83_1, hcz83_2, hcz83_3, hcz83_4, hcz83_5, hfz83_0, hfz83_1, hfz83_2, hfz83_3, hfz83_4, hfz83_5⟩ := z6 BK312
           go_wp2_with (first | ((with_reducible refine gate_builtin (b := .append) (xs := #[.tmp 27, .tmp 29]) rfl ?_); at_builtin; refine Kd.R_append k23 w.heap.size rfl (.tmp 27) (.tmp 29) 31 23 (.agg #[(.int .i64 0), (.int .i64 0), (.int .i64 0), (.int .i64 0), (.int .i64 0), (.int .i64 0)]) 48 rfl Try.underlying31 info23 rfl (by decide) (by omega) u303002 x303002_1 (⟨t305, t306, t307, t308, t309, t310⟩ : S23) [.int .i64 t305, .int .i64 t306, .int .i64 t307, .int .i64 t308, .int .i64 t309, .int .i64 t310] (fun k_ => k_ ≠ gb312) (fun _ => False) rfl rfl ?aP (fun _ hk => hk.elim) ?aF ?aO (Below.refl _ _) ?aS ?aL ?_; (case aP => exact k23_mkM _ _ _ (⟨t305, t306, t307, t308, t309, t310⟩ : S23)); (case aF => exact (fun k_ hk => Kd.freshB (g := gb312) (o := .cells #[.int .i64 t305, .int .i64 t306, .int .i64 t307, .int .i64 t308, .int .i64 t309, .int .i64 t310] 23 (0, 0)) (by (with_reducible repeat (first | refine blk_drewN ?_ _ | refine blk_drew ?_ | refine blk_alloc ?_ _)); exact BK312.out) k_ hk)); (case aO => exact (by (with_reducible repeat (first | apply Kd.R_alloc | apply Kd.R_drewN | apply Kd.R_drew)); exact HO_303002.out)); (case aS => exact (keep_size (w := w) (g := g) (row := none) (by repeat (first | (with_reducible first | exact HK.out | apply KeepBut.set_ | apply keep_drewN | apply keep_drew | apply keep_alloc | refine keep_far ?_ GW301.out _ | refine keep_far ?_ GW302.out _ | refine keep_far ?_ GW312.out _) | exact HK.out)))); (case aL => have := LMc60.out; omega); intro v325 w84 ho hb hg hat; rw [← Ny324.out] at ho; have HO326 := za (ho); replace BK301 := (zw BK301 hg (Kd.R_ne HO_303002.out BK301.out (by decide))); replace BK302 := (zw BK302 hg (Kd.R_ne HO_303002.out BK302.out (by decide))); replace BK312 := (zw BK312 hg (Kd.R_away HO_303002.out (fun _ hk => hk))); replace HI0 := za (IsS61.grown (by repeat (first | (with_reducible first | exact HI0.out | apply IsS61.alloc | apply IsS61.drewN | apply IsS61.drew | apply IsS61.set_1 | refine IsS61.far ?_ NB0_301.out _ | refine IsS61.far ?_ NB0_302.out _ | refine IsS61.far ?_ NB0_312.out _) | exact HI0.out)) hg (IsS61.own_ne HI0.out HO_303002.out (by decide))); replace HB := za (below_weaken (zm HB) HL.out hb); replace HK := za (KeepBut.trans (by repeat (first | (with_reducible first | exact HK.out | apply KeepBut.set_ | apply keep_drewN | apply keep_drew | apply keep_alloc | refine keep_far ?_ GW301.out _ | refine keep_far ?_ GW302.out _ | refine keep_far ?_ GW312.out _) | exact HK.out)) (KeepBut.of_grown hg g) (Kd.R_base2 HO_303002.out)); clear HO_303002 ho hb hg hat; obtain ⟨Ao85, co85, eo85⟩ := Kd.R_slice HO326.out; subst eo85; obtain ⟨hcz86_0, hcz86_1, hcz86_2, hfz86_0, hfz86_1, hfz86_2⟩ := z3 BK302) | ((with_reducible refine gate_callee (f := 38) rfl ?_); refine zL (some 33) Try.func38 #[.agg #[.int .i64 0, .int .i64 0, .slice Ao85 y324.length co85]] ?_; (with_reducible refine (awardingbodyref06_ValidPaper.calls kj10 0 0 _ _ y324 false _ ?side1 ?side2 A61.out).mono ?_); (case side1 => refine (Kd.R_reads' (e := 23) (base := w.heap.size) (ok := fun k_ => k_ ≠ gb312) (n := y324.length) (c := co85) ?_).2.2; exact (by (with_reducible repeat (first | apply Kd.R_alloc | apply Kd.R_drewN | apply Kd.R_drew)); exact (Kd.R_mono (Kd.R_far (p := ⟨gb302, 2, none⟩) (Kd.R_types HO326.out BK302.out (by decide)) (fun _ hk => hk.2) (.slice Ao85 y324.length co85)) (fun _ h_ => h_.1)))); (case side2 => exact (Kd.R_reads' HO326.out).2.1); rintro e w87 ⟨rfl, hb⟩; refine ⟨_, rfl, ?_⟩; replace HO326 := za (Kd.R_below (by (with_reducible repeat (first | apply Kd.R_alloc | apply Kd.R_drewN | apply Kd.R_drew)); exact (Kd.R_mono (Kd.R_far (p := ⟨gb302, 2, none⟩) (Kd.R_types HO326.out BK302.out (by decide)) (fun _ hk => hk.2) (.slice Ao85 y324.length co85)) (fun _ h_ => h_.1))) hb); replace BK301 := zb BK301 hb; replace BK302 := za (blk_below (g := gb302) (o := .cells #[.int .i64 0, .int .i64 0, .slice Ao85 y324.length co85] 33 (0, 0)) (by (with_reducible repeat (first | refine blk_drewN ?_ _ | refine blk_drew ?_ | refine blk_alloc ?_ _)); refine blk_put (cs := #[.int .i64 0, .int .i64 0, u303002]) ?_ 2 _ rfl; (with_reducible repeat (first | refine blk_drewN ?_ _ | refine blk_drew ?_ | refine blk_alloc ?_ _)); exact BK302.out) hb); replace BK312 := zb BK312 hb; replace HI0 := za (IsS61.below (show IsS61 w0 (w84.setCell ⟨gb302, 2, none⟩ (.slice Ao85 y324.length co85)) g s0_0 x1001_10 from by repeat (first | (with_reducible first | exact HI0.out | apply IsS61.alloc | apply IsS61.drewN | apply IsS61.drew | apply IsS61.set_1 | refine IsS61.far ?_ NB0_301.out _ | refine IsS61.far ?_ NB0_302.out _ | refine IsS61.far ?_ NB0_312.out _) | exact HI0.out)) hb); replace HK := zu HK hb; replace HB := zs HB hb; (try clear hb); (try clear hb2); (try clear hk); (try clear hi); obtain ⟨hcz88_0, hcz88_1, hcz88_2, hfz88_0, hfz88_1, hfz88_2⟩ := z3 BK302; have q89 : ((ji74) : Int) ≤ ((y324.length : Int) : Int) := of_decide_eq_true (by first | (with_reducible assumption) | assumption); obtain ⟨i089, hi089, _, hsz89, _⟩ := info_parts info23; have hcut89 := cut_to (P := Try.prog) 31 23 .i64 Try.underlying31 hi089 Ao85 y324.length co85 (ji74) (of_decide_eq_true (by first | (with_reducible assumption) | assumption)) q89 (Kd.R_reads' HO326.out).2.1; have hr89 := Kd.R_take (m := ((ji74) : Int).toNat) HO326.out (by omega); have hy89 : y328.length = ((ji74) : Int).toNat := (by rw [Ny328.out, List.length_take]; omega); rw [← Ny328.out] at hr89; rw [← hy89] at hr89 hcut89; clear hy89 hi089 hsz89 HO326; have HO330 := za hr89; clear hr89; replace q89 := eq_true q89))
           go_roundg kj10
           case measure => have := HK1.out; have := HJ10.out; omega
           case rel => exact ⟨(wrap64 (x4_1 - 1)), (x1001_10), (y328), (.slice Ao85 y328.length co85), (by first | rfl | (simp; done) | (simp [*]; done)), H', ⟨by have := HK1.out; have := HJ10.out; omega⟩, ⟨by (with_reducible repeat (first | apply Kd.R_alloc | apply Kd.R_drewN | apply Kd.R_drew)); exact Kd.R_mono (Kd.R_far (p := ⟨gb302, 2, none⟩) (Kd.R_types HO330.out BK302.out (by decide)) (fun _ hk => hk.2) (.slice Ao85 y328.length co85)) (fun _ hk => trivial)⟩, ⟨by (with_reducible repeat (first | refine blk_drewN ?_ _ | refine blk_drew ?_ | refine blk_alloc ?_ _)); refine blk_far ?_ NB301_302.out _; (with_reducible repeat (first | refine blk_drewN ?_ _ | refine blk_drew ?_ | refine blk_alloc ?_ _)); exact BK301.out⟩, ⟨by (with_reducible repeat (first | refine blk_drewN ?_ _ | refine blk_drew ?_ | refine blk_alloc ?_ _)); refine blk_put (cs := #[.int .i64 0, .int .i64 0, .slice Ao85 y324.length co85]) ?_ 2 _ rfl; (with_reducible repeat (first | refine blk_drewN ?_ _ | refine blk_drew ?_ | refine blk_alloc ?_ _)); exact BK302.out⟩, ⟨by repeat (first | (with_reducible first | exact HI0.out | apply IsS61.alloc | apply IsS61.drewN | apply IsS61.drew | apply IsS61.set_1 | refine IsS61.far ?_ NB0_301.out _ | refine IsS61.far ?_ NB0_302.out _ | refine IsS61.far ?_ NB0_312.out _) | exact HI0.out)⟩, ⟨by repeat (first | (with_reducible first | exact HK.out | apply KeepBut.set_ | apply keep_drewN | apply keep_drew | apply keep_alloc | refine keep_far ?_ GW301.out _ | refine keep_far ?_ GW302.out _ | refine keep_far ?_ GW312.out _) | exact HK.out)⟩, ⟨zm HB⟩⟩
          ·rw [if_neg c76] at H
           exact absurd H (by simp)
         ·rw [if_neg c75] at H
          exact absurd H (by simp)
       ·rw [if_neg c60] at H
        exact absurd H (by simp)
   ·rw [if_neg c9] at H
    have c9b0 : decide (0 < x4_1) = false := decide_eq_false c9
    clear c9
    simp only [Option.some.injEq, Prod.mk.injEq] at H
    obtain ⟨rfl, rfl, rfl, rfl⟩ := H
    have hnb90 := NB302_301.out
    have hnc90 := NB301_302.out
    have hnb91 := NB302_0.out
    have hnc91 := NB0_302.out
    obtain ⟨hcz92_0, hcz92_1, hcz92_2, hfz92_0, hfz92_1, hfz92_2⟩ := z3 BK302
    have hnb93 := NB301_0.out
    have hnc93 := NB0_301.out
    obtain ⟨hcz94_0, hcz94_1, hcz94_2, hfz94_0, hfz94_1, hfz94_2⟩ := z3 BK301
    obtain ⟨Ao95, co95, eo95⟩ := Kd.R_slice HO_303002.out
    subst eo95
    go_wp2
    refine bodyPost_ret (results_cell_row rfl _ _ gb301 33 #[.int .i64 0, .int .i64 0, .slice Ao95 x303002_1.length co95] (0, 0) _ rfl (by (with_reducible repeat (first | refine blk_drewN ?_ _ | refine blk_drew ?_ | refine blk_alloc ?_ _)); refine blk_put (cs := #[.int .i64 0, .int .i64 0, .slice none 0 0]) ?_ 2 _ rfl; (with_reducible repeat (first | refine blk_drewN ?_ _ | refine blk_drew ?_ | refine blk_alloc ?_ _)); refine blk_put (cs := #[.int .i64 0, .int .i64 0, .slice none 0 0]) ?_ 1 _ rfl; (with_reducible repeat (first | refine blk_drewN ?_ _ | refine blk_drew ?_ | refine blk_alloc ?_ _)); refine blk_put (cs := #[.int .i64 0, .int .i64 0, .slice none 0 0]) ?_ 0 _ rfl; (with_reducible repeat (first | refine blk_drewN ?_ _ | refine blk_drew ?_ | refine blk_alloc ?_ _)); exact BK301.out) Try.underlying33 rfl (by kernel_rfl)) rfl ?_
    exact ⟨_, zf, by (with_reducible repeat (first | apply Kd.R_alloc | apply Kd.R_drewN | apply Kd.R_drew)); exact Kd.R_mono (Kd.R_far (p := ⟨gb301, 2, none⟩) (Kd.R_far (p := ⟨gb301, 1, none⟩) (Kd.R_far (p := ⟨gb301, 0, none⟩) (Kd.R_types HO_303002.out BK301.out (by decide)) (fun _ hk => hk.2) (.int .i64 0)) (fun _ hk => hk.2) (.int .i64 0)) (fun _ hk => hk.2) (.slice Ao95 x303002_1.length co95)) (fun _ hk => trivial), by repeat (first | (with_reducible first | exact HI0.out | apply IsS61.alloc | apply IsS61.drewN | apply IsS61.drew | apply IsS61.set_1 | refine IsS61.far ?_ NB0_301.out _ | refine IsS61.far ?_ NB0_302.out _) | exact HI0.out), zm HB, by repeat (first | (with_reducible first | exact HK.out | apply KeepBut.set_ | apply keep_drewN | apply keep_drew | apply keep_alloc | refine keep_far ?_ GW301.out _ | refine keep_far ?_ GW302.out _) | exact HK.out)⟩

end Go.Proofs.Ytdmlbgdefapcjaa.Print
