-- Printed by a program of this session (wip/own_print.py) out of the translation; Lean checks it.
import Derived.Test.YtdmlbgdefapcjaaShort
import Derived.Test.YtdmlbgdefapcjaaPrint0
import Derived.Test.YtdmlbgdefapcjaaPrint3
import Derived.Test.YtdmlbgdefapcjaaPrint4
import Derived.Test.YtdmlbgdefapcjaaPrint5
namespace Go.Proofs.Ytdmlbgdefapcjaa.Print
open Go.RowKit Go.Proofs.YtdmlbgdefapcjaaW.PrintWords Go.Proofs.YtdmlbgdefapcjaaW.PrintLast Go.Proofs.YtdmlbgdefapcjaaW.PrintMore
attribute [local go_sem] max2_int min2_int max_two min_two max_three min_three max_four min_four   -- for this text's walks alone
set_option linter.unusedVariables false
set_option linter.unusedSimpArgs false

/-! ### awardingbodymake_Tape_Long: function 17 -/
mutual
def awardingbodymake_Tape_Long.l0 : Nat → Int → List Int → Int → Int → Int → List (S23) → Option (Int × Int × (List (S23)) × Int)
  | 0, _, _, _, _, _, _ => none
  | k + 1, x4, x1000, x1001, x241000, x241001, x241002 => if x4 > 0 then ((awardingbodymake_Tape_Part.f k x1000 x1001 0).bind fun bt243 => ((awardingbodymake_Tape_Next.f x1000 bt243.2.2.2.2.2.2 2).bind fun bt251 => (if bt251.1 = 0 then (awardingbodymake_Tape_Long.j1 k x4 (bt243.1 == 1) x1000 bt251.2 x241000 x241001 x241002 bt243.1 bt243.2.1 bt243.2.2.1 bt243.2.2.2.1 bt243.2.2.2.2.1 bt243.2.2.2.2.2.1) else (awardingbodymake_Tape_Long.j1 k x4 false x1000 bt251.2 x241000 x241001 x241002 bt243.1 bt243.2.1 bt243.2.2.1 bt243.2.2.2.1 bt243.2.2.2.2.1 bt243.2.2.2.2.2.1)))) else (some (x241000, x241001, x241002, x1001))
def awardingbodymake_Tape_Long.j1 : Nat → Int → Bool → List Int → Int → Int → Int → List (S23) → Int → Int → Int → Int → Int → Int → Option (Int × Int × (List (S23)) × Int)
  | 0, _, _, _, _, _, _, _, _, _, _, _, _, _ => none
  | k + 1, x4, x22, x1000, x1001, x241000, x241001, x241002, x251000, x251001, x251002, x251003, x251004, x251005 => if x22 = true then ((awardingbodymake_Tape_Range.f x1000 x1001 1 28).bind fun bt253 => (if x241002.length < 2932031007402 then ((some (x241002 ++ [(⟨x251000, bt253.1, x251002, x251003, x251004, x251005⟩ : S23)] : List (S23))).bind fun y255 => ((awardingbodyref06_ValidPaper.f k x241000 x241001 y255).bind fun t258 => (if t258 = true then (awardingbodymake_Tape_Long.l0 k (wrap64 (x4 - 1)) x1000 bt253.2 x241000 x241001 y255) else (if 0 ≤ (wrap64 ((y255.length : Int) - 1)) then (if (wrap64 ((y255.length : Int) - 1)) ≤ (y255.length : Int) then (awardingbodymake_Tape_Long.l0 k (wrap64 (x4 - 1)) x1000 bt253.2 x241000 x241001 (y255.take ((wrap64 ((y255.length : Int) - 1)) : Int).toNat)) else (none)) else (none))))) else (none))) else (if x241002.length < 2932031007402 then ((some (x241002 ++ [(⟨x251000, x251001, x251002, x251003, x251004, x251005⟩ : S23)] : List (S23))).bind fun y262 => ((awardingbodyref06_ValidPaper.f k x241000 x241001 y262).bind fun t265 => (if t265 = true then (awardingbodymake_Tape_Long.l0 k (wrap64 (x4 - 1)) x1000 x1001 x241000 x241001 y262) else (if 0 ≤ (wrap64 ((y262.length : Int) - 1)) then (if (wrap64 ((y262.length : Int) - 1)) ≤ (y262.length : Int) then (awardingbodymake_Tape_Long.l0 k (wrap64 (x4 - 1)) x1000 x1001 x241000 x241001 (y262.take ((wrap64 ((y262.length : Int) - 1)) : Int).toNat)) else (none)) else (none))))) else (none))
end
def awardingbodymake_Tape_Long.f (k : Nat) (s0_0 : List Int) (s0_1 : Int) : Option (Int × Int × (List (S23)) × Int) := (awardingbodymake_Tape_Range.f s0_0 s0_1 1 24).bind fun bt241 => (awardingbodymake_Tape_Long.l0 k bt241.1 s0_0 bt241.2 0 0 ([] : List (S23)))
theorem awardingbodymake_Tape_Long.mono_l : ∀ k, (∀ y0 y1 y2 y3 y4 y5, LeO (awardingbodymake_Tape_Long.l0 k y0 y1 y2 y3 y4 y5) (awardingbodymake_Tape_Long.l0 (k + 1) y0 y1 y2 y3 y4 y5)) ∧ (∀ y0 y1 y2 y3 y4 y5 y6 y7 y8 y9 y10 y11 y12, LeO (awardingbodymake_Tape_Long.j1 k y0 y1 y2 y3 y4 y5 y6 y7 y8 y9 y10 y11 y12) (awardingbodymake_Tape_Long.j1 (k + 1) y0 y1 y2 y3 y4 y5 y6 y7 y8 y9 y10 y11 y12))
  | 0 => ⟨fun _ _ _ _ _ _ r h => by simp [awardingbodymake_Tape_Long.l0] at h, fun _ _ _ _ _ _ _ _ _ _ _ _ _ r h => by simp [awardingbodymake_Tape_Long.j1] at h⟩
  | k + 1 => by
    obtain ⟨ih0, ih1⟩ := awardingbodymake_Tape_Long.mono_l k
    refine ⟨?_, ?_⟩
    · intro y0 y1 y2 y3 y4 y5
      unfold awardingbodymake_Tape_Long.l0
      repeat' first
      | (with_reducible exact ih0 _ _ _ _ _ _)
      | (with_reducible exact ih1 _ _ _ _ _ _ _ _ _ _ _ _ _)
      | (with_reducible exact awardingbodymake_Tape_Part.mono _ _ _ _)
      | (with_reducible exact awardingbodyref06_ValidPaper.mono _ _ _ _)
      | (with_reducible exact LeO.refl _)
      | (with_reducible exact LeO.none _)
      | (with_reducible refine LeO.ite ?_ ?_)
      | (with_reducible refine LeO.bind ?_ (fun _ => ?_))
      | exact ih0 _ _ _ _ _ _
      | exact ih1 _ _ _ _ _ _ _ _ _ _ _ _ _
      | exact awardingbodymake_Tape_Part.mono _ _ _ _
      | exact awardingbodyref06_ValidPaper.mono _ _ _ _
      | exact LeO.none _
      | refine LeO.ite ?_ ?_
      | refine LeO.bind ?_ (fun _ => ?_)
    · intro y0 y1 y2 y3 y4 y5 y6 y7 y8 y9 y10 y11 y12
      unfold awardingbodymake_Tape_Long.j1
      repeat' first
      | (with_reducible exact ih0 _ _ _ _ _ _)
      | (with_reducible exact ih1 _ _ _ _ _ _ _ _ _ _ _ _ _)
      | (with_reducible exact awardingbodymake_Tape_Part.mono _ _ _ _)
      | (with_reducible exact awardingbodyref06_ValidPaper.mono _ _ _ _)
      | (with_reducible exact LeO.refl _)
      | (with_reducible exact LeO.none _)
      | (with_reducible refine LeO.ite ?_ ?_)
      | (with_reducible refine LeO.bind ?_ (fun _ => ?_))
      | exact ih0 _ _ _ _ _ _
      | exact ih1 _ _ _ _ _ _ _ _ _ _ _ _ _
      | exact awardingbodymake_Tape_Part.mono _ _ _ _
      | exact awardingbodyref06_ValidPaper.mono _ _ _ _
      | exact LeO.none _
      | refine LeO.ite ?_ ?_
      | refine LeO.bind ?_ (fun _ => ?_)
theorem awardingbodymake_Tape_Long.mono : ∀ a0 a1 k, LeO (awardingbodymake_Tape_Long.f k a0 a1) (awardingbodymake_Tape_Long.f (k + 1) a0 a1) := by
  intro a0 a1 k
  obtain ⟨ih0, ih1⟩ := awardingbodymake_Tape_Long.mono_l k
  unfold awardingbodymake_Tape_Long.f
  repeat' first
      | (with_reducible exact ih0 _ _ _ _ _ _)
      | (with_reducible exact ih1 _ _ _ _ _ _ _ _ _ _ _ _ _)
      | (with_reducible exact awardingbodymake_Tape_Part.mono _ _ _ _)
      | (with_reducible exact awardingbodyref06_ValidPaper.mono _ _ _ _)
      | (with_reducible exact LeO.refl _)
      | (with_reducible exact LeO.none _)
      | (with_reducible refine LeO.ite ?_ ?_)
      | (with_reducible refine LeO.bind ?_ (fun _ => ?_))
      | exact ih0 _ _ _ _ _ _
      | exact ih1 _ _ _ _ _ _ _ _ _ _ _ _ _
      | exact awardingbodymake_Tape_Part.mono _ _ _ _
      | exact awardingbodyref06_ValidPaper.mono _ _ _ _
      | exact LeO.none _
      | refine LeO.ite ?_ ?_
      | refine LeO.bind ?_ (fun _ => ?_)
set_option maxHeartbeats 8000000 in
set_option maxRecDepth 100000 in
theorem awardingbodymake_Tape_Long.calls (k : Nat) (g : Nat) (s0_0 : List Int) (s0_1 : Int) (r1 : Int) (r2 : Int) (r3 : List (S23)) (r4 : Int) (w0 w : World) (hI : IsS61 w0 w g s0_0 s0_1) (hB : Below w0.heap.size w0 w) (h : awardingbodymake_Tape_Long.f k s0_0 s0_1 = some (r1, r2, r3, r4)) :
    Calls Try.prog 17 #[.pointer (some ⟨g, 0, none⟩)] w fun e w' => ∃ v2_ : Value, e = .returned (.agg #[.int .i64 r1, .int .i64 r2, v2_]) ∧ Kd.R k23 23 w' w.heap.size (fun _ => True) v2_ r3 ∧ IsS61 w0 w' g s0_0 r4 ∧ Below w0.heap.size w0 w' ∧ KeepBut w w' g none := by
 have hu33 := Try.underlying33
 have hu23 := Try.underlying23
 have HI0 := za hI
 have HK := za (KeepBut.refl w g none)
 have HL := za hB.size
 clear hI
 have HW0 := za hB.size
 have HB := za hB
 clear hB
 have H : ((awardingbodymake_Tape_Range.f s0_0 s0_1 1 24).bind fun bt241 => (awardingbodymake_Tape_Long.l0 k bt241.1 s0_0 bt241.2 0 0 ([] : List (S23)))) = some (r1, r2, r3, r4) := h
 clear h
 replace H := Option.bind_eq_some_iff.mp H
 obtain ⟨⟨t241, t242⟩, A20, H⟩ := H
 replace H : (awardingbodymake_Tape_Long.l0 k t241 s0_0 t242 0 0 ([] : List (S23))) = some (r1, r2, r3, r4) := H
 have A2 := za A20
 clear A20
 have H' := za H
 clear H
 go_enter Try.func17, Try.ntmps17
 go_wp2_with (first | ((with_reducible refine gate_dst (N := 2) rfl ?_); refine zE 2 #[.int .i64 0, .int .i64 0, .slice none 0 0] 33 ?_; intro gb239 hg w3 hbox hb; have BK239 := za (hbox); have GW239 := za ((by rw [hg]; exact (keep_size (w := w) (g := g) (row := none) (by repeat (first | (with_reducible first | exact HK.out | apply KeepBut.set_ | apply keep_drewN | apply keep_drew | apply keep_alloc) | exact HK.out))) : w.heap.size ≤ gb239)); have GE239 := za ((Nat.le_trans HW0.out (by rw [hg]; exact (keep_size (w := w) (g := g) (row := none) (by repeat (first | (with_reducible first | exact HK.out | apply KeepBut.set_ | apply keep_drewN | apply keep_drew | apply keep_alloc) | exact HK.out))) : w.heap.size ≤ gb239) : w0.heap.size ≤ gb239)); have NB0_239 := za ((by rw [hg]; exact Nat.ne_of_lt (IsS61.lt (show IsS61 w0 _ g s0_0 s0_1 from by repeat (first | (with_reducible first | exact HI0.out | apply IsS61.alloc | apply IsS61.drewN | apply IsS61.drew | apply IsS61.set_1) | exact HI0.out))) : g ≠ gb239)); have NB239_0 := za ((by rw [hg]; exact Nat.ne_of_gt (IsS61.lt (show IsS61 w0 _ g s0_0 s0_1 from by repeat (first | (with_reducible first | exact HI0.out | apply IsS61.alloc | apply IsS61.drewN | apply IsS61.drew | apply IsS61.set_1) | exact HI0.out))) : gb239 ≠ g)); replace HI0 := za (IsS61.below (by repeat (first | (with_reducible first | exact HI0.out | apply IsS61.alloc | apply IsS61.drewN | apply IsS61.drew | apply IsS61.set_1) | exact HI0.out)) hb); replace HK := zu HK hb; replace HB := zs HB hb; clear hb hbox hg) | ((with_reducible refine gate_dst (N := 3) rfl ?_); refine zE 3 #[.int .i64 0, .int .i64 0, .slice none 0 0] 33 ?_; intro gb240 hg w4 hbox hb; have BK240 := za (hbox); have GW240 := za ((by rw [hg]; exact (keep_size (w := w) (g := g) (row := none) (by repeat (first | (with_reducible first | exact HK.out | apply KeepBut.set_ | apply keep_drewN | apply keep_drew | apply keep_alloc | refine keep_far ?_ GW239.out _) | exact HK.out))) : w.heap.size ≤ gb240)); have GE240 := za ((Nat.le_trans HW0.out (by rw [hg]; exact (keep_size (w := w) (g := g) (row := none) (by repeat (first | (with_reducible first | exact HK.out | apply KeepBut.set_ | apply keep_drewN | apply keep_drew | apply keep_alloc | refine keep_far ?_ GW239.out _) | exact HK.out))) : w.heap.size ≤ gb240) : w0.heap.size ≤ gb240)); have NB239_240 := zl BK239 hg; have NB240_239 := zr BK239 hg; have NB0_240 := za ((by rw [hg]; exact Nat.ne_of_lt (IsS61.lt (show IsS61 w0 _ g s0_0 s0_1 from by repeat (first | (with_reducible first | exact HI0.out | apply IsS61.alloc | apply IsS61.drewN | apply IsS61.drew | apply IsS61.set_1 | refine IsS61.far ?_ NB0_239.out _) | exact HI0.out))) : g ≠ gb240)); have NB240_0 := za ((by rw [hg]; exact Nat.ne_of_gt (IsS61.lt (show IsS61 w0 _ g s0_0 s0_1 from by repeat (first | (with_reducible first | exact HI0.out | apply IsS61.alloc | apply IsS61.drewN | apply IsS61.drew | apply IsS61.set_1 | refine IsS61.far ?_ NB0_239.out _) | exact HI0.out))) : gb240 ≠ g)); replace HI0 := za (IsS61.below (by repeat (first | (with_reducible first | exact HI0.out | apply IsS61.alloc | apply IsS61.drewN | apply IsS61.drew | apply IsS61.set_1 | refine IsS61.far ?_ NB0_239.out _) | exact HI0.out)) hb); replace BK239 := zb BK239 hb; replace HK := zu HK hb; replace HB := zs HB hb; clear hb hbox hg; have hnb5 := NB240_239.out; have hnc5 := NB239_240.out; have hnb6 := NB240_0.out; have hnc6 := NB0_240.out; obtain ⟨hcz7_0, hcz7_1, hcz7_2, hfz7_0, hfz7_1, hfz7_2⟩ := z3 BK240) | ((with_reducible refine gate_callee (f := 34) rfl ?_); refine zL (some 8) Try.func34 #[.pointer (some ⟨g, 0, none⟩), .int .i64 1, .int .i64 24] ?_; (with_reducible refine (awardingbodymake_Tape_Range.calls g s0_0 s0_1 1 24 t241 t242 w0 _ ?side1 ?side2 A2.out).mono ?_); (case side1 => repeat (first | (with_reducible first | exact HI0.out | apply IsS61.alloc | apply IsS61.drewN | apply IsS61.drew | apply IsS61.set_1 | refine IsS61.far ?_ NB0_239.out _ | refine IsS61.far ?_ NB0_240.out _) | exact HI0.out)); (case side2 => repeat (first | (with_reducible first | exact HB.out | apply below_alloc | apply pw_below_drewN | apply below_drew1 | refine below_set ?_ (IsS61.ge HI0.out) | refine below_set ?_ GE239.out | refine below_set ?_ GE240.out) | exact HB.out)); rintro e w8 ⟨rfl, hi, hb, hk⟩; refine ⟨_, rfl, ?_⟩; replace BK239 := zk hk BK239 NB239_0; replace BK240 := za (KeepBut.blk hk (g' := gb240) (o := .cells #[.int .i64 0, .int .i64 0, .slice none 0 0] 33 (0, 0)) (by (with_reducible repeat (first | refine blk_drewN ?_ _ | refine blk_drew ?_ | refine blk_alloc ?_ _)); refine blk_put (cs := #[.int .i64 0, .int .i64 0, .slice none 0 0]) ?_ 2 _ rfl; (with_reducible repeat (first | refine blk_drewN ?_ _ | refine blk_drew ?_ | refine blk_alloc ?_ _)); refine blk_put (cs := #[.int .i64 0, .int .i64 0, .slice none 0 0]) ?_ 1 _ rfl; (with_reducible repeat (first | refine blk_drewN ?_ _ | refine blk_drew ?_ | refine blk_alloc ?_ _)); refine blk_put (cs := #[.int .i64 0, .int .i64 0, .slice none 0 0]) ?_ 0 _ rfl; (with_reducible repeat (first | refine blk_drewN ?_ _ | refine blk_drew ?_ | refine blk_alloc ?_ _)); exact BK240.out) NB240_0.out (by simp)); replace HK := zt HK hk; replace HB := za (hb); replace HI0 := za (hi); (try clear hb); (try clear hb2); (try clear hk); (try clear hi)))
 go_loopg [4] k (fun kq v4 w' => ∃ (x4_1 : Int) (x1001_1 : Int) (x241002_1 : List (S23)) (u241002 : Value), v4 = .int .i64 x4_1 ∧ Aside0 (awardingbodymake_Tape_Long.l0 kq x4_1 s0_0 x1001_1 0 0 x241002_1 = some (r1, r2, r3, r4)) ∧ Aside0 (kq ≤ k) ∧ Aside0 (Kd.R k23 23 w' w.heap.size (fun _ => True) u241002 x241002_1) ∧ Aside0 (w'.heap[gb239]? = some (.cells #[.int .i64 0, .int .i64 0, (.slice none 0 0)] 33 (0, 0))) ∧ Aside0 (w'.heap[gb240]? = some (.cells #[.int .i64 0, .int .i64 0, u241002] 33 (0, 0))) ∧ Aside0 (IsS61 w0 w' g s0_0 x1001_1) ∧ Aside0 (KeepBut w w' g none) ∧ Aside0 (Below w0.heap.size w0 w'))
 case atStart => exact ⟨(t241), (t242), (([] : List (S23))), (.slice none 0 0), (by first | rfl | (simp; done) | (simp [*]; done)), H', ⟨Nat.le_refl _⟩, ⟨by first | exact Kd.R_nil _ _ _ _ _ | exact Kd.N_nil _ _ _ _ _ | exact Kd.V_nil _ _ _ _ _ | exact Kd.Q_nil _ _ _ _ _ | exact Kd.S_nil _ _ _ _ _⟩, ⟨by (with_reducible repeat (first | refine blk_drewN ?_ _ | refine blk_drew ?_ | refine blk_alloc ?_ _)); exact BK239.out⟩, ⟨by (with_reducible repeat (first | refine blk_drewN ?_ _ | refine blk_drew ?_ | refine blk_alloc ?_ _)); exact BK240.out⟩, ⟨by repeat (first | (with_reducible first | exact HI0.out | apply IsS61.alloc | apply IsS61.drewN | apply IsS61.drew | apply IsS61.set_1 | refine IsS61.far ?_ NB0_239.out _ | refine IsS61.far ?_ NB0_240.out _) | exact HI0.out)⟩, ⟨by repeat (first | (with_reducible first | exact HK.out | apply KeepBut.set_ | apply keep_drewN | apply keep_drew | apply keep_alloc | refine keep_far ?_ GW239.out _ | refine keep_far ?_ GW240.out _) | exact HK.out)⟩, ⟨zm HB⟩⟩
 case round =>
  clear H'
  try clear c1
  try clear p2
  try clear c3
  try clear c5
  try clear c6
  try clear hcz7_0
  try clear hcz7_1
  try clear hcz7_2
  try clear hfz7_0
  try clear hfz7_1
  try clear hfz7_2
  obtain ⟨x4_1, x1001_1, x241002_1, u241002, rfl, HA, HK1, HO_241002, BK239, BK240, HI0, HK, HB⟩ := hrel
  cases gk with
  | zero => exact absurd HA.out (by simp [awardingbodymake_Tape_Long.l0])
  | succ k1 =>
   have H := HA.out
   clear HA
   simp only [awardingbodymake_Tape_Long.l0] at H
   by_cases c9 : x4_1 > 0
   ·rw [if_pos c9] at H
    have c9b0 : decide (0 < x4_1) = true := decide_eq_true c9
    clear c9
    replace H := Option.bind_eq_some_iff.mp H
    obtain ⟨⟨t243, t244, t245, t246, t247, t248, t249⟩, A100, H⟩ := H
    replace H : ((awardingbodymake_Tape_Next.f s0_0 t249 2).bind fun bt251 => (if bt251.1 = 0 then (awardingbodymake_Tape_Long.j1 k1 x4_1 (t243 == 1) s0_0 bt251.2 0 0 x241002_1 t243 t244 t245 t246 t247 t248) else (awardingbodymake_Tape_Long.j1 k1 x4_1 false s0_0 bt251.2 0 0 x241002_1 t243 t244 t245 t246 t247 t248))) = some (r1, r2, r3, r4) := H
    have A10 := za A100
    clear A100
    have HC11 := za H
    clear H
    go_upto_region 6 with (first | ((with_reducible refine gate_callee (f := 37) rfl ?_); refine zL (some 14) Try.func37 #[.pointer (some ⟨g, 0, none⟩), .int .i64 0] ?_; (with_reducible refine (awardingbodymake_Tape_Part.calls k1 g s0_0 x1001_1 0 t243 t244 t245 t246 t247 t248 t249 w0 _ ?side1 ?side2 A10.out).mono ?_); (case side1 => repeat (first | (with_reducible first | exact HI0.out | apply IsS61.alloc | apply IsS61.drewN | apply IsS61.drew | apply IsS61.set_1 | refine IsS61.far ?_ NB0_239.out _ | refine IsS61.far ?_ NB0_240.out _) | exact HI0.out)); (case side2 => repeat (first | (with_reducible first | exact HB.out | apply below_alloc | apply pw_below_drewN | apply below_drew1 | refine below_set ?_ (IsS61.ge HI0.out) | refine below_set ?_ GE239.out | refine below_set ?_ GE240.out) | exact HB.out)); rintro e w12 ⟨rfl, hi, hb, hk⟩; refine ⟨_, rfl, ?_⟩; replace HO_241002 := za (Kd.R_mono (Kd.R_keep (IsS61.apart (show IsS61 w0 _ g s0_0 x1001_1 from by repeat (first | (with_reducible first | exact HI0.out | apply IsS61.alloc | apply IsS61.drewN | apply IsS61.drew | apply IsS61.set_1 | refine IsS61.far ?_ NB0_239.out _ | refine IsS61.far ?_ NB0_240.out _) | exact HI0.out)) (by (with_reducible repeat (first | apply Kd.R_alloc | apply Kd.R_drewN | apply Kd.R_drew)); exact HO_241002.out) (by decide)) hk (fun _ h => h.2)) (fun _ h => h.1)); replace BK239 := zk hk BK239 NB239_0; replace BK240 := zk hk BK240 NB240_0; replace HK := zt HK hk; replace HB := za (hb); replace HI0 := za (hi); (try clear hb); (try clear hb2); (try clear hk); (try clear hi)) | ((with_reducible refine gate_dst (N := 5) rfl ?_); refine zE 5 #[.int .i64 0, .int .i64 0, .int .i64 0, .int .i64 0, .int .i64 0, .int .i64 0] 23 ?_; intro gb250 hg w13 hbox hb; have BK250 := za (hbox); have GW250 := za ((by rw [hg]; exact (keep_size (w := w) (g := g) (row := none) (by repeat (first | (with_reducible first | exact HK.out | apply KeepBut.set_ | apply keep_drewN | apply keep_drew | apply keep_alloc | refine keep_far ?_ GW239.out _ | refine keep_far ?_ GW240.out _) | exact HK.out))) : w.heap.size ≤ gb250)); have GE250 := za ((Nat.le_trans HW0.out (by rw [hg]; exact (keep_size (w := w) (g := g) (row := none) (by repeat (first | (with_reducible first | exact HK.out | apply KeepBut.set_ | apply keep_drewN | apply keep_drew | apply keep_alloc | refine keep_far ?_ GW239.out _ | refine keep_far ?_ GW240.out _) | exact HK.out))) : w.heap.size ≤ gb250) : w0.heap.size ≤ gb250)); have NB239_250 := zl BK239 hg; have NB250_239 := zr BK239 hg; have NB240_250 := zl BK240 hg; have NB250_240 := zr BK240 hg; have NB0_250 := za ((by rw [hg]; exact Nat.ne_of_lt (IsS61.lt (show IsS61 w0 _ g s0_0 t249 from by repeat (first | (with_reducible first | exact HI0.out | apply IsS61.alloc | apply IsS61.drewN | apply IsS61.drew | apply IsS61.set_1 | refine IsS61.far ?_ NB0_239.out _ | refine IsS61.far ?_ NB0_240.out _) | exact HI0.out))) : g ≠ gb250)); have NB250_0 := za ((by rw [hg]; exact Nat.ne_of_gt (IsS61.lt (show IsS61 w0 _ g s0_0 t249 from by repeat (first | (with_reducible first | exact HI0.out | apply IsS61.alloc | apply IsS61.drewN | apply IsS61.drew | apply IsS61.set_1 | refine IsS61.far ?_ NB0_239.out _ | refine IsS61.far ?_ NB0_240.out _) | exact HI0.out))) : gb250 ≠ g)); replace HO_241002 := za (Kd.R_below (Kd.R_elderB (by (with_reducible repeat (first | apply Kd.R_alloc | apply Kd.R_drewN | apply Kd.R_drew)); exact HO_241002.out) gb250 (Nat.le_of_eq hg.symm)) hb); replace BK239 := zb BK239 hb; replace BK240 := zb BK240 hb; replace HI0 := za (IsS61.below (by repeat (first | (with_reducible first | exact HI0.out | apply IsS61.alloc | apply IsS61.drewN | apply IsS61.drew | apply IsS61.set_1 | refine IsS61.far ?_ NB0_239.out _ | refine IsS61.far ?_ NB0_240.out _) | exact HI0.out)) hb); replace HK := zu HK hb; replace HB := zs HB hb; clear hb hbox hg; have hnb14 := NB250_239.out; have hnc14 := NB239_250.out; have hnb15 := NB250_240.out; have hnc15 := NB240_250.out; have hnb16 := NB250_0.out; have hnc16 := NB0_250.out; obtain ⟨hcz17_0, hcz17_1, hcz17_2, hcz17_3, hcz17_4, hcz17_5, hfz17_0, hfz17_1, hfz17_2, hfz17_3, hfz17_4, hfz17_5⟩ := z6 BK250))
    (try simp only [Act.put, List.setIfInBounds_toArray, List.set_cons_zero, List.set_cons_succ])
    go_cut [22] (fun v22 wc => ∃ (kq : Nat) (x22_10 : Bool) (x1001_10 : Int), v22 = .bool x22_10 ∧ Aside0 (awardingbodymake_Tape_Long.j1 kq x4_1 x22_10 s0_0 x1001_10 0 0 x241002_1 t243 t244 t245 t246 t247 t248 = some (r1, r2, r3, r4)) ∧ Aside0 (kq ≤ k1) ∧ Aside0 (Kd.R k23 23 wc w.heap.size (fun k_ => k_ ≠ gb250) u241002 x241002_1) ∧ Aside0 (wc.heap[gb239]? = some (.cells #[.int .i64 0, .int .i64 0, (.slice none 0 0)] 33 (0, 0))) ∧ Aside0 (wc.heap[gb240]? = some (.cells #[.int .i64 0, .int .i64 0, u241002] 33 (0, 0))) ∧ Aside0 (wc.heap[gb250]? = some (.cells #[.int .i64 t243, .int .i64 t244, .int .i64 t245, .int .i64 t246, .int .i64 t247, .int .i64 t248] 23 (0, 0))) ∧ Aside0 (IsS61 w0 wc g s0_0 x1001_10) ∧ Aside0 (KeepBut w wc g none) ∧ Aside0 (Below w0.heap.size w0 wc))
    case first =>
     have H := HC11.out
     clear HC11
     replace H := Option.bind_eq_some_iff.mp H
     obtain ⟨⟨t251, t252⟩, A180, H⟩ := H
     replace H : (if t251 = 0 then (awardingbodymake_Tape_Long.j1 k1 x4_1 (t243 == 1) s0_0 t252 0 0 x241002_1 t243 t244 t245 t246 t247 t248) else (awardingbodymake_Tape_Long.j1 k1 x4_1 false s0_0 t252 0 0 x241002_1 t243 t244 t245 t246 t247 t248)) = some (r1, r2, r3, r4) := H
     have A18 := za A180
     clear A180
     by_cases c19 : t251 = 0
     ·rw [if_pos c19] at H
      have c19b0 : (t251 == 0) = true := beq_iff_eq.mpr c19
      have c19b1 : (t251 != 0) = false := bne_eq_false_iff_eq.mpr c19
      clear c19
      (first | rw [c19b0] | (simp only [i64_w, i32_w]; rw [c19b0]) | skip)
      have H' := za H
      clear H
      go_wp2_with (first | ((with_reducible refine gate_callee (f := 21) rfl ?_); refine zL (some 16) Try.func21 #[.pointer (some ⟨g, 0, none⟩), .int .i64 2] ?_; (with_reducible refine (awardingbodymake_Tape_Next.calls g s0_0 t249 2 t251 t252 w0 _ ?side1 ?side2 A18.out).mono ?_); (case side1 => repeat (first | (with_reducible first | exact HI0.out | apply IsS61.alloc | apply IsS61.drewN | apply IsS61.drew | apply IsS61.set_1 | refine IsS61.far ?_ NB0_239.out _ | refine IsS61.far ?_ NB0_240.out _ | refine IsS61.far ?_ NB0_250.out _) | exact HI0.out)); (case side2 => repeat (first | (with_reducible first | exact HB.out | apply below_alloc | apply pw_below_drewN | apply below_drew1 | refine below_set ?_ (IsS61.ge HI0.out) | refine below_set ?_ GE239.out | refine below_set ?_ GE240.out | refine below_set ?_ GE250.out) | exact HB.out)); rintro e w20 ⟨rfl, hi, hb, hk⟩; refine ⟨_, rfl, ?_⟩; replace HO_241002 := za (Kd.R_mono (Kd.R_keep (IsS61.apart (show IsS61 w0 _ g s0_0 t249 from by repeat (first | (with_reducible first | exact HI0.out | apply IsS61.alloc | apply IsS61.drewN | apply IsS61.drew | apply IsS61.set_1 | refine IsS61.far ?_ NB0_239.out _ | refine IsS61.far ?_ NB0_240.out _ | refine IsS61.far ?_ NB0_250.out _) | exact HI0.out)) (by (with_reducible repeat (first | apply Kd.R_alloc | apply Kd.R_drewN | apply Kd.R_drew)); exact (Kd.R_mono (Kd.R_far (p := ⟨gb250, 5, none⟩) (Kd.R_far (p := ⟨gb250, 4, none⟩) (Kd.R_far (p := ⟨gb250, 3, none⟩) (Kd.R_far (p := ⟨gb250, 2, none⟩) (Kd.R_far (p := ⟨gb250, 1, none⟩) (Kd.R_far (p := ⟨gb250, 0, none⟩) (Kd.R_mono HO_241002.out (fun k_ hk => (⟨hk, hk.2⟩ : _ ∧ k_ ≠ gb250))) (fun _ hk => hk.2) (.int .i64 t243)) (fun _ hk => hk.2) (.int .i64 t244)) (fun _ hk => hk.2) (.int .i64 t245)) (fun _ hk => hk.2) (.int .i64 t246)) (fun _ hk => hk.2) (.int .i64 t247)) (fun _ hk => hk.2) (.int .i64 t248)) (fun _ h_ => h_.1))) (by decide)) hk (fun _ h => h.2)) (fun _ h => h.1)); replace BK239 := zk hk BK239 NB239_0; replace BK240 := zk hk BK240 NB240_0; replace BK250 := za (KeepBut.blk hk (g' := gb250) (o := .cells #[.int .i64 t243, .int .i64 t244, .int .i64 t245, .int .i64 t246, .int .i64 t247, .int .i64 t248] 23 (0, 0)) (by (with_reducible repeat (first | refine blk_drewN ?_ _ | refine blk_drew ?_ | refine blk_alloc ?_ _)); refine blk_put (cs := #[.int .i64 t243, .int .i64 t244, .int .i64 t245, .int .i64 t246, .int .i64 t247, .int .i64 0]) ?_ 5 _ rfl; (with_reducible repeat (first | refine blk_drewN ?_ _ | refine blk_drew ?_ | refine blk_alloc ?_ _)); refine blk_put (cs := #[.int .i64 t243, .int .i64 t244, .int .i64 t245, .int .i64 t246, .int .i64 0, .int .i64 0]) ?_ 4 _ rfl; (with_reducible repeat (first | refine blk_drewN ?_ _ | refine blk_drew ?_ | refine blk_alloc ?_ _)); refine blk_put (cs := #[.int .i64 t243, .int .i64 t244, .int .i64 t245, .int .i64 0, .int .i64 0, .int .i64 0]) ?_ 3 _ rfl; (with_reducible repeat (first | refine blk_drewN ?_ _ | refine blk_drew ?_ | refine blk_alloc ?_ _)); refine blk_put (cs := #[.int .i64 t243, .int .i64 t244, .int .i64 0, .int .i64 0, .int .i64 0, .int .i64 0]) ?_ 2 _ rfl; (with_reducible repeat (first | refine blk_drewN ?_ _ | refine blk_drew ?_ | refine blk_alloc ?_ _)); refine blk_put (cs := #[.int .i64 t243, .int .i64 0, .int .i64 0, .int .i64 0, .int .i64 0, .int .i64 0]) ?_ 1 _ rfl; (with_reducible repeat (first | refine blk_drewN ?_ _ | refine blk_drew ?_ | refine blk_alloc ?_ _)); refine blk_put (cs := #[.int .i64 0, .int .i64 0, .int .i64 0, .int .i64 0, .int .i64 0, .int .i64 0]) ?_ 0 _ rfl; (with_reducible repeat (first | refine blk_drewN ?_ _ | refine blk_drew ?_ | refine blk_alloc ?_ _)); exact BK250.out) NB250_0.out (by simp)); replace HK := zt HK hk; replace HB := za (hb); replace HI0 := za (hi); (try clear hb); (try clear hb2); (try clear hk); (try clear hi); have hnb21 := NB250_239.out; have hnc21 := NB239_250.out; have hnb22 := NB250_240.out; have hnc22 := NB240_250.out; have hnb23 := NB250_0.out; have hnc23 := NB0_250.out; obtain ⟨hcz24_0, hcz24_1, hcz24_2, hcz24_3, hcz24_4, hcz24_5, hfz24_0, hfz24_1, hfz24_2, hfz24_3, hfz24_4, hfz24_5⟩ := z6 BK250))
      go_meet
      case rel => exact ⟨_, ((t243 == 1)), (t252), (by first | rfl | (simp; done) | (simp [*]; done)), H', ⟨by have := HK1.out; first | omega | exact Nat.le_refl _⟩, ⟨by (with_reducible repeat (first | apply Kd.R_alloc | apply Kd.R_drewN | apply Kd.R_drew)); exact Kd.R_mono HO_241002.out (fun _ hk => hk.2)⟩, ⟨by (with_reducible repeat (first | refine blk_drewN ?_ _ | refine blk_drew ?_ | refine blk_alloc ?_ _)); exact BK239.out⟩, ⟨by (with_reducible repeat (first | refine blk_drewN ?_ _ | refine blk_drew ?_ | refine blk_alloc ?_ _)); exact BK240.out⟩, ⟨by (with_reducible repeat (first | refine blk_drewN ?_ _ | refine blk_drew ?_ | refine blk_alloc ?_ _)); exact BK250.out⟩, ⟨by repeat (first | (with_reducible first | exact HI0.out | apply IsS61.alloc | apply IsS61.drewN | apply IsS61.drew | apply IsS61.set_1 | refine IsS61.far ?_ NB0_239.out _ | refine IsS61.far ?_ NB0_240.out _ | refine IsS61.far ?_ NB0_250.out _) | exact HI0.out)⟩, ⟨by repeat (first | (with_reducible first | exact HK.out | apply KeepBut.set_ | apply keep_drewN | apply keep_drew | apply keep_alloc | refine keep_far ?_ GW239.out _ | refine keep_far ?_ GW240.out _ | refine keep_far ?_ GW250.out _) | exact HK.out)⟩, ⟨zm HB⟩⟩
     ·rw [if_neg c19] at H
      have c19b0 : (t251 == 0) = false := beq_eq_false_iff_ne.mpr c19
      have c19b1 : (t251 != 0) = true := bne_iff_ne.mpr c19
      (first | rw [c19b0] | (simp only [i64_w, i32_w]; rw [c19b0]) | skip)
      have H' := za H
      clear H
      go_wp2_with (first | ((with_reducible refine gate_callee (f := 21) rfl ?_); refine zL (some 16) Try.func21 #[.pointer (some ⟨g, 0, none⟩), .int .i64 2] ?_; (with_reducible refine (awardingbodymake_Tape_Next.calls g s0_0 t249 2 t251 t252 w0 _ ?side1 ?side2 A18.out).mono ?_); (case side1 => repeat (first | (with_reducible first | exact HI0.out | apply IsS61.alloc | apply IsS61.drewN | apply IsS61.drew | apply IsS61.set_1 | refine IsS61.far ?_ NB0_239.out _ | refine IsS61.far ?_ NB0_240.out _ | refine IsS61.far ?_ NB0_250.out _) | exact HI0.out)); (case side2 => repeat (first | (with_reducible first | exact HB.out | apply below_alloc | apply pw_below_drewN | apply below_drew1 | refine below_set ?_ (IsS61.ge HI0.out) | refine below_set ?_ GE239.out | refine below_set ?_ GE240.out | refine below_set ?_ GE250.out) | exact HB.out)); rintro e w25 ⟨rfl, hi, hb, hk⟩; refine ⟨_, rfl, ?_⟩; replace HO_241002 := za (Kd.R_mono (Kd.R_keep (IsS61.apart (show IsS61 w0 _ g s0_0 t249 from by repeat (first | (with_reducible first | exact HI0.out | apply IsS61.alloc | apply IsS61.drewN | apply IsS61.drew | apply IsS61.set_1 | refine IsS61.far ?_ NB0_239.out _ | refine IsS61.far ?_ NB0_240.out _ | refine IsS61.far ?_ NB0_250.out _) | exact HI0.out)) (by (with_reducible repeat (first | apply Kd.R_alloc | apply Kd.R_drewN | apply Kd.R_drew)); exact (Kd.R_mono (Kd.R_far (p := ⟨gb250, 5, none⟩) (Kd.R_far (p := ⟨gb250, 4, none⟩) (Kd.R_far (p := ⟨gb250, 3, none⟩) (Kd.R_far (p := ⟨gb250, 2, none⟩) (Kd.R_far (p := ⟨gb250, 1, none⟩) (Kd.R_far (p := ⟨gb250, 0, none⟩) (Kd.R_mono HO_241002.out (fun k_ hk => (⟨hk, hk.2⟩ : _ ∧ k_ ≠ gb250))) (fun _ hk => hk.2) (.int .i64 t243)) (fun _ hk => hk.2) (.int .i64 t244)) (fun _ hk => hk.2) (.int .i64 t245)) (fun _ hk => hk.2) (.int .i64 t246)) (fun _ hk => hk.2) (.int .i64 t247)) (fun _ hk => hk.2) (.int .i64 t248)) (fun _ h_ => h_.1))) (by decide)) hk (fun _ h => h.2)) (fun _ h => h.1)); replace BK239 := zk hk BK239 NB239_0; replace BK240 := zk hk BK240 NB240_0; replace BK250 := za (KeepBut.blk hk (g' := gb250) (o := .cells #[.int .i64 t243, .int .i64 t244, .int .i64 t245, .int .i64 t246, .int .i64 t247, .int .i64 t248] 23 (0, 0)) (by (with_reducible repeat (first | refine blk_drewN ?_ _ | refine blk_drew ?_ | refine blk_alloc ?_ _)); refine blk_put (cs := #[.int .i64 t243, .int .i64 t244, .int .i64 t245, .int .i64 t246, .int .i64 t247, .int .i64 0]) ?_ 5 _ rfl; (with_reducible repeat (first | refine blk_drewN ?_ _ | refine blk_drew ?_ | refine blk_alloc ?_ _)); refine blk_put (cs := #[.int .i64 t243, .int .i64 t244, .int .i64 t245, .int .i64 t246, .int .i64 0, .int .i64 0]) ?_ 4 _ rfl; (with_reducible repeat (first | refine blk_drewN ?_ _ | refine blk_drew ?_ | refine blk_alloc ?_ _)); refine blk_put (cs := #[.int .i64 t243, .int .i64 t244, .int .i64 t245, .int .i64 0, .int .i64 0, .int .i64 0]) ?_ 3 _ rfl; (with_reducible repeat (first | refine blk_drewN ?_ _ | refine blk_drew ?_ | refine blk_alloc ?_ _)); refine blk_put (cs := #[.int .i64 t243, .int .i64 t244, .int .i64 0, .int .i64 0, .int .i64 0, .int .i64 0]) ?_ 2 _ rfl; (with_reducible repeat (first | refine blk_drewN ?_ _ | refine blk_drew ?_ | refine blk_alloc ?_ _)); refine blk_put (cs := #[.int .i64 t243, .int .i64 0, .int .i64 0, .int .i64 0, .int .i64 0, .int .i64 0]) ?_ 1 _ rfl; (with_reducible repeat (first | refine blk_drewN ?_ _ | refine blk_drew ?_ | refine blk_alloc ?_ _)); refine blk_put (cs := #[.int .i64 0, .int .i64 0, .int .i64 0, .int .i64 0, .int .i64 0, .int .i64 0]) ?_ 0 _ rfl; (with_reducible repeat (first | refine blk_drewN ?_ _ | refine blk_drew ?_ | refine blk_alloc ?_ _)); exact BK250.out) NB250_0.out (by simp)); replace HK := zt HK hk; replace HB := za (hb); replace HI0 := za (hi); (try clear hb); (try clear hb2); (try clear hk); (try clear hi)))
      go_meet
      case rel => exact ⟨_, (false), (t252), (by first | rfl | (simp; done) | (simp [*]; done)), H', ⟨by have := HK1.out; first | omega | exact Nat.le_refl _⟩, ⟨by (with_reducible repeat (first | apply Kd.R_alloc | apply Kd.R_drewN | apply Kd.R_drew)); exact Kd.R_mono HO_241002.out (fun _ hk => hk.2)⟩, ⟨by (with_reducible repeat (first | refine blk_drewN ?_ _ | refine blk_drew ?_ | refine blk_alloc ?_ _)); exact BK239.out⟩, ⟨by (with_reducible repeat (first | refine blk_drewN ?_ _ | refine blk_drew ?_ | refine blk_alloc ?_ _)); exact BK240.out⟩, ⟨by (with_reducible repeat (first | refine blk_drewN ?_ _ | refine blk_drew ?_ | refine blk_alloc ?_ _)); exact BK250.out⟩, ⟨by repeat (first | (with_reducible first | exact HI0.out | apply IsS61.alloc | apply IsS61.drewN | apply IsS61.drew | apply IsS61.set_1 | refine IsS61.far ?_ NB0_239.out _ | refine IsS61.far ?_ NB0_240.out _ | refine IsS61.far ?_ NB0_250.out _) | exact HI0.out)⟩, ⟨by repeat (first | (with_reducible first | exact HK.out | apply KeepBut.set_ | apply keep_drewN | apply keep_drew | apply keep_alloc | refine keep_far ?_ GW239.out _ | refine keep_far ?_ GW240.out _ | refine keep_far ?_ GW250.out _) | exact HK.out)⟩, ⟨zm HB⟩⟩
    case rest =>
     clear HC11
     try clear c1
     try clear c2
     try clear p2
     try clear c3
     try clear c5
     try clear c6
     try clear c9
     try clear c9b0
     try clear c14
     try clear c15
     try clear c16
     try clear c17
     try clear c19
     try clear c19b0
     try clear c19b1
     try clear c21
     try clear c22
     try clear c23
     try clear hcz17_0
     try clear hcz17_1
     try clear hcz17_2
     try clear hcz17_3
     try clear hcz17_4
     try clear hcz17_5
     try clear hcz24_0
     try clear hcz24_1
     try clear hcz24_2
     try clear hcz24_3
     try clear hcz24_4
     try clear hcz24_5
     try clear hcz7_0
     try clear hcz7_1
     try clear hcz7_2
     try clear hfz17_0
     try clear hfz17_1
     try clear hfz17_2
     try clear hfz17_3
     try clear hfz17_4
     try clear hfz17_5
     try clear hfz24_0
     try clear hfz24_1
     try clear hfz24_2
     try clear hfz24_3
     try clear hfz24_4
     try clear hfz24_5
     try clear hfz7_0
     try clear hfz7_1
     try clear hfz7_2
     try clear p2
     obtain ⟨kq, x22_10, x1001_10, rfl, HA, HJ10, HO_241002, BK239, BK240, BK250, HI0, HK, HB⟩ := hcut
     cases kq with
     | zero => exact absurd HA.out (by simp [awardingbodymake_Tape_Long.j1])
     | succ kj10 =>
      have H := HA.out
      clear HA
      simp only [awardingbodymake_Tape_Long.j1] at H
      by_cases c26 : x22_10 = true
      ·subst c26
       have H1 : ((awardingbodymake_Tape_Range.f s0_0 x1001_10 1 28).bind fun bt253 => (if x241002_1.length < 2932031007402 then ((some (x241002_1 ++ [(⟨t243, bt253.1, t245, t246, t247, t248⟩ : S23)] : List (S23))).bind fun y255 => ((awardingbodyref06_ValidPaper.f kj10 0 0 y255).bind fun t258 => (if t258 = true then (awardingbodymake_Tape_Long.l0 kj10 (wrap64 (x4_1 - 1)) s0_0 bt253.2 0 0 y255) else (if 0 ≤ (wrap64 ((y255.length : Int) - 1)) then (if (wrap64 ((y255.length : Int) - 1)) ≤ (y255.length : Int) then (awardingbodymake_Tape_Long.l0 kj10 (wrap64 (x4_1 - 1)) s0_0 bt253.2 0 0 (y255.take ((wrap64 ((y255.length : Int) - 1)) : Int).toNat)) else (none)) else (none))))) else (none))) = some (r1, r2, r3, r4) := by rw [if_pos rfl] at H; exact H
       clear H
       have H := H1
       clear H1
       replace H := Option.bind_eq_some_iff.mp H
       obtain ⟨⟨t253, t254⟩, A270, H⟩ := H
       replace H : (if x241002_1.length < 2932031007402 then ((some (x241002_1 ++ [(⟨t243, t253, t245, t246, t247, t248⟩ : S23)] : List (S23))).bind fun y255 => ((awardingbodyref06_ValidPaper.f kj10 0 0 y255).bind fun t258 => (if t258 = true then (awardingbodymake_Tape_Long.l0 kj10 (wrap64 (x4_1 - 1)) s0_0 t254 0 0 y255) else (if 0 ≤ (wrap64 ((y255.length : Int) - 1)) then (if (wrap64 ((y255.length : Int) - 1)) ≤ (y255.length : Int) then (awardingbodymake_Tape_Long.l0 kj10 (wrap64 (x4_1 - 1)) s0_0 t254 0 0 (y255.take ((wrap64 ((y255.length : Int) - 1)) : Int).toNat)) else (none)) else (none))))) else (none)) = some (r1, r2, r3, r4) := H
       have A27 := za A270
       clear A270
       by_cases c28 : x241002_1.length < 2932031007402
       ·rw [if_pos c28] at H
        have LMc28 := za c28
        clear c28
        obtain ⟨y255, hy255⟩ : ∃ y_ : List (S23), y_ = (x241002_1 ++ [(⟨t243, t253, t245, t246, t247, t248⟩ : S23)]) := ⟨_, rfl⟩
        replace H : ((awardingbodyref06_ValidPaper.f kj10 0 0 y255).bind fun t258 => (if t258 = true then (awardingbodymake_Tape_Long.l0 kj10 (wrap64 (x4_1 - 1)) s0_0 t254 0 0 y255) else (if 0 ≤ (wrap64 ((y255.length : Int) - 1)) then (if (wrap64 ((y255.length : Int) - 1)) ≤ (y255.length : Int) then (awardingbodymake_Tape_Long.l0 kj10 (wrap64 (x4_1 - 1)) s0_0 t254 0 0 (y255.take ((wrap64 ((y255.length : Int) - 1)) : Int).toNat)) else (none)) else (none)))) = some (r1, r2, r3, r4) := by first | (rw [hy255]; with_reducible exact H) | (have H2_ := (Option.bind_some _ _).symm.trans H; rw [hy255]; with_reducible exact H2_) | (have H2_ := (Option.bind_some _ _).symm.trans H; with_reducible exact H2_) | with_reducible exact H | (rw [hy255]; exact H) | exact H
        have Ny255 := za hy255
        clear hy255
        replace H := Option.bind_eq_some_iff.mp H
        obtain ⟨t258, A290, H⟩ := H
        replace H : (if t258 = true then (awardingbodymake_Tape_Long.l0 kj10 (wrap64 (x4_1 - 1)) s0_0 t254 0 0 y255) else (if 0 ≤ (wrap64 ((y255.length : Int) - 1)) then (if (wrap64 ((y255.length : Int) - 1)) ≤ (y255.length : Int) then (awardingbodymake_Tape_Long.l0 kj10 (wrap64 (x4_1 - 1)) s0_0 t254 0 0 (y255.take ((wrap64 ((y255.length : Int) - 1)) : Int).toNat)) else (none)) else (none))) = some (r1, r2, r3, r4) := H
        have A29 := za A290
        clear A290
        by_cases c30 : t258 = true
        ·subst c30
         have H1 : (awardingbodymake_Tape_Long.l0 kj10 (wrap64 (x4_1 - 1)) s0_0 t254 0 0 y255) = some (r1, r2, r3, r4) := by rw [if_pos rfl] at H; exact H
         clear H
         have H := H1
         clear H1
         have H' := za H
         clear H
         go_wp2_with (first | ((with_reducible refine gate_callee (f := 34) rfl ?_); refine zL (some 24) Try.func34 #[.pointer (some ⟨g, 0, none⟩), .int .i64 1, .int .i64 28] ?_; (with_reducible refine (awardingbodymake_Tape_Range.calls g s0_0 x1001_10 1 28 t253 t254 w0 _ ?side1 ?side2 A27.out).mono ?_); (case side1 => repeat (first | (with_reducible first | exact HI0.out | apply IsS61.alloc | apply IsS61.drewN | apply IsS61.drew | apply IsS61.set_1 | refine IsS61.far ?_ NB0_239.out _ | refine IsS61.far ?_ NB0_240.out _ | refine IsS61.far ?_ NB0_250.out _) | exact HI0.out)); (case side2 => repeat (first | (with_reducible first | exact HB.out | apply below_alloc | apply pw_below_drewN | apply below_drew1 | refine below_set ?_ (IsS61.ge HI0.out) | refine below_set ?_ GE239.out | refine below_set ?_ GE240.out | refine below_set ?_ GE250.out) | exact HB.out)); rintro e w31 ⟨rfl, hi, hb, hk⟩; refine ⟨_, rfl, ?_⟩; replace HO_241002 := za (Kd.R_mono (Kd.R_keep (IsS61.apart (show IsS61 w0 _ g s0_0 x1001_10 from by repeat (first | (with_reducible first | exact HI0.out | apply IsS61.alloc | apply IsS61.drewN | apply IsS61.drew | apply IsS61.set_1 | refine IsS61.far ?_ NB0_239.out _ | refine IsS61.far ?_ NB0_240.out _ | refine IsS61.far ?_ NB0_250.out _) | exact HI0.out)) (by (with_reducible repeat (first | apply Kd.R_alloc | apply Kd.R_drewN | apply Kd.R_drew)); exact HO_241002.out) (by decide)) hk (fun _ h => h.2)) (fun _ h => h.1)); replace BK239 := zk hk BK239 NB239_0; replace BK240 := zk hk BK240 NB240_0; replace BK250 := zk hk BK250 NB250_0; replace HK := zt HK hk; replace HB := za (hb); replace HI0 := za (hi); (try clear hb); (try clear hb2); (try clear hk); (try clear hi); have hnb32 := NB250_239.out; have hnc32 := NB239_250.out; have hnb33 := NB250_240.out; have hnc33 := NB240_250.out; have hnb34 := NB250_0.out; have hnc34 := NB0_250.out; obtain ⟨hcz35_0, hcz35_1, hcz35_2, hcz35_3, hcz35_4, hcz35_5, hfz35_0, hfz35_1, hfz35_2, hfz35_3, hfz35_4, hfz35_5⟩ := z6 BK250; have hnb36 := NB240_239.out; have hnc36 := NB239_240.out; have hnb37 := NB240_0.out; have hnc37 := NB0_240.out; obtain ⟨hcz38_0, hcz38_1, hcz38_2, hfz38_0, hfz38_1, hfz38_2⟩ := z3 BK240) | ((with_reducible refine gate_builtin (b := .append) (xs := #[.tmp 27, .tmp 29]) rfl ?_); at_builtin; refine Kd.R_append k23 w.heap.size rfl (.tmp 27) (.tmp 29) 31 23 (.agg #[(.int .i64 0), (.int .i64 0), (.int .i64 0), (.int .i64 0), (.int .i64 0), (.int .i64 0)]) 48 rfl Try.underlying31 info23 rfl (by decide) (by omega) u241002 x241002_1 (⟨t243, t253, t245, t246, t247, t248⟩ : S23) [.int .i64 t243, .int .i64 t253, .int .i64 t245, .int .i64 t246, .int .i64 t247, .int .i64 t248] (fun k_ => k_ ≠ gb250) (fun _ => False) rfl (by first | (go_simp; done) | (go_simp; rfl)) ?aP (fun _ hk => hk.elim) ?aF ?aO (Below.refl _ _) ?aS ?aL ?_; (case aP => exact k23_mkM _ _ _ (⟨t243, t253, t245, t246, t247, t248⟩ : S23)); (case aF => exact (fun k_ hk => Kd.freshB (g := gb250) (o := .cells #[.int .i64 t243, .int .i64 t253, .int .i64 t245, .int .i64 t246, .int .i64 t247, .int .i64 t248] 23 (0, 0)) (by (with_reducible repeat (first | refine blk_drewN ?_ _ | refine blk_drew ?_ | refine blk_alloc ?_ _)); refine blk_put (cs := #[.int .i64 t243, .int .i64 t244, .int .i64 t245, .int .i64 t246, .int .i64 t247, .int .i64 t248]) ?_ 1 _ rfl; (with_reducible repeat (first | refine blk_drewN ?_ _ | refine blk_drew ?_ | refine blk_alloc ?_ _)); exact BK250.out) k_ hk)); (case aO => exact (by (with_reducible repeat (first | apply Kd.R_alloc | apply Kd.R_drewN | apply Kd.R_drew)); exact Kd.R_mono (Kd.R_far (p := ⟨gb250, 1, none⟩) (Kd.R_mono HO_241002.out (fun k_ hk => (⟨hk, hk⟩ : _ ∧ k_ ≠ gb250))) (fun _ hk => hk.2) (.int .i64 t253)) (fun _ hk => hk.1))); (case aS => exact (keep_size (w := w) (g := g) (row := none) (by repeat (first | (with_reducible first | exact HK.out | apply KeepBut.set_ | apply keep_drewN | apply keep_drew | apply keep_alloc | refine keep_far ?_ GW239.out _ | refine keep_far ?_ GW240.out _ | refine keep_far ?_ GW250.out _) | exact HK.out)))); (case aL => have := LMc28.out; omega); intro v256 w39 ho hb hg hat; rw [← Ny255.out] at ho; have HO257 := za (ho); replace BK239 := (zw BK239 hg (Kd.R_ne HO_241002.out BK239.out (by decide))); replace BK240 := (zw BK240 hg (Kd.R_ne HO_241002.out BK240.out (by decide))); replace BK250 := za (blk_grown (g := gb250) (o := .cells #[.int .i64 t243, .int .i64 t253, .int .i64 t245, .int .i64 t246, .int .i64 t247, .int .i64 t248] 23 (0, 0)) (by (with_reducible repeat (first | refine blk_drewN ?_ _ | refine blk_drew ?_ | refine blk_alloc ?_ _)); refine blk_put (cs := #[.int .i64 t243, .int .i64 t244, .int .i64 t245, .int .i64 t246, .int .i64 t247, .int .i64 t248]) ?_ 1 _ rfl; (with_reducible repeat (first | refine blk_drewN ?_ _ | refine blk_drew ?_ | refine blk_alloc ?_ _)); exact BK250.out) hg (Kd.R_away HO_241002.out (fun _ hk => hk))); replace HI0 := za (IsS61.grown (show IsS61 w0 _ g s0_0 t254 from by repeat (first | (with_reducible first | exact HI0.out | apply IsS61.alloc | apply IsS61.drewN | apply IsS61.drew | apply IsS61.set_1 | refine IsS61.far ?_ NB0_239.out _ | refine IsS61.far ?_ NB0_240.out _ | refine IsS61.far ?_ NB0_250.out _) | exact HI0.out)) hg (IsS61.own_ne HI0.out HO_241002.out (by decide))); replace HB := za (below_weaken (zm HB) HL.out hb); replace HK := za (KeepBut.trans (by repeat (first | (with_reducible first | exact HK.out | apply KeepBut.set_ | apply keep_drewN | apply keep_drew | apply keep_alloc | refine keep_far ?_ GW239.out _ | refine keep_far ?_ GW240.out _ | refine keep_far ?_ GW250.out _) | exact HK.out)) (KeepBut.of_grown hg g) (Kd.R_base2 HO_241002.out)); clear HO_241002 ho hb hg hat; obtain ⟨Ao40, co40, eo40⟩ := Kd.R_slice HO257.out; subst eo40; obtain ⟨hcz41_0, hcz41_1, hcz41_2, hfz41_0, hfz41_1, hfz41_2⟩ := z3 BK240) | ((with_reducible refine gate_callee (f := 38) rfl ?_); refine zL (some 33) Try.func38 #[.agg #[.int .i64 0, .int .i64 0, .slice Ao40 y255.length co40]] ?_; (with_reducible refine (awardingbodyref06_ValidPaper.calls kj10 0 0 _ _ y255 true _ ?side1 ?side2 A29.out).mono ?_); (case side1 => refine (Kd.R_reads' (e := 23) (base := w.heap.size) (ok := fun k_ => k_ ≠ gb250) (n := y255.length) (c := co40) ?_).2.2; exact (by (with_reducible repeat (first | apply Kd.R_alloc | apply Kd.R_drewN | apply Kd.R_drew)); exact (Kd.R_mono (Kd.R_far (p := ⟨gb240, 2, none⟩) (Kd.R_types HO257.out BK240.out (by decide)) (fun _ hk => hk.2) (.slice Ao40 y255.length co40)) (fun _ h_ => h_.1)))); (case side2 => exact (Kd.R_reads' HO257.out).2.1); rintro e w42 ⟨rfl, hb⟩; refine ⟨_, rfl, ?_⟩; replace HO257 := za (Kd.R_below (by (with_reducible repeat (first | apply Kd.R_alloc | apply Kd.R_drewN | apply Kd.R_drew)); exact (Kd.R_mono (Kd.R_far (p := ⟨gb240, 2, none⟩) (Kd.R_types HO257.out BK240.out (by decide)) (fun _ hk => hk.2) (.slice Ao40 y255.length co40)) (fun _ h_ => h_.1))) hb); replace BK239 := zb BK239 hb; replace BK240 := za (blk_below (g := gb240) (o := .cells #[.int .i64 0, .int .i64 0, .slice Ao40 y255.length co40] 33 (0, 0)) (by (with_reducible repeat (first | refine blk_drewN ?_ _ | refine blk_drew ?_ | refine blk_alloc ?_ _)); refine blk_put (cs := #[.int .i64 0, .int .i64 0, u241002]) ?_ 2 _ rfl; (with_reducible repeat (first | refine blk_drewN ?_ _ | refine blk_drew ?_ | refine blk_alloc ?_ _)); exact BK240.out) hb); replace BK250 := zb BK250 hb; replace HI0 := za (IsS61.below (show IsS61 w0 (w39.setCell ⟨gb240, 2, none⟩ (.slice Ao40 y255.length co40)) g s0_0 t254 from by repeat (first | (with_reducible first | exact HI0.out | apply IsS61.alloc | apply IsS61.drewN | apply IsS61.drew | apply IsS61.set_1 | refine IsS61.far ?_ NB0_239.out _ | refine IsS61.far ?_ NB0_240.out _ | refine IsS61.far ?_ NB0_250.out _) | exact HI0.out)) hb); replace HK := zu HK hb; replace HB := zs HB hb; (try clear hb); (try clear hb2); (try clear hk); (try clear hi)))
         go_roundg kj10
         case measure => have := HK1.out; have := HJ10.out; omega
         case rel => exact ⟨(wrap64 (x4_1 - 1)), (t254), (y255), (.slice Ao40 y255.length co40), (by first | rfl | (simp; done) | (simp [*]; done)), H', ⟨by have := HK1.out; have := HJ10.out; omega⟩, ⟨by (with_reducible repeat (first | apply Kd.R_alloc | apply Kd.R_drewN | apply Kd.R_drew)); exact Kd.R_mono HO257.out (fun _ hk => trivial)⟩, ⟨by (with_reducible repeat (first | refine blk_drewN ?_ _ | refine blk_drew ?_ | refine blk_alloc ?_ _)); exact BK239.out⟩, ⟨by (with_reducible repeat (first | refine blk_drewN ?_ _ | refine blk_drew ?_ | refine blk_alloc ?_ _)); exact BK240.out⟩, ⟨by repeat (first | (with_reducible first | exact HI0.out | apply IsS61.alloc | apply IsS61.drewN | apply IsS61.drew | apply IsS61.set_1 | refine IsS61.far ?_ NB0_239.out _ | refine IsS61.far ?_ NB0_240.out _ | refine IsS61.far ?_ NB0_250.out _) | exact HI0.out)⟩, ⟨by repeat (first | (with_reducible first | exact HK.out | apply KeepBut.set_ | apply keep_drewN | apply keep_drew | apply keep_alloc | refine keep_far ?_ GW239.out _ | refine keep_far ?_ GW240.out _ | refine keep_far ?_ GW250.out _) | exact HK.out)⟩, ⟨zm HB⟩⟩
        ·replace c30 := Bool.eq_false_iff.mpr c30
         subst c30
         have H1 : (if 0 ≤ (wrap64 ((y255.length : Int) - 1)) then (if (wrap64 ((y255.length : Int) - 1)) ≤ (y255.length : Int) then (awardingbodymake_Tape_Long.l0 kj10 (wrap64 (x4_1 - 1)) s0_0 t254 0 0 (y255.take ((wrap64 ((y255.length : Int) - 1)) : Int).toNat)) else (none)) else (none)) = some (r1, r2, r3, r4) := by rw [if_neg (show ¬ (false = true) by decide)] at H; exact H
         clear H
         have H := H1
         clear H1
         obtain ⟨ji43, hji43⟩ : ∃ j_ : Int, (wrap64 ((y255.length : Int) - 1)) = j_ := ⟨_, rfl⟩
         replace H : (if 0 ≤ (ji43) then (if (ji43) ≤ (y255.length : Int) then (awardingbodymake_Tape_Long.l0 kj10 (wrap64 (x4_1 - 1)) s0_0 t254 0 0 (y255.take ((ji43) : Int).toNat)) else (none)) else (none)) = some (r1, r2, r3, r4) := by first | (rw [hji43] at H; exact H) | (simp only [hji43] at H ⊢; exact H)
         (try rw [hji43] at A27)
         (try rw [hji43] at A29)
         have hji43w : (IntKind.i64.wrap ((y255.length : Int) - 1)) = ji43 := (i64_w _).trans hji43
         by_cases c44 : 0 ≤ (ji43)
         ·rw [if_pos c44] at H
          have c44b0 := eq_true c44
          have c44b1 : decide (0 ≤ (ji43)) = true := decide_eq_true c44
          clear c44
          by_cases c45 : (ji43) ≤ (y255.length : Int)
          ·rw [if_pos c45] at H
           have c45b0 := eq_true c45
           have c45b1 : decide ((ji43) ≤ (y255.length : Int)) = true := decide_eq_true c45
           clear c45
           obtain ⟨y259, hy259⟩ : ∃ y_ : List (S23), y_ = (y255.take ((ji43) : Int).toNat) := ⟨_, rfl⟩
           replace H : (awardingbodymake_Tape_Long.l0 kj10 (wrap64 (x4_1 - 1)) s0_0 t254 0 0 y259) = some (r1, r2, r3, r4) := by first | (rw [hy259]; with_reducible exact H) | (have H2_ := (Option.bind_some _ _).symm.trans H; rw [hy259]; with_reducible exact H2_) | (have H2_ := (Option.bind_some _ _).symm.trans H; with_reducible exact H2_) | with_reducible exact H | (rw [hy259]; exact H) | exact H
           have Ny259 := za hy259
           clear hy259
           have H' := za H
           clear H
           go_wp2_with (first | ((with_reducible refine gate_callee (f := 34) rfl ?_); refine zL (some 24) Try.func34 #[.pointer (some ⟨g, 0, none⟩), .int .i64 1, .int .i64 28] ?_; (with_reducible refine (awardingbodymake_Tape_Range.calls g s0_0 x1001_10 1 28 t253 t254 w0 _ ?side1 ?side2 A27.out).mono ?_); (case side1 => repeat (first | (with_reducible first | exact HI0.out | apply IsS61.alloc | apply IsS61.drewN | apply IsS61.drew | apply IsS61.set_1 | refine IsS61.far ?_ NB0_239.out _ | refine IsS61.far ?_ NB0_240.out _ | refine IsS61.far ?_ NB0_250.out _) | exact HI0.out)); (case side2 => repeat (first | (with_reducible first | exact HB.out | apply below_alloc | apply pw_below_drewN | apply below_drew1 | refine below_set ?_ (IsS61.ge HI0.out) | refine below_set ?_ GE239.out | refine below_set ?_ GE240.out | refine below_set ?_ GE250.out) | exact HB.out)); rintro e w46 ⟨rfl, hi, hb, hk⟩; refine ⟨_, rfl, ?_⟩; replace HO_241002 := za (Kd.R_mono (Kd.R_keep (IsS61.apart (show IsS61 w0 _ g s0_0 x1001_10 from by repeat (first | (with_reducible first | exact HI0.out | apply IsS61.alloc | apply IsS61.drewN | apply IsS61.drew | apply IsS61.set_1 | refine IsS61.far ?_ NB0_239.out _ | refine IsS61.far ?_ NB0_240.out _ | refine IsS61.far ?_ NB0_250.out _) | exact HI0.out)) (by (with_reducible repeat (first | apply Kd.R_alloc | apply Kd.R_drewN | apply Kd.R_drew)); exact HO_241002.out) (by decide)) hk (fun _ h => h.2)) (fun _ h => h.1)); replace BK239 := zk hk BK239 NB239_0; replace BK240 := zk hk BK240 NB240_0; replace BK250 := zk hk BK250 NB250_0; replace HK := zt HK hk; replace HB := za (hb); replace HI0 := za (hi); (try clear hb); (try clear hb2); (try clear hk); (try clear hi); have hnb47 := NB250_239.out; have hnc47 := NB239_250.out; have hnb48 := NB250_240.out; have hnc48 := NB240_250.out; have hnb49 := NB250_0.out; have hnc49 := NB0_250.out; obtain ⟨hcz50_0, hcz50_1, hcz50_2, hcz50_3, hcz50_4, hcz50_5, hfz50_0, hfz50_1, hfz50_2, hfz50_3, hfz50_4, hfz50_5⟩ := z6 BK250; have hnb51 := NB240_239.out; have hnc51 := NB239_240.out; have hnb52 := NB240_0.out; have hnc52 := NB0_240.out; obtain ⟨hcz53_0, hcz53_1, hcz53_2, hfz53_0, hfz53_1, hfz53_2⟩ := z3 BK240) | ((with_reducible refine gate_builtin (b := .append) (xs := #[.tmp 27, .tmp 29]) rfl ?_); at_builtin; refine Kd.R_append k23 w.heap.size rfl (.tmp 27) (.tmp 29) 31 23 (.agg #[(.int .i64 0), (.int .i64 0), (.int .i64 0), (.int .i64 0), (.int .i64 0), (.int .i64 0)]) 48 rfl Try.underlying31 info23 rfl (by decide) (by omega) u241002 x241002_1 (⟨t243, t253, t245, t246, t247, t248⟩ : S23) [.int .i64 t243, .int .i64 t253, .int .i64 t245, .int .i64 t246, .int .i64 t247, .int .i64 t248] (fun k_ => k_ ≠ gb250) (fun _ => False) rfl (by first | (go_simp; done) | (go_simp; rfl)) ?aP (fun _ hk => hk.elim) ?aF ?aO (Below.refl _ _) ?aS ?aL ?_; (case aP => exact k23_mkM _ _ _ (⟨t243, t253, t245, t246, t247, t248⟩ : S23)); (case aF => exact (fun k_ hk => Kd.freshB (g := gb250) (o := .cells #[.int .i64 t243, .int .i64 t253, .int .i64 t245, .int .i64 t246, .int .i64 t247, .int .i64 t248] 23 (0, 0)) (by (with_reducible repeat (first | refine blk_drewN ?_ _ | refine blk_drew ?_ | refine blk_alloc ?_ _)); refine blk_put (cs := #[.int .i64 t243, .int .i64 t244, .int .i64 t245, .int .i64 t246, .int .i64 t247, .int .i64 t248]) ?_ 1 _ rfl; (with_reducible repeat (first | refine blk_drewN ?_ _ | refine blk_drew ?_ | refine blk_alloc ?_ _)); exact BK250.out) k_ hk)); (case aO => exact (by (with_reducible repeat (first | apply Kd.R_alloc | apply Kd.R_drewN | apply Kd.R_drew)); exact Kd.R_mono (Kd.R_far (p := ⟨gb250, 1, none⟩) (Kd.R_mono HO_241002.out (fun k_ hk => (⟨hk, hk⟩ : _ ∧ k_ ≠ gb250))) (fun _ hk => hk.2) (.int .i64 t253)) (fun _ hk => hk.1))); (case aS => exact (keep_size (w := w) (g := g) (row := none) (by repeat (first | (with_reducible first | exact HK.out | apply KeepBut.set_ | apply keep_drewN | apply keep_drew | apply keep_alloc | refine keep_far ?_ GW239.out _ | refine keep_far ?_ GW240.out _ | refine keep_far ?_ GW250.out _) | exact HK.out)))); (case aL => have := LMc28.out; omega); intro v256 w54 ho hb hg hat; rw [← Ny255.out] at ho; have HO257 := za (ho); replace BK239 := (zw BK239 hg (Kd.R_ne HO_241002.out BK239.out (by decide))); replace BK240 := (zw BK240 hg (Kd.R_ne HO_241002.out BK240.out (by decide))); replace BK250 := za (blk_grown (g := gb250) (o := .cells #[.int .i64 t243, .int .i64 t253, .int .i64 t245, .int .i64 t246, .int .i64 t247, .int .i64 t248] 23 (0, 0)) (by (with_reducible repeat (first | refine blk_drewN ?_ _ | refine blk_drew ?_ | refine blk_alloc ?_ _)); refine blk_put (cs := #[.int .i64 t243, .int .i64 t244, .int .i64 t245, .int .i64 t246, .int .i64 t247, .int .i64 t248]) ?_ 1 _ rfl; (with_reducible repeat (first | refine blk_drewN ?_ _ | refine blk_drew ?_ | refine blk_alloc ?_ _)); exact BK250.out) hg (Kd.R_away HO_241002.out (fun _ hk => hk))); replace HI0 := za (IsS61.grown (show IsS61 w0 _ g s0_0 t254 from by repeat (first | (with_reducible first | exact HI0.out | apply IsS61.alloc | apply IsS61.drewN | apply IsS61.drew | apply IsS61.set_1 | refine IsS61.far ?_ NB0_239.out _ | refine IsS61.far ?_ NB0_240.out _ | refine IsS61.far ?_ NB0_250.out _) | exact HI0.out)) hg (IsS61.own_ne HI0.out HO_241002.out (by decide))); replace HB := za (below_weaken (zm HB) HL.out hb); replace HK := za (KeepBut.trans (by repeat (first | (with_reducible first | exact HK.out | apply KeepBut.set_ | apply keep_drewN | apply keep_drew | apply keep_alloc | refine keep_far ?_ GW239.out _ | refine keep_far ?_ GW240.out _ | refine keep_far ?_ GW250.out _) | exact HK.out)) (KeepBut.of_grown hg g) (Kd.R_base2 HO_241002.out)); clear HO_241002 ho hb hg hat; obtain ⟨Ao55, co55, eo55⟩ := Kd.R_slice HO257.out; subst eo55; obtain ⟨hcz56_0, hcz56_1, hcz56_2, hfz56_0, hfz56_1, hfz56_2⟩ := z3 BK240) | ((with_reducible refine gate_callee (f := 38) rfl ?_); refine zL (some 33) Try.func38 #[.agg #[.int .i64 0, .int .i64 0, .slice Ao55 y255.length co55]] ?_; (with_reducible refine (awardingbodyref06_ValidPaper.calls kj10 0 0 _ _ y255 false _ ?side1 ?side2 A29.out).mono ?_); (case side1 => refine (Kd.R_reads' (e := 23) (base := w.heap.size) (ok := fun k_ => k_ ≠ gb250) (n := y255.length) (c := co55) ?_).2.2; exact (by (with_reducible repeat (first | apply Kd.R_alloc | apply Kd.R_drewN | apply Kd.R_drew)); exact (Kd.R_mono (Kd.R_far (p := ⟨gb240, 2, none⟩) (Kd.R_types HO257.out BK240.out (by decide)) (fun _ hk => hk.2) (.slice Ao55 y255.length co55)) (fun _ h_ => h_.1)))); (case side2 => exact (Kd.R_reads' HO257.out).2.1); rintro e w57 ⟨rfl, hb⟩; refine ⟨_, rfl, ?_⟩; replace HO257 := za (Kd.R_below (by (with_reducible repeat (first | apply Kd.R_alloc | apply Kd.R_drewN | apply Kd.R_drew)); exact (Kd.R_mono (Kd.R_far (p := ⟨gb240, 2, none⟩) (Kd.R_types HO257.out BK240.out (by decide)) (fun _ hk => hk.2) (.slice Ao55 y255.length co55)) (fun _ h_ => h_.1))) hb); replace BK239 := zb BK239 hb; replace BK240 := za (blk_below (g := gb240) (o := .cells #[.int .i64 0, .int .i64 0, .slice Ao55 y255.length co55] 33 (0, 0)) (by (with_reducible repeat (first | refine blk_drewN ?_ _ | refine blk_drew ?_ | refine blk_alloc ?_ _)); refine blk_put (cs := #[.int .i64 0, .int .i64 0, u241002]) ?_ 2 _ rfl; (with_reducible repeat (first | refine blk_drewN ?_ _ | refine blk_drew ?_ | refine blk_alloc ?_ _)); exact BK240.out) hb); replace BK250 := zb BK250 hb; replace HI0 := za (IsS61.below (show IsS61 w0 (w54.setCell ⟨gb240, 2, none⟩ (.slice Ao55 y255.length co55)) g s0_0 t254 from by repeat (first | (with_reducible first | exact HI0.out | apply IsS61.alloc | apply IsS61.drewN | apply IsS61.drew | apply IsS61.set_1 | refine IsS61.far ?_ NB0_239.out _ | refine IsS61.far ?_ NB0_240.out _ | refine IsS61.far ?_ NB0_250.out _) | exact HI0.out)) hb); replace HK := zu HK hb; replace HB := zs HB hb; (try clear hb); (try clear hb2); (try clear hk); (try clear hi); obtain ⟨hcz58_0, hcz58_1, hcz58_2, hfz58_0, hfz58_1, hfz58_2⟩ := z3 BK240; have q59 : ((ji43) : Int) ≤ ((y255.length : Int) : Int) := of_decide_eq_true (by first | (with_reducible assumption) | assumption); obtain ⟨i059, hi059, _, hsz59, _⟩ := info_parts info23; have hcut59 := cut_to (P := Try.prog) 31 23 .i64 Try.underlying31 hi059 Ao55 y255.length co55 (ji43) (of_decide_eq_true (by first | (with_reducible assumption) | assumption)) q59 (Kd.R_reads' HO257.out).2.1; have hr59 := Kd.R_take (m := ((ji43) : Int).toNat) HO257.out (by omega); have hy59 : y259.length = ((ji43) : Int).toNat := (by rw [Ny259.out, List.length_take]; omega); rw [← Ny259.out] at hr59; rw [← hy59] at hr59 hcut59; clear hy59 hi059 hsz59 HO257; have HO261 := za hr59; clear hr59; replace q59 := eq_true q59))
           go_roundg kj10
           case measure => have := HK1.out; have := HJ10.out; omega
           case rel => exact ⟨(wrap64 (x4_1 - 1)), (t254), (y259), (.slice Ao55 y259.length co55), (by first | rfl | (simp; done) | (simp [*]; done)), H', ⟨by have := HK1.out; have := HJ10.out; omega⟩, ⟨by (with_reducible repeat (first | apply Kd.R_alloc | apply Kd.R_drewN | apply Kd.R_drew)); exact Kd.R_mono (Kd.R_far (p := ⟨gb240, 2, none⟩) (Kd.R_types HO261.out BK240.out (by decide)) (fun _ hk => hk.2) (.slice Ao55 y259.length co55)) (fun _ hk => trivial)⟩, ⟨by (with_reducible repeat (first | refine blk_drewN ?_ _ | refine blk_drew ?_ | refine blk_alloc ?_ _)); refine blk_far ?_ NB239_240.out _; (with_reducible repeat (first | refine blk_drewN ?_ _ | refine blk_drew ?_ | refine blk_alloc ?_ _)); exact BK239.out⟩, ⟨by (with_reducible repeat (first | refine blk_drewN ?_ _ | refine blk_drew ?_ | refine blk_alloc ?_ _)); refine blk_put (cs := #[.int .i64 0, .int .i64 0, .slice Ao55 y255.length co55]) ?_ 2 _ rfl; (with_reducible repeat (first | refine blk_drewN ?_ _ | refine blk_drew ?_ | refine blk_alloc ?_ _)); exact BK240.out⟩, ⟨by repeat (first | (with_reducible first | exact HI0.out | apply IsS61.alloc | apply IsS61.drewN | apply IsS61.drew | apply IsS61.set_1 | refine IsS61.far ?_ NB0_239.out _ | refine IsS61.far ?_ NB0_240.out _ | refine IsS61.far ?_ NB0_250.out _) | exact HI0.out)⟩, ⟨by repeat (first | (with_reducible first | exact HK.out | apply KeepBut.set_ | apply keep_drewN | apply keep_drew | apply keep_alloc | refine keep_far ?_ GW239.out _ | refine keep_far ?_ GW240.out _ | refine keep_far ?_ GW250.out _) | exact HK.out)⟩, ⟨zm HB⟩⟩
          ·rw [if_neg c45] at H
           exact absurd H (by simp)
         ·rw [if_neg c44] at H
          exact absurd H (by simp)
       ·rw [if_neg c28] at H
        exact absurd H (by simp)
      ·replace c26 := Bool.eq_false_iff.mpr c26
       subst c26
       have H1 : (if x241002_1.length < 2932031007402 then ((some (x241002_1 ++ [(⟨t243, t244, t245, t246, t247, t248⟩ : S23)] : List (S23))).bind fun y262 => ((awardingbodyref06_ValidPaper.f kj10 0 0 y262).bind fun t265 => (if t265 = true then (awardingbodymake_Tape_Long.l0 kj10 (wrap64 (x4_1 - 1)) s0_0 x1001_10 0 0 y262) else (if 0 ≤ (wrap64 ((y262.length : Int) - 1)) then (if (wrap64 ((y262.length : Int) - 1)) ≤ (y262.length : Int) then (awardingbodymake_Tape_Long.l0 kj10 (wrap64 (x4_1 - 1)) s0_0 x1001_10 0 0 (y262.take ((wrap64 ((y262.length : Int) - 1)) : Int).toNat)) else (none)) else (none))))) else (none)) = some (r1, r2, r3, r4) := by rw [if_neg (show ¬ (false = true) by decide)] at H; exact H
       clear H
       have H := H1
       clear H1
       by_cases c60 : x241002_1.length < 2932031007402
       ·rw [if_pos c60] at H
        have LMc60 := za c60
        clear c60
        obtain ⟨y262, hy262⟩ : ∃ y_ : List (S23), y_ = (x241002_1 ++ [(⟨t243, t244, t245, t246, t247, t248⟩ : S23)]) := ⟨_, rfl⟩
        replace H : ((awardingbodyref06_ValidPaper.f kj10 0 0 y262).bind fun t265 => (if t265 = true then (awardingbodymake_Tape_Long.l0 kj10 (wrap64 (x4_1 - 1)) s0_0 x1001_10 0 0 y262) else (if 0 ≤ (wrap64 ((y262.length : Int) - 1)) then (if (wrap64 ((y262.length : Int) - 1)) ≤ (y262.length : Int) then (awardingbodymake_Tape_Long.l0 kj10 (wrap64 (x4_1 - 1)) s0_0 x1001_10 0 0 (y262.take ((wrap64 ((y262.length : Int) - 1)) : Int).toNat)) else (none)) else (none)))) = some (r1, r2, r3, r4) := by first | (rw [hy262]; with_reducible exact H) | (have H2_ := (Option.bind_some _ _).symm.trans H; rw [hy262]; with_reducible exact H2_) | (have H2_ := (Option.bind_some _ _).symm.trans H; with_reducible exact H2_) | with_reducible exact H | (rw [hy262]; exact H) | exact H
        have Ny262 := za hy262
        clear hy262
        replace H := Option.bind_eq_some_iff.mp H
        obtain ⟨t265, A610, H⟩ := H
        replace H : (if t265 = true then (awardingbodymake_Tape_Long.l0 kj10 (wrap64 (x4_1 - 1)) s0_0 x1001_10 0 0 y262) else (if 0 ≤ (wrap64 ((y262.length : Int) - 1)) then (if (wrap64 ((y262.length : Int) - 1)) ≤ (y262.length : Int) then (awardingbodymake_Tape_Long.l0 kj10 (wrap64 (x4_1 - 1)) s0_0 x1001_10 0 0 (y262.take ((wrap64 ((y262.length : Int) - 1)) : Int).toNat)) else (none)) else (none))) = some (r1, r2, r3, r4) := H
        have A61 := za A610
        clear A610
        by_cases c62 : t265 = true
        ·subst c62
         have H1 : (awardingbodymake_Tape_Long.l0 kj10 (wrap64 (x4_1 - 1)) s0_0 x1001_10 0 0 y262) = some (r1, r2, r3, r4) := by rw [if_pos rfl] at H; exact H
         clear H
         have H := H1
         clear H1
         have H' := za H
         clear H
         have hnb63 := NB240_239.out
         have hnc63 := NB239_240.out
         have hnb64 := NB240_250.out
         have hnc64 := NB250_240.out
         have hnb65 := NB240_0.out
         have hnc65 := NB0_240.out
         obtain ⟨hcz66_0, hcz66_1, hcz66_2, hfz66_0, hfz66_1, hfz66_2⟩ := z3 BK240
         have hnb67 := NB250_239.out
         have hnc67 := NB239_250.out
         have hnb68 := NB250_0.out
         have hnc68 := NB0_250.out
         obtain ⟨hcz69_0, hcz69_1, hcz69_2, hcz69_3, hcz69_4, hcz69_5, hfz69_0, hfz69_1, hfz69_2, hfz69_3, hfz69_4, hfz69_5⟩ := z6 BK250
         go_wp2_with (first | ((with_reducible refine gate_builtin (b := .append) (xs := #[.tmp 27, .tmp 29]) rfl ?_); at_builtin; refine Kd.R_append k23 w.heap.size rfl (.tmp 27) (.tmp 29) 31 23 (.agg #[(.int .i64 0), (.int .i64 0), (.int .i64 0), (.int .i64 0), (.int .i64 0), (.int .i64 0)]) 48 rfl Try.underlying31 info23 rfl (by decide) (by omega) u241002 x241002_1 (⟨t243, t244, t245, t246, t247, t248⟩ : S23) [.int .i64 t243, .int .i64 t244, .int .i64 t245, .int .i64 t246, .int .i64 t247, .int .i64 t248] (fun k_ => k_ ≠ gb250) (fun _ => False) rfl rfl ?aP (fun _ hk => hk.elim) ?aF ?aO (Below.refl _ _) ?aS ?aL ?_; (case aP => exact k23_mkM _ _ _ (⟨t243, t244, t245, t246, t247, t248⟩ : S23)); (case aF => exact (fun k_ hk => Kd.freshB (g := gb250) (o := .cells #[.int .i64 t243, .int .i64 t244, .int .i64 t245, .int .i64 t246, .int .i64 t247, .int .i64 t248] 23 (0, 0)) (by (with_reducible repeat (first | refine blk_drewN ?_ _ | refine blk_drew ?_ | refine blk_alloc ?_ _)); exact BK250.out) k_ hk)); (case aO => exact (by (with_reducible repeat (first | apply Kd.R_alloc | apply Kd.R_drewN | apply Kd.R_drew)); exact HO_241002.out)); (case aS => exact (keep_size (w := w) (g := g) (row := none) (by repeat (first | (with_reducible first | exact HK.out | apply KeepBut.set_ | apply keep_drewN | apply keep_drew | apply keep_alloc | refine keep_far ?_ GW239.out _ | refine keep_far ?_ GW240.out _ | refine keep_far ?_ GW250.out _) | exact HK.out)))); (case aL => have := LMc60.out; omega); intro v263 w70 ho hb hg hat; rw [← Ny262.out] at ho; have HO264 := za (ho); replace BK239 := (zw BK239 hg (Kd.R_ne HO_241002.out BK239.out (by decide))); replace BK240 := (zw BK240 hg (Kd.R_ne HO_241002.out BK240.out (by decide))); replace BK250 := (zw BK250 hg (Kd.R_away HO_241002.out (fun _ hk => hk))); replace HI0 := za (IsS61.grown (by repeat (first | (with_reducible first | exact HI0.out | apply IsS61.alloc | apply IsS61.drewN | apply IsS61.drew | apply IsS61.set_1 | refine IsS61.far ?_ NB0_239.out _ | refine IsS61.far ?_ NB0_240.out _ | refine IsS61.far ?_ NB0_250.out _) | exact HI0.out)) hg (IsS61.own_ne HI0.out HO_241002.out (by decide))); replace HB := za (below_weaken (zm HB) HL.out hb); replace HK := za (KeepBut.trans (by repeat (first | (with_reducible first | exact HK.out | apply KeepBut.set_ | apply keep_drewN | apply keep_drew | apply keep_alloc | refine keep_far ?_ GW239.out _ | refine keep_far ?_ GW240.out _ | refine keep_far ?_ GW250.out _) | exact HK.out)) (KeepBut.of_grown hg g) (Kd.R_base2 HO_241002.out)); clear HO_241002 ho hb hg hat; obtain ⟨Ao71, co71, eo71⟩ := Kd.R_slice HO264.out; subst eo71; obtain ⟨hcz72_0, hcz72_1, hcz72_2, hfz72_0, hfz72_1, hfz72_2⟩ := z3 BK240) | ((with_reducible refine gate_callee (f := 38) rfl ?_); refine zL (some 33) Try.func38 #[.agg #[.int .i64 0, .int .i64 0, .slice Ao71 y262.length co71]] ?_; (with_reducible refine (awardingbodyref06_ValidPaper.calls kj10 0 0 _ _ y262 true _ ?side1 ?side2 A61.out).mono ?_); (case side1 => refine (Kd.R_reads' (e := 23) (base := w.heap.size) (ok := fun k_ => k_ ≠ gb250) (n := y262.length) (c := co71) ?_).2.2; exact (by (with_reducible repeat (first | apply Kd.R_alloc | apply Kd.R_drewN | apply Kd.R_drew)); exact (Kd.R_mono (Kd.R_far (p := ⟨gb240, 2, none⟩) (Kd.R_types HO264.out BK240.out (by decide)) (fun _ hk => hk.2) (.slice Ao71 y262.length co71)) (fun _ h_ => h_.1)))); (case side2 => exact (Kd.R_reads' HO264.out).2.1); rintro e w73 ⟨rfl, hb⟩; refine ⟨_, rfl, ?_⟩; replace HO264 := za (Kd.R_below (by (with_reducible repeat (first | apply Kd.R_alloc | apply Kd.R_drewN | apply Kd.R_drew)); exact (Kd.R_mono (Kd.R_far (p := ⟨gb240, 2, none⟩) (Kd.R_types HO264.out BK240.out (by decide)) (fun _ hk => hk.2) (.slice Ao71 y262.length co71)) (fun _ h_ => h_.1))) hb); replace BK239 := zb BK239 hb; replace BK240 := za (blk_below (g := gb240) (o := .cells #[.int .i64 0, .int .i64 0, .slice Ao71 y262.length co71] 33 (0, 0)) (by (with_reducible repeat (first | refine blk_drewN ?_ _ | refine blk_drew ?_ | refine blk_alloc ?_ _)); refine blk_put (cs := #[.int .i64 0, .int .i64 0, u241002]) ?_ 2 _ rfl; (with_reducible repeat (first | refine blk_drewN ?_ _ | refine blk_drew ?_ | refine blk_alloc ?_ _)); exact BK240.out) hb); replace BK250 := zb BK250 hb; replace HI0 := za (IsS61.below (show IsS61 w0 (w70.setCell ⟨gb240, 2, none⟩ (.slice Ao71 y262.length co71)) g s0_0 x1001_10 from by repeat (first | (with_reducible first | exact HI0.out | apply IsS61.alloc | apply IsS61.drewN | apply IsS61.drew | apply IsS61.set_1 | refine IsS61.far ?_ NB0_239.out _ | refine IsS61.far ?_ NB0_240.out _ | refine IsS61.far ?_ NB0_250.out _) | exact HI0.out)) hb); replace HK := zu HK hb; replace HB := zs HB hb; (try clear hb); (try clear hb2); (try clear hk); (try clear hi)))
         go_roundg kj10
         case measure => have := HK1.out; have := HJ10.out; omega
         case rel => exact ⟨(wrap64 (x4_1 - 1)), (x1001_10), (y262), (.slice Ao71 y262.length co71), (by first | rfl | (simp; done) | (simp [*]; done)), H', ⟨by have := HK1.out; have := HJ10.out; omega⟩, ⟨by (with_reducible repeat (first | apply Kd.R_alloc | apply Kd.R_drewN | apply Kd.R_drew)); exact Kd.R_mono HO264.out (fun _ hk => trivial)⟩, ⟨by (with_reducible repeat (first | refine blk_drewN ?_ _ | refine blk_drew ?_ | refine blk_alloc ?_ _)); exact BK239.out⟩, ⟨by (with_reducible repeat (first | refine blk_drewN ?_ _ | refine blk_drew ?_ | refine blk_alloc ?_ _)); exact BK240.out⟩, ⟨by repeat (first | (with_reducible first | exact HI0.out | apply IsS61.alloc | apply IsS61.drewN | apply IsS61.drew | apply IsS61.set_1 | refine IsS61.far ?_ NB0_239.out _ | refine IsS61.far ?_ NB0_240.out _ | refine IsS61.far ?_ NB0_250.out _) | exact HI0.out)⟩, ⟨by repeat (first | (with_reducible first | exact HK.out | apply KeepBut.set_ | apply keep_drewN | apply keep_drew | apply keep_alloc | refine keep_far ?_ GW239.out _ | refine keep_far ?_ GW240.out _ | refine keep_far ?_ GW250.out _) | exact HK.out)⟩, ⟨zm HB⟩⟩
        ·replace c62 := Bool.eq_false_iff.mpr c62
         subst c62
         have H1 : (if 0 ≤ (wrap64 ((y262.length : Int) - 1)) then (if (wrap64 ((y262.length : Int) - 1)) ≤ (y262.length : Int) then (awardingbodymake_Tape_Long.l0 kj10 (wrap64 (x4_1 - 1)) s0_0 x1001_10 0 0 (y262.take ((wrap64 ((y262.length : Int) - 1)) : Int).toNat)) else (none)) else (none)) = some (r1, r2, r3, r4) := by rw [if_neg (show ¬ (false = true) by decide)] at H; exact H
         clear H
         have H := H1
         clear H1
         obtain ⟨ji74, hji74⟩ : ∃ j_ : Int, (wrap64 ((y262.length : Int) - 1)) = j_ := ⟨_, rfl⟩
         replace H : (if 0 ≤ (ji74) then (if (ji74) ≤ (y262.length : Int) then (awardingbodymake_Tape_Long.l0 kj10 (wrap64 (x4_1 - 1)) s0_0 x1001_10 0 0 (y262.take ((ji74) : Int).toNat)) else (none)) else (none)) = some (r1, r2, r3, r4) := by first | (rw [hji74] at H; exact H) | (simp only [hji74] at H ⊢; exact H)
         (try rw [hji74] at A61)
         have hji74w : (IntKind.i64.wrap ((y262.length : Int) - 1)) = ji74 := (i64_w _).trans hji74
         by_cases c75 : 0 ≤ (ji74)
         ·rw [if_pos c75] at H
          have c75b0 := eq_true c75
          have c75b1 : decide (0 ≤ (ji74)) = true := decide_eq_true c75
          clear c75
          by_cases c76 : (ji74) ≤ (y262.length : Int)
          ·rw [if_pos c76] at H
           have c76b0 := eq_true c76
           have c76b1 : decide ((ji74) ≤ (y262.length : Int)) = true := decide_eq_true c76
           clear c76
           obtain ⟨y266, hy266⟩ : ∃ y_ : List (S23), y_ = (y262.take ((ji74) : Int).toNat) := ⟨_, rfl⟩
           replace H : (awardingbodymake_Tape_Long.l0 kj10 (wrap64 (x4_1 - 1)) s0_0 x1001_10 0 0 y266) = some (r1, r2, r3, r4) := by first | (rw [hy266]; with_reducible exact H) | (have H2_ := (Option.bind_some _ _).symm.trans H; rw [hy266]; with_reducible exact H2_) | (have H2_ := (Option.bind_some _ _).symm.trans H; with_reducible exact H2_) | with_reducible exact H | (rw [hy266]; exact H) | exact H
           have Ny266 := za hy266
           clear hy266
           have H' := za H
           clear H
           have hnb77 := NB240_239.out
           have hnc77 := NB239_240.out
           have hnb78 := NB240_250.out
           have hnc78 := NB250_240.out
           have hnb79 := NB240_0.out
           have hnc79 := NB0_240.out
           obtain ⟨hcz80_0, hcz80_1, hcz80_2, hfz80_0, hfz80_1, hfz80_2⟩ := z3 BK240
           have hnb81 := NB250_239.out
           have hnc81 := NB239_250.out
           have hnb82 := NB250_0.out
           have hnc82 := NB0_250.out
           obtain ⟨hcz83_0, hcz83_1, hcz83_2, hcz83_3, hcz83_4, hcz83_5, hfz83_0, hfz83_1, hfz83_2, hfz83_3, hfz83_4, hfz83_5⟩ := z6 BK250
           go_wp2_with (first | ((with_reducible refine gate_builtin (b := .append) (xs := #[.tmp 27, .tmp 29]) rfl ?_); at_builtin; refine Kd.R_append k23 w.heap.size rfl (.tmp 27) (.tmp 29) 31 23 (.agg #[(.int .i64 0), (.int .i64 0), (.int .i64 0), (.int .i64 0), (.int .i64 0), (.int .i64 0)]) 48 rfl Try.underlying31 info23 rfl (by decide) (by omega) u241002 x241002_1 (⟨t243, t244, t245, t246, t247, t248⟩ : S23) [.int .i64 t243, .int .i64 t244, .int .i64 t245, .int .i64 t246, .int .i64 t247, .int .i64 t248] (fun k_ => k_ ≠ gb250) (fun _ => False) rfl rfl ?aP (fun _ hk => hk.elim) ?aF ?aO (Below.refl _ _) ?aS ?aL ?_; (case aP => exact k23_mkM _ _ _ (⟨t243, t244, t245, t246, t247, t248⟩ : S23)); (case aF => exact (fun k_ hk => Kd.freshB (g := gb250) (o := .cells #[.int .i64 t243, .int .i64 t244, .int .i64 t245, .int .i64 t246, .int .i64 t247, .int .i64 t248] 23 (0, 0)) (by (with_reducible repeat (first | refine blk_drewN ?_ _ | refine blk_drew ?_ | refine blk_alloc ?_ _)); exact BK250.out) k_ hk)); (case aO => exact (by (with_reducible repeat (first | apply Kd.R_alloc | apply Kd.R_drewN | apply Kd.R_drew)); exact HO_241002.out)); (case aS => exact (keep_size (w := w) (g := g) (row := none) (by repeat (first | (with_reducible first | exact HK.out | apply KeepBut.set_ | apply keep_drewN | apply keep_drew | apply keep_alloc | refine keep_far ?_ GW239.out _ | refine keep_far ?_ GW240.out _ | refine keep_far ?_ GW250.out _) | exact HK.out)))); (case aL => have := LMc60.out; omega); intro v263 w84 ho hb hg hat; rw [← Ny262.out] at ho; have HO264 := za (ho); replace BK239 := (zw BK239 hg (Kd.R_ne HO_241002.out BK239.out (by decide))); replace BK240 := (zw BK240 hg (Kd.R_ne HO_241002.out BK240.out (by decide))); replace BK250 := (zw BK250 hg (Kd.R_away HO_241002.out (fun _ hk => hk))); replace HI0 := za (IsS61.grown (by repeat (first | (with_reducible first | exact HI0.out | apply IsS61.alloc | apply IsS61.drewN | apply IsS61.drew | apply IsS61.set_1 | refine IsS61.far ?_ NB0_239.out _ | refine IsS61.far ?_ NB0_240.out _ | refine IsS61.far ?_ NB0_250.out _) | exact HI0.out)) hg (IsS61.own_ne HI0.out HO_241002.out (by decide))); replace HB := za (below_weaken (zm HB) HL.out hb); replace HK := za (KeepBut.trans (by repeat (first | (with_reducible first | exact HK.out | apply KeepBut.set_ | apply keep_drewN | apply keep_drew | apply keep_alloc | refine keep_far ?_ GW239.out _ | refine keep_far ?_ GW240.out _ | refine keep_far ?_ GW250.out _) | exact HK.out)) (KeepBut.of_grown hg g) (Kd.R_base2 HO_241002.out)); clear HO_241002 ho hb hg hat; obtain ⟨Ao85, co85, eo85⟩ := Kd.R_slice HO264.out; subst eo85; obtain ⟨hcz86_0, hcz86_1, hcz86_2, hfz86_0, hfz86_1, hfz86_2⟩ := z3 BK240) | ((with_reducible refine gate_callee (f := 38) rfl ?_); refine zL (some 33) Try.func38 #[.agg #[.int .i64 0, .int .i64 0, .slice Ao85 y262.length co85]] ?_; (with_reducible refine (awardingbodyref06_ValidPaper.calls kj10 0 0 _ _ y262 false _ ?side1 ?side2 A61.out).mono ?_); (case side1 => refine (Kd.R_reads' (e := 23) (base := w.heap.size) (ok := fun k_ => k_ ≠ gb250) (n := y262.length) (c := co85) ?_).2.2; exact (by (with_reducible repeat (first | apply Kd.R_alloc | apply Kd.R_drewN | apply Kd.R_drew)); exact (Kd.R_mono (Kd.R_far (p := ⟨gb240, 2, none⟩) (Kd.R_types HO264.out BK240.out (by decide)) (fun _ hk => hk.2) (.slice Ao85 y262.length co85)) (fun _ h_ => h_.1)))); (case side2 => exact (Kd.R_reads' HO264.out).2.1); rintro e w87 ⟨rfl, hb⟩; refine ⟨_, rfl, ?_⟩; replace HO264 := za (Kd.R_below (by (with_reducible repeat (first | apply Kd.R_alloc | apply Kd.R_drewN | apply Kd.R_drew)); exact (Kd.R_mono (Kd.R_far (p := ⟨gb240, 2, none⟩) (Kd.R_types HO264.out BK240.out (by decide)) (fun _ hk => hk.2) (.slice Ao85 y262.length co85)) (fun _ h_ => h_.1))) hb); replace BK239 := zb BK239 hb; replace BK240 := za (blk_below (g := gb240) (o := .cells #[.int .i64 0, .int .i64 0, .slice Ao85 y262.length co85] 33 (0, 0)) (by (with_reducible repeat (first | refine blk_drewN ?_ _ | refine blk_drew ?_ | refine blk_alloc ?_ _)); refine blk_put (cs := #[.int .i64 0, .int .i64 0, u241002]) ?_ 2 _ rfl; (with_reducible repeat (first | refine blk_drewN ?_ _ | refine blk_drew ?_ | refine blk_alloc ?_ _)); exact BK240.out) hb); replace BK250 := zb BK250 hb; replace HI0 := za (IsS61.below (show IsS61 w0 (w84.setCell ⟨gb240, 2, none⟩ (.slice Ao85 y262.length co85)) g s0_0 x1001_10 from by repeat (first | (with_reducible first | exact HI0.out | apply IsS61.alloc | apply IsS61.drewN | apply IsS61.drew | apply IsS61.set_1 | refine IsS61.far ?_ NB0_239.out _ | refine IsS61.far ?_ NB0_240.out _ | refine IsS61.far ?_ NB0_250.out _) | exact HI0.out)) hb); replace HK := zu HK hb; replace HB := zs HB hb; (try clear hb); (try clear hb2); (try clear hk); (try clear hi); obtain ⟨hcz88_0, hcz88_1, hcz88_2, hfz88_0, hfz88_1, hfz88_2⟩ := z3 BK240; have q89 : ((ji74) : Int) ≤ ((y262.length : Int) : Int) := of_decide_eq_true (by first | (with_reducible assumption) | assumption); obtain ⟨i089, hi089, _, hsz89, _⟩ := info_parts info23; have hcut89 := cut_to (P := Try.prog) 31 23 .i64 Try.underlying31 hi089 Ao85 y262.length co85 (ji74) (of_decide_eq_true (by first | (with_reducible assumption) | assumption)) q89 (Kd.R_reads' HO264.out).2.1; have hr89 := Kd.R_take (m := ((ji74) : Int).toNat) HO264.out (by omega); have hy89 : y266.length = ((ji74) : Int).toNat := (by rw [Ny266.out, List.length_take]; omega); rw [← Ny266.out] at hr89; rw [← hy89] at hr89 hcut89; clear hy89 hi089 hsz89 HO264; have HO268 := za hr89; clear hr89; replace q89 := eq_true q89))
           go_roundg kj10
           case measure => have := HK1.out; have := HJ10.out; omega
           case rel => exact ⟨(wrap64 (x4_1 - 1)), (x1001_10), (y266), (.slice Ao85 y266.length co85), (by first | rfl | (simp; done) | (simp [*]; done)), H', ⟨by have := HK1.out; have := HJ10.out; omega⟩, ⟨by (with_reducible repeat (first | apply Kd.R_alloc | apply Kd.R_drewN | apply Kd.R_drew)); exact Kd.R_mono (Kd.R_far (p := ⟨gb240, 2, none⟩) (Kd.R_types HO268.out BK240.out (by decide)) (fun _ hk => hk.2) (.slice Ao85 y266.length co85)) (fun _ hk => trivial)⟩, ⟨by (with_reducible repeat (first | refine blk_drewN ?_ _ | refine blk_drew ?_ | refine blk_alloc ?_ _)); refine blk_far ?_ NB239_240.out _; (with_reducible repeat (first | refine blk_drewN ?_ _ | refine blk_drew ?_ | refine blk_alloc ?_ _)); exact BK239.out⟩, ⟨by (with_reducible repeat (first | refine blk_drewN ?_ _ | refine blk_drew ?_ | refine blk_alloc ?_ _)); refine blk_put (cs := #[.int .i64 0, .int .i64 0, .slice Ao85 y262.length co85]) ?_ 2 _ rfl; (with_reducible repeat (first | refine blk_drewN ?_ _ | refine blk_drew ?_ | refine blk_alloc ?_ _)); exact BK240.out⟩, ⟨by repeat (first | (with_reducible first | exact HI0.out | apply IsS61.alloc | apply IsS61.drewN | apply IsS61.drew | apply IsS61.set_1 | refine IsS61.far ?_ NB0_239.out _ | refine IsS61.far ?_ NB0_240.out _ | refine IsS61.far ?_ NB0_250.out _) | exact HI0.out)⟩, ⟨by repeat (first | (with_reducible first | exact HK.out | apply KeepBut.set_ | apply keep_drewN | apply keep_drew | apply keep_alloc | refine keep_far ?_ GW239.out _ | refine keep_far ?_ GW240.out _ | refine keep_far ?_ GW250.out _) | exact HK.out)⟩, ⟨zm HB⟩⟩
          ·rw [if_neg c76] at H
           exact absurd H (by simp)
         ·rw [if_neg c75] at H
          exact absurd H (by simp)
       ·rw [if_neg c60] at H
        exact absurd H (by simp)
   ·rw [if_neg c9] at H
    have c9b0 : decide (0 < x4_1) = false := decide_eq_false c9
    clear c9
    simp only [Option.some.injEq, Prod.mk.injEq] at H
    obtain ⟨rfl, rfl, rfl, rfl⟩ := H
    have hnb90 := NB240_239.out
    have hnc90 := NB239_240.out
    have hnb91 := NB240_0.out
    have hnc91 := NB0_240.out
    obtain ⟨hcz92_0, hcz92_1, hcz92_2, hfz92_0, hfz92_1, hfz92_2⟩ := z3 BK240
    have hnb93 := NB239_0.out
    have hnc93 := NB0_239.out
    obtain ⟨hcz94_0, hcz94_1, hcz94_2, hfz94_0, hfz94_1, hfz94_2⟩ := z3 BK239
    obtain ⟨Ao95, co95, eo95⟩ := Kd.R_slice HO_241002.out
    subst eo95
    go_wp2
    refine bodyPost_ret (results_cell_row rfl _ _ gb239 33 #[.int .i64 0, .int .i64 0, .slice Ao95 x241002_1.length co95] (0, 0) _ rfl (by (with_reducible repeat (first | refine blk_drewN ?_ _ | refine blk_drew ?_ | refine blk_alloc ?_ _)); refine blk_put (cs := #[.int .i64 0, .int .i64 0, .slice none 0 0]) ?_ 2 _ rfl; (with_reducible repeat (first | refine blk_drewN ?_ _ | refine blk_drew ?_ | refine blk_alloc ?_ _)); refine blk_put (cs := #[.int .i64 0, .int .i64 0, .slice none 0 0]) ?_ 1 _ rfl; (with_reducible repeat (first | refine blk_drewN ?_ _ | refine blk_drew ?_ | refine blk_alloc ?_ _)); refine blk_put (cs := #[.int .i64 0, .int .i64 0, .slice none 0 0]) ?_ 0 _ rfl; (with_reducible repeat (first | refine blk_drewN ?_ _ | refine blk_drew ?_ | refine blk_alloc ?_ _)); exact BK239.out) Try.underlying33 rfl (by kernel_rfl)) rfl ?_
    exact ⟨_, zf, by (with_reducible repeat (first | apply Kd.R_alloc | apply Kd.R_drewN | apply Kd.R_drew)); exact Kd.R_mono (Kd.R_far (p := ⟨gb239, 2, none⟩) (Kd.R_far (p := ⟨gb239, 1, none⟩) (Kd.R_far (p := ⟨gb239, 0, none⟩) (Kd.R_types HO_241002.out BK239.out (by decide)) (fun _ hk => hk.2) (.int .i64 0)) (fun _ hk => hk.2) (.int .i64 0)) (fun _ hk => hk.2) (.slice Ao95 x241002_1.length co95)) (fun _ hk => trivial), by repeat (first | (with_reducible first | exact HI0.out | apply IsS61.alloc | apply IsS61.drewN | apply IsS61.drew | apply IsS61.set_1 | refine IsS61.far ?_ NB0_239.out _ | refine IsS61.far ?_ NB0_240.out _) | exact HI0.out), zm HB, by repeat (first | (with_reducible first | exact HK.out | apply KeepBut.set_ | apply keep_drewN | apply keep_drew | apply keep_alloc | refine keep_far ?_ GW239.out _ | refine keep_far ?_ GW240.out _) | exact HK.out)⟩

end Go.Proofs.Ytdmlbgdefapcjaa.Print
