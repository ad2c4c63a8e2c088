-- Printed by a program of this session (wip/own_print.py) out of the translation; Lean checks it.
import Derived.Test.YthbmpjglkbhhgaaShort
import Derived.Test.YthbmpjglkbhhgaaScope
import Derived.Test.YthbmpjglkbhhgaaPrint0
import Derived.Test.YthbmpjglkbhhgaaPrint1
import Derived.Test.YthbmpjglkbhhgaaPrint3
import Derived.Test.YthbmpjglkbhhgaaPrint6
namespace Go.Proofs.Ythbmpjglkbhhgaa.Print
open Go.RowKit Go.Proofs.YthbmpjglkbhhgaaW.PrintWords Go.Proofs.YthbmpjglkbhhgaaW.PrintLast Go.Proofs.YthbmpjglkbhhgaaW.PrintMore
attribute [local go_sem] max2_int min2_int max_two min_two max_three min_three max_four min_four   -- for this text's walks alone
set_option linter.unusedVariables false
set_option linter.unusedSimpArgs false

/-! ### awardingbodymake_Tape_Paper: function 34 -/
def awardingbodymake_Tape_Paper.l0 : Nat → Int → List Int → Int → Int → Int → List (S65) → Option (Int × Int × (List (S65)) × Int)
  | 0, _, _, _, _, _, _ => none
  | k + 1, x8, x1000, x1001, x303000, x303001, x303002 => if x8 > 0 then ((awardingbodymake_Tape_Part.f k x1000 x1001 0).bind fun bt305 => (if x303002.length < 2932031007402 then (awardingbodymake_Tape_Paper.l0 k (wrap64 (x8 - 1)) x1000 bt305.2.2.2.2.2.2 x303000 x303001 (x303002 ++ [(⟨bt305.1, bt305.2.1, bt305.2.2.1, bt305.2.2.2.1, bt305.2.2.2.2.1, bt305.2.2.2.2.2.1⟩ : S65)])) else (none))) else (some (x303000, x303001, x303002, x1001))
def awardingbodymake_Tape_Paper.f (k : Nat) (s0_0 : List Int) (s0_1 : Int) (a1 : Int) (a2 : Int) : Option (Int × Int × (List (S65)) × Int) := (awardingbodymake_Tape_Range.f s0_0 s0_1 1 6).bind fun bt303 => (awardingbodymake_Tape_Paper.l0 k bt303.1 s0_0 bt303.2 a1 a2 ([] : List (S65)))
theorem awardingbodymake_Tape_Paper.mono_l : ∀ k, (∀ y0 y1 y2 y3 y4 y5, LeO (awardingbodymake_Tape_Paper.l0 k y0 y1 y2 y3 y4 y5) (awardingbodymake_Tape_Paper.l0 (k + 1) y0 y1 y2 y3 y4 y5))
  | 0 => fun _ _ _ _ _ _ r h => by simp [awardingbodymake_Tape_Paper.l0] at h
  | k + 1 => by
    have ih0 := awardingbodymake_Tape_Paper.mono_l k
    · intro y0 y1 y2 y3 y4 y5
      unfold awardingbodymake_Tape_Paper.l0
      repeat' first
      | (with_reducible exact ih0 _ _ _ _ _ _)
      | (with_reducible exact awardingbodymake_Tape_Part.mono _ _ _ _)
      | (with_reducible exact LeO.refl _)
      | (with_reducible exact LeO.none _)
      | (with_reducible refine LeO.ite ?_ ?_)
      | (with_reducible refine LeO.bind ?_ (fun _ => ?_))
      | exact ih0 _ _ _ _ _ _
      | exact awardingbodymake_Tape_Part.mono _ _ _ _
      | exact LeO.none _
      | refine LeO.ite ?_ ?_
      | refine LeO.bind ?_ (fun _ => ?_)
theorem awardingbodymake_Tape_Paper.mono : ∀ a0 a1 a2 a3 k, LeO (awardingbodymake_Tape_Paper.f k a0 a1 a2 a3) (awardingbodymake_Tape_Paper.f (k + 1) a0 a1 a2 a3) := by
  intro a0 a1 a2 a3 k
  have ih0 := awardingbodymake_Tape_Paper.mono_l k
  unfold awardingbodymake_Tape_Paper.f
  repeat' first
      | (with_reducible exact ih0 _ _ _ _ _ _)
      | (with_reducible exact awardingbodymake_Tape_Part.mono _ _ _ _)
      | (with_reducible exact LeO.refl _)
      | (with_reducible exact LeO.none _)
      | (with_reducible refine LeO.ite ?_ ?_)
      | (with_reducible refine LeO.bind ?_ (fun _ => ?_))
      | exact ih0 _ _ _ _ _ _
      | exact awardingbodymake_Tape_Part.mono _ _ _ _
      | exact LeO.none _
      | refine LeO.ite ?_ ?_
      | refine LeO.bind ?_ (fun _ => ?_)
def awardingbodymake_Tape_Paper.T5 : Bool × List (List Nat × List Nat) := (true, [([], []), ([0], [0]), ([], []), ([2], [2]), ([3], [3]), ([1, 4, 3], [1, 4]), ([0, 1, 2, 3, 4, 5], []), ([6, 5, 5, 0, 1, 2, 3, 4, 5], [5, 6])])
def awardingbodymake_Tape_Paper.B5 : List Nat := [0, 1, 0, 4, 12, 31, 63, 127]
theorem awardingbodymake_Tape_Paper.tab5 : rtab .any (opsOf Try.f34 5) = awardingbodymake_Tape_Paper.T5 := by kernel_rfl
theorem awardingbodymake_Tape_Paper.bits5 : waitsOk awardingbodymake_Tape_Paper.T5.2 awardingbodymake_Tape_Paper.B5 = true := by kernel_rfl
set_option maxHeartbeats 8000000 in
set_option maxRecDepth 100000 in
theorem awardingbodymake_Tape_Paper.calls (k : Nat) (g : Nat) (s0_0 : List Int) (s0_1 : Int) (a1 : Int) (a2 : Int) (r1 : Int) (r2 : Int) (r3 : List (S65)) (r4 : Int) (w0 w : World) (hI : IsS68 w0 w g s0_0 s0_1) (hB : Below w0.heap.size w0 w) (h : awardingbodymake_Tape_Paper.f k s0_0 s0_1 a1 a2 = some (r1, r2, r3, r4)) :
    Calls Try.prog 34 #[.pointer (some ⟨g, 0, none⟩), .int .i64 a1, .int .i64 a2] w fun e w' => ∃ v2_ : Value, e = .returned (.agg #[.int .i64 r1, .int .i64 r2, v2_]) ∧ Kd.R k65 65 w' w.heap.size (fun _ => True) v2_ r3 ∧ IsS68 w0 w' g s0_0 r4 ∧ Below w0.heap.size w0 w' ∧ KeepBut w w' g none := by
 have hu53 := Try.underlying53
 have HI0 := za hI
 have HK := za (KeepBut.refl w g none)
 have HL := za hB.size
 clear hI
 have HW0 := za hB.size
 have HB := za hB
 clear hB
 have H : ((awardingbodymake_Tape_Range.f s0_0 s0_1 1 6).bind fun bt303 => (awardingbodymake_Tape_Paper.l0 k bt303.1 s0_0 bt303.2 a1 a2 ([] : List (S65)))) = some (r1, r2, r3, r4) := h
 clear h
 replace H := Option.bind_eq_some_iff.mp H
 obtain ⟨⟨t303, t304⟩, A40, H⟩ := H
 replace H : (awardingbodymake_Tape_Paper.l0 k t303 s0_0 t304 a1 a2 ([] : List (S65))) = some (r1, r2, r3, r4) := H
 have A4 := za A40
 clear A40
 have H' := za H
 clear H
 go_enter Try.func34, Try.ntmps34
 go_wp2_with (first | ((with_reducible refine gate_dst (N := 6) rfl ?_); refine zE 6 #[.int .i64 0, .int .i64 0, .slice none 0 0] 53 ?_; intro gb301 hg w5 hbox hb; have BK301 := za (hbox); have GW301 := za ((by rw [hg]; exact (keep_size (w := w) (g := g) (row := none) (by repeat (first | (with_reducible first | exact HK.out | apply KeepBut.set_ | apply keep_drewN | apply keep_drew | apply keep_alloc) | exact HK.out))) : w.heap.size ≤ gb301)); have GE301 := za ((Nat.le_trans HW0.out (by rw [hg]; exact (keep_size (w := w) (g := g) (row := none) (by repeat (first | (with_reducible first | exact HK.out | apply KeepBut.set_ | apply keep_drewN | apply keep_drew | apply keep_alloc) | exact HK.out))) : w.heap.size ≤ gb301) : w0.heap.size ≤ gb301)); have NB0_301 := za ((by rw [hg]; exact Nat.ne_of_lt (IsS68.lt (show IsS68 w0 _ g s0_0 s0_1 from by repeat (first | (with_reducible first | exact HI0.out | apply IsS68.alloc | apply IsS68.drewN | apply IsS68.drew | apply IsS68.set_1) | exact HI0.out))) : g ≠ gb301)); have NB301_0 := za ((by rw [hg]; exact Nat.ne_of_gt (IsS68.lt (show IsS68 w0 _ g s0_0 s0_1 from by repeat (first | (with_reducible first | exact HI0.out | apply IsS68.alloc | apply IsS68.drewN | apply IsS68.drew | apply IsS68.set_1) | exact HI0.out))) : gb301 ≠ g)); replace HI0 := za (IsS68.below (by repeat (first | (with_reducible first | exact HI0.out | apply IsS68.alloc | apply IsS68.drewN | apply IsS68.drew | apply IsS68.set_1) | exact HI0.out)) hb); replace HK := zu HK hb; replace HB := zs HB hb; clear hb hbox hg) | ((with_reducible refine gate_dst (N := 7) rfl ?_); refine zE 7 #[.int .i64 0, .int .i64 0, .slice none 0 0] 53 ?_; intro gb302 hg w6 hbox hb; have BK302 := za (hbox); have GW302 := za ((by rw [hg]; exact (keep_size (w := w) (g := g) (row := none) (by repeat (first | (with_reducible first | exact HK.out | apply KeepBut.set_ | apply keep_drewN | apply keep_drew | apply keep_alloc | refine keep_far ?_ GW301.out _) | exact HK.out))) : w.heap.size ≤ gb302)); have GE302 := za ((Nat.le_trans HW0.out (by rw [hg]; exact (keep_size (w := w) (g := g) (row := none) (by repeat (first | (with_reducible first | exact HK.out | apply KeepBut.set_ | apply keep_drewN | apply keep_drew | apply keep_alloc | refine keep_far ?_ GW301.out _) | exact HK.out))) : w.heap.size ≤ gb302) : w0.heap.size ≤ gb302)); have NB301_302 := zl BK301 hg; have NB302_301 := zr BK301 hg; have NB0_302 := za ((by rw [hg]; exact Nat.ne_of_lt (IsS68.lt (show IsS68 w0 _ g s0_0 s0_1 from by repeat (first | (with_reducible first | exact HI0.out | apply IsS68.alloc | apply IsS68.drewN | apply IsS68.drew | apply IsS68.set_1 | refine IsS68.far ?_ NB0_301.out _) | exact HI0.out))) : g ≠ gb302)); have NB302_0 := za ((by rw [hg]; exact Nat.ne_of_gt (IsS68.lt (show IsS68 w0 _ g s0_0 s0_1 from by repeat (first | (with_reducible first | exact HI0.out | apply IsS68.alloc | apply IsS68.drewN | apply IsS68.drew | apply IsS68.set_1 | refine IsS68.far ?_ NB0_301.out _) | exact HI0.out))) : gb302 ≠ g)); replace HI0 := za (IsS68.below (by repeat (first | (with_reducible first | exact HI0.out | apply IsS68.alloc | apply IsS68.drewN | apply IsS68.drew | apply IsS68.set_1 | refine IsS68.far ?_ NB0_301.out _) | exact HI0.out)) hb); replace BK301 := zb BK301 hb; replace HK := zu HK hb; replace HB := zs HB hb; clear hb hbox hg; have hnb7 := NB302_301.out; have hnc7 := NB301_302.out; have hnb8 := NB302_0.out; have hnc8 := NB0_302.out; obtain ⟨hcz9_0, hcz9_1, hcz9_2, hfz9_0, hfz9_1, hfz9_2⟩ := z3 BK302) | ((with_reducible refine gate_callee (f := 30) rfl ?_); refine zL (some 13) Try.func30 #[.pointer (some ⟨g, 0, none⟩), .int .i64 1, .int .i64 6] ?_; (with_reducible refine (awardingbodymake_Tape_Range.calls g s0_0 s0_1 1 6 t303 t304 w0 _ ?side1 ?side2 A4.out).mono ?_); (case side1 => repeat (first | (with_reducible first | exact HI0.out | apply IsS68.alloc | apply IsS68.drewN | apply IsS68.drew | apply IsS68.set_1 | refine IsS68.far ?_ NB0_301.out _ | refine IsS68.far ?_ NB0_302.out _) | exact HI0.out)); (case side2 => repeat (first | (with_reducible first | exact HB.out | apply below_alloc | apply pw_below_drewN | apply below_drew1 | refine below_set ?_ (IsS68.ge HI0.out) | refine below_set ?_ GE301.out | refine below_set ?_ GE302.out) | exact HB.out)); rintro e w10 ⟨rfl, hi, hb, hk⟩; refine ⟨_, rfl, ?_⟩; replace BK301 := zk hk BK301 NB301_0; replace BK302 := za (KeepBut.blk hk (g' := gb302) (o := .cells #[.int .i64 a1, .int .i64 a2, .slice none 0 0] 53 (0, 0)) (by (with_reducible repeat (first | refine blk_drewN ?_ _ | refine blk_drew ?_ | refine blk_alloc ?_ _)); refine blk_put (cs := #[.int .i64 a1, .int .i64 a2, .slice none 0 0]) ?_ 2 _ rfl; (with_reducible repeat (first | refine blk_drewN ?_ _ | refine blk_drew ?_ | refine blk_alloc ?_ _)); refine blk_put (cs := #[.int .i64 a1, .int .i64 0, .slice none 0 0]) ?_ 1 _ rfl; (with_reducible repeat (first | refine blk_drewN ?_ _ | refine blk_drew ?_ | refine blk_alloc ?_ _)); refine blk_put (cs := #[.int .i64 0, .int .i64 0, .slice none 0 0]) ?_ 0 _ rfl; (with_reducible repeat (first | refine blk_drewN ?_ _ | refine blk_drew ?_ | refine blk_alloc ?_ _)); exact BK302.out) NB302_0.out (by simp)); replace HK := zt HK hk; replace HB := za (hb); replace HI0 := za (hi); (try clear hb); (try clear hb2); (try clear hk); (try clear hi)))
 go_loopg [8] k (fun kq v8 w' => ∃ (x8_1 : Int) (x1001_1 : Int) (x303002_1 : List (S65)) (u303002 : Value), v8 = .int .i64 x8_1 ∧ Aside0 (awardingbodymake_Tape_Paper.l0 kq x8_1 s0_0 x1001_1 a1 a2 x303002_1 = some (r1, r2, r3, r4)) ∧ Aside0 (kq ≤ k) ∧ Aside0 (Kd.R k65 65 w' w.heap.size (fun _ => True) u303002 x303002_1) ∧ Aside0 (w'.heap[gb301]? = some (.cells #[.int .i64 0, .int .i64 0, (.slice none 0 0)] 53 (0, 0))) ∧ Aside0 (w'.heap[gb302]? = some (.cells #[.int .i64 a1, .int .i64 a2, u303002] 53 (0, 0))) ∧ Aside0 (IsS68 w0 w' g s0_0 x1001_1) ∧ Aside0 (KeepBut w w' g none) ∧ Aside0 (Below w0.heap.size w0 w'))
 case atStart => exact ⟨(t303), (t304), (([] : List (S65))), (.slice none 0 0), (by first | rfl | (simp; done) | (simp [*]; done)), H', ⟨Nat.le_refl _⟩, ⟨by first | exact Kd.R_nil _ _ _ _ _ | exact Kd.N_nil _ _ _ _ _ | exact Kd.V_nil _ _ _ _ _ | exact Kd.Q_nil _ _ _ _ _ | exact Kd.S_nil _ _ _ _ _⟩, ⟨by (with_reducible repeat (first | refine blk_drewN ?_ _ | refine blk_drew ?_ | refine blk_alloc ?_ _)); exact BK301.out⟩, ⟨by (with_reducible repeat (first | refine blk_drewN ?_ _ | refine blk_drew ?_ | refine blk_alloc ?_ _)); exact BK302.out⟩, ⟨by repeat (first | (with_reducible first | exact HI0.out | apply IsS68.alloc | apply IsS68.drewN | apply IsS68.drew | apply IsS68.set_1 | refine IsS68.far ?_ NB0_301.out _ | refine IsS68.far ?_ NB0_302.out _) | exact HI0.out)⟩, ⟨by repeat (first | (with_reducible first | exact HK.out | apply KeepBut.set_ | apply keep_drewN | apply keep_drew | apply keep_alloc | refine keep_far ?_ GW301.out _ | refine keep_far ?_ GW302.out _) | exact HK.out)⟩, ⟨zm HB⟩⟩
 case round =>
  clear H'
  try clear p2
  try clear c3
  try clear c7
  try clear c8
  try clear hcz9_0
  try clear hcz9_1
  try clear hcz9_2
  try clear hfz9_0
  try clear hfz9_1
  try clear hfz9_2
  obtain ⟨x8_1, x1001_1, x303002_1, u303002, rfl, HA, HK1, HO_303002, BK301, BK302, HI0, HK, HB⟩ := hrel
  cases gk with
  | zero => exact absurd HA.out (by simp [awardingbodymake_Tape_Paper.l0])
  | succ k1 =>
   have H := HA.out
   clear HA
   simp only [awardingbodymake_Tape_Paper.l0] at H
   by_cases c11 : x8_1 > 0
   ·rw [if_pos c11] at H
    have c11b0 : decide (0 < x8_1) = true := decide_eq_true c11
    clear c11
    replace H := Option.bind_eq_some_iff.mp H
    obtain ⟨⟨t305, t306, t307, t308, t309, t310, t311⟩, A120, H⟩ := H
    replace H : (if x303002_1.length < 2932031007402 then (awardingbodymake_Tape_Paper.l0 k1 (wrap64 (x8_1 - 1)) s0_0 t311 a1 a2 (x303002_1 ++ [(⟨t305, t306, t307, t308, t309, t310⟩ : S65)])) else (none)) = some (r1, r2, r3, r4) := H
    have A12 := za A120
    clear A120
    by_cases c13 : x303002_1.length < 2932031007402
    ·rw [if_pos c13] at H
     have LMc13 := za c13
     clear c13
     obtain ⟨y312, hy312⟩ : ∃ y_ : List (S65), y_ = (x303002_1 ++ [(⟨t305, t306, t307, t308, t309, t310⟩ : S65)]) := ⟨_, rfl⟩
     replace H : (awardingbodymake_Tape_Paper.l0 k1 (wrap64 (x8_1 - 1)) s0_0 t311 a1 a2 y312) = some (r1, r2, r3, r4) := by first | (rw [hy312]; with_reducible exact H) | (have H2_ := (Option.bind_some _ _).symm.trans H; rw [hy312]; with_reducible exact H2_) | (have H2_ := (Option.bind_some _ _).symm.trans H; with_reducible exact H2_) | with_reducible exact H | (rw [hy312]; exact H) | exact H
     have Ny312 := za hy312
     clear hy312
     have H' := za H
     clear H
     try go_wp2
     replace HO_303002 := za (Kd.R_drew HO_303002.out)
     replace BK301 := za (blk_drew BK301.out)
     replace BK302 := za (blk_drew BK302.out)
     replace HI0 := za (IsS68.drew HI0.out)
     replace HK := za (keep_drew HK.out)
     replace HB := za (below_drew1 HB.out)
     refine start_ (n := 8) (S := fun w' => w'.cell? ⟨gb302, 0, none⟩ = some (.int .i64 a1) ∧ w'.cell? ⟨gb302, 1, none⟩ = some (.int .i64 a2) ∧ w'.cell? ⟨gb302, 2, none⟩ = some (u303002)) (ds := [7]) #[false, false, false, false, false, false, false, false] (by kernel_rfl) rfl rfl ⟨(blk_cell BK302.out 0).trans rfl, (blk_cell BK302.out 1).trans rfl, (blk_cell BK302.out 2).trans rfl⟩ (fun hHeld => ?_); refine with_tabW awardingbodymake_Tape_Paper.tab5 awardingbodymake_Tape_Paper.bits5 (fun HT_ HW_ => ?_)
     generalize wr.drew = w14 at HO_303002 BK301 BK302 HI0 HK HB hHeld ⊢
     refine pure_ (i := 0) (N := some 18) (v := ?_) (a' := ?_) #[true, false, false, false, false, false, false, false] rfl rfl (any_of HT_.out (by kernel_rfl)) (fun _ _ _ h => h) (Or.inl ⟨by rfl, ?_⟩) ?_ ?_
     rotate_left
     ·intro w'
      go_simp
      with_reducible rfl
     rotate_left
     ·simp only [Act.put, List.setIfInBounds_toArray, List.set_cons_zero, List.set_cons_succ, i64_w, i32_w]
      rfl
     refine pure_ (i := 2) (N := some 20) (v := ?_) (a' := ?_) #[true, false, true, false, false, false, false, false] rfl rfl (any_of HT_.out (by kernel_rfl)) (fun _ _ _ h => h) (Or.inl ⟨by rfl, ?_⟩) ?_ ?_
     rotate_left
     ·intro w'
      go_simp
      with_reducible rfl
     rotate_left
     ·simp only [Act.put, List.setIfInBounds_toArray, List.set_cons_zero, List.set_cons_succ, i64_w, i32_w]
      rfl
     refine take_ (i := 1) (N := some 19) (v := ?_) (a' := ?_) #[true, true, true, false, false, false, false, false] rfl rfl (take_ofW HT_.out HW_.out (by kernel_rfl)) (fun _ _ _ h => h) (Or.inl ⟨by rfl, ?_⟩) hHeld ?_ ?_
     rotate_left
     ·rintro w' ⟨s0, s1, s2⟩
      go_simp
      with_reducible rfl
     rotate_left
     ·simp only [Act.put, List.setIfInBounds_toArray, List.set_cons_zero, List.set_cons_succ, i64_w, i32_w]
      rfl
     refine one_ (i := 3) (N := some 21) #[true, true, true, true, false, false, false, false] rfl rfl (one_of HT_.out (by kernel_rfl)) (by decide) (fun K hK => ?_)
     refine goes_ Try.func48 (by kernel_rfl) rfl #[.pointer (some ⟨g, 0, none⟩), .int .i64 0] (by rfl) rfl rfl (by (try simp only [List.map_toArray, List.map_cons, List.map_nil]); first | done | rfl | (simp only [List.length_drop, List.length_take]; rfl)) ?_
     with_reducible refine (awardingbodymake_Tape_Part.calls k1 g s0_0 x1001_1 0 t305 t306 t307 t308 t309 t310 t311 w0 _ ?side1 ?side2 A12.out).mono ?_
     (case side1 => repeat (first | (with_reducible first | exact HI0.out | apply IsS68.alloc | apply IsS68.drewN | apply IsS68.drew | apply IsS68.set_1 | refine IsS68.far ?_ NB0_301.out _ | refine IsS68.far ?_ NB0_302.out _) | exact HI0.out))
     (case side2 => repeat (first | (with_reducible first | exact HB.out | apply below_alloc | apply pw_below_drewN | apply below_drew1 | refine below_set ?_ (IsS68.ge HI0.out) | refine below_set ?_ GE301.out | refine below_set ?_ GE302.out) | exact HB.out))
     rintro e w15 ⟨rfl, hi, hb, hk⟩
     refine ⟨_, rfl, ?_⟩
     replace HO_303002 := za (Kd.R_mono (Kd.R_keep (IsS68.apart (show IsS68 w0 _ g s0_0 x1001_1 from by repeat (first | (with_reducible first | exact HI0.out | apply IsS68.alloc | apply IsS68.drewN | apply IsS68.drew | apply IsS68.set_1 | refine IsS68.far ?_ NB0_301.out _ | refine IsS68.far ?_ NB0_302.out _) | exact HI0.out)) (by (with_reducible repeat (first | apply Kd.R_alloc | apply Kd.R_drewN | apply Kd.R_drew)); exact HO_303002.out) (by decide)) hk (fun _ h => h.2)) (fun _ h => h.1))
     replace BK301 := zk hk BK301 NB301_0
     replace BK302 := zk hk BK302 NB302_0
     replace HK := zt HK hk
     replace HB := za (hb)
     replace HI0 := za (hi)
     (try clear hb)
     (try clear hb2)
     (try clear hk)
     (try clear hi)
     refine hK.out _ _ ⟨(blk_cell BK302.out 0).trans rfl, (blk_cell BK302.out 1).trans rfl, (blk_cell BK302.out 2).trans rfl⟩ (fun hHeld => ?_)
     clear hK K
     refine norm_ (a' := ?_) ?_ ?_
     rotate_left
     ·show Act.put _ (some 21) _ = _
      simp only [Act.put, List.setIfInBounds_toArray, List.set_cons_zero, List.set_cons_succ, i64_w, i32_w]
      rfl
     refine one_ (i := 4) (N := some 22) #[true, true, true, true, true, false, false, false] rfl rfl (one_of HT_.out (by kernel_rfl)) (by decide) (fun K hK => ?_)
     refine value_ (w1 := ?_) (v := ?_) (by rfl) rfl ?_ ?_
     rotate_left 2
     ·go_simp
      constructor
      ·rfl
      ·rfl
     refine hK.out _ _ ⟨(blk_cell (blk_alloc BK302.out _) 0).trans rfl, (blk_cell (blk_alloc BK302.out _) 1).trans rfl, (blk_cell (blk_alloc BK302.out _) 2).trans rfl⟩ (fun hHeld => ?_)
     clear hK K
     refine norm_ (a' := ?_) ?_ ?_
     rotate_left
     ·show Act.put _ (some 22) _ = _
      simp only [Act.put, List.setIfInBounds_toArray, List.set_cons_zero, List.set_cons_succ, i64_w, i32_w]
      rfl
     refine one_ (i := 5) (N := some 23) #[true, true, true, true, true, true, false, false] rfl rfl (one_of HT_.out (by kernel_rfl)) (by decide) (fun K hK => ?_)
     refine Kd.R_append_step k65 w.heap.size (by rfl) (.tmp 19) (.tmp 22) 51 65 (.agg #[(.int .i64 0), (.int .i64 0), (.int .i64 0), (.int .i64 0), (.int .i64 0), (.int .i64 0)]) 48 rfl Try.underlying51 info65 rfl (by decide) (by omega) u303002 x303002_1 (⟨t305, t306, t307, t308, t309, t310⟩ : S65) [.int .i64 t305, .int .i64 t306, .int .i64 t307, .int .i64 t308, .int .i64 t309, .int .i64 t310] (fun _ => True) (fun _ => False) rfl rfl ?aP (fun _ hk => hk.elim) ?aF ?aO (Below.refl _ _) ?aS ?aL ?_
     (case aP => exact k65_mkM _ _ _ (⟨t305, t306, t307, t308, t309, t310⟩ : S65))
     (case aF => exact (fun _ _ => trivial))
     (case aO => exact (by (with_reducible repeat (first | apply Kd.R_alloc | apply Kd.R_drewN | apply Kd.R_drew)); exact HO_303002.out))
     (case aS => exact (keep_size (w := w) (g := g) (row := none) (by repeat (first | (with_reducible first | exact HK.out | apply KeepBut.set_ | apply keep_drewN | apply keep_drew | apply keep_alloc | refine keep_far ?_ GW301.out _ | refine keep_far ?_ GW302.out _) | exact HK.out))))
     (case aL => have := LMc13.out; omega)
     intro v313 w16 ho hb hg hat
     rw [← Ny312.out] at ho
     have HO314 := za (ho)
     replace BK301 := (zw BK301 hg (Kd.R_ne HO_303002.out BK301.out (by decide)))
     replace BK302 := (zw BK302 hg (Kd.R_ne HO_303002.out BK302.out (by decide)))
     replace HI0 := za (IsS68.grown (by repeat (first | (with_reducible first | exact HI0.out | apply IsS68.alloc | apply IsS68.drewN | apply IsS68.drew | apply IsS68.set_1 | refine IsS68.far ?_ NB0_301.out _ | refine IsS68.far ?_ NB0_302.out _) | exact HI0.out)) hg (IsS68.own_ne HI0.out HO_303002.out (by decide)))
     replace HB := za (below_weaken (zm HB) HL.out hb)
     replace HK := za (KeepBut.trans (by repeat (first | (with_reducible first | exact HK.out | apply KeepBut.set_ | apply keep_drewN | apply keep_drew | apply keep_alloc | refine keep_far ?_ GW301.out _ | refine keep_far ?_ GW302.out _) | exact HK.out)) (KeepBut.of_grown hg g) (Kd.R_base2 HO_303002.out))
     clear HO_303002 ho hb hg hat
     obtain ⟨Ao17, co17, eo17⟩ := Kd.R_slice HO314.out
     (first | subst eo17 | (injection eo17 with f1_ f2_ f3_; have f4_ := f1_.symm; have f5_ := f3_.symm; clear f1_ f2_ f3_; subst f4_; subst f5_))
     refine hK.out _ _ ⟨(blk_cell BK302.out 0).trans rfl, (blk_cell BK302.out 1).trans rfl, (blk_cell BK302.out 2).trans rfl⟩ (fun hHeld => ?_)
     clear hK K
     refine norm_ (a' := ?_) ?_ ?_
     rotate_left
     ·show Act.put _ (some 23) _ = _
      simp only [Act.put, List.setIfInBounds_toArray, List.set_cons_zero, List.set_cons_succ, i64_w, i32_w]
      rfl
     refine pure_ (i := 6) (N := some 24) (v := ?_) (a' := ?_) #[true, true, true, true, true, true, true, false] rfl rfl (any_of HT_.out (by kernel_rfl)) (fun _ _ _ h => h) (Or.inl ⟨by rfl, ?_⟩) ?_ ?_
     rotate_left
     ·intro w'
      go_simp
      with_reducible rfl
     rotate_left
     ·simp only [Act.put, List.setIfInBounds_toArray, List.set_cons_zero, List.set_cons_succ, i64_w, i32_w]
      rfl
     refine last_ (i := 7) (N := none) #[true, true, true, true, true, true, true, true] rfl rfl (one_of HT_.out (by kernel_rfl)) (by decide) (fun K hK => ?_)
     have hs18 : w16.cell? ⟨gb302, 2, none⟩ = some (u303002) := (blk_cell BK302.out 2).trans rfl
     have hfs18 := blk_frozen BK302.out 2
     have hns18_0 := NB301_302.out
     have hms18_0 := NB302_301.out
     refine skip_ (w1 := ?_) (by rfl) rfl ?_ ?_
     rotate_left
     ·go_simp
      rfl
     refine hK.out _ _ ?_
     clear hK K
     refine done_ (done_of HT_.out (by kernel_rfl)) ?_
     try go_wp2
     go_roundg k1
     case measure => have := HK1.out; omega
     case rel => exact ⟨(wrap64 (x8_1 - 1)), (t311), (y312), (.slice Ao17 y312.length co17), (by first | rfl | (simp; done) | (simp [*]; done)), H', ⟨by have := HK1.out; omega⟩, ⟨by (with_reducible repeat (first | apply Kd.R_alloc | apply Kd.R_drewN | apply Kd.R_drew)); exact Kd.R_mono (Kd.R_far (p := ⟨gb302, 2, none⟩) (Kd.R_types HO314.out BK302.out (by decide)) (fun _ hk => hk.2) (.slice Ao17 y312.length co17)) (fun _ hk => trivial)⟩, ⟨by (with_reducible repeat (first | refine blk_drewN ?_ _ | refine blk_drew ?_ | refine blk_alloc ?_ _)); refine blk_far ?_ NB301_302.out _; (with_reducible repeat (first | refine blk_drewN ?_ _ | refine blk_drew ?_ | refine blk_alloc ?_ _)); exact BK301.out⟩, ⟨by (with_reducible repeat (first | refine blk_drewN ?_ _ | refine blk_drew ?_ | refine blk_alloc ?_ _)); refine blk_put (cs := #[.int .i64 a1, .int .i64 a2, u303002]) ?_ 2 _ rfl; (with_reducible repeat (first | refine blk_drewN ?_ _ | refine blk_drew ?_ | refine blk_alloc ?_ _)); exact BK302.out⟩, ⟨by repeat (first | (with_reducible first | exact HI0.out | apply IsS68.alloc | apply IsS68.drewN | apply IsS68.drew | apply IsS68.set_1 | refine IsS68.far ?_ NB0_301.out _ | refine IsS68.far ?_ NB0_302.out _) | exact HI0.out)⟩, ⟨by repeat (first | (with_reducible first | exact HK.out | apply KeepBut.set_ | apply keep_drewN | apply keep_drew | apply keep_alloc | refine keep_far ?_ GW301.out _ | refine keep_far ?_ GW302.out _) | exact HK.out)⟩, ⟨zm HB⟩⟩
    ·rw [if_neg c13] at H
     exact absurd H (by simp)
   ·rw [if_neg c11] at H
    have c11b0 : decide (0 < x8_1) = false := decide_eq_false c11
    clear c11
    simp only [Option.some.injEq, Prod.mk.injEq] at H
    obtain ⟨rfl, rfl, rfl, rfl⟩ := H
    have hnb19 := NB302_301.out
    have hnc19 := NB301_302.out
    have hnb20 := NB302_0.out
    have hnc20 := NB0_302.out
    obtain ⟨hcz21_0, hcz21_1, hcz21_2, hfz21_0, hfz21_1, hfz21_2⟩ := z3 BK302
    have hnb22 := NB301_0.out
    have hnc22 := NB0_301.out
    obtain ⟨hcz23_0, hcz23_1, hcz23_2, hfz23_0, hfz23_1, hfz23_2⟩ := z3 BK301
    obtain ⟨Ao24, co24, eo24⟩ := Kd.R_slice HO_303002.out
    subst eo24
    go_wp2
    refine bodyPost_ret (results_cell_row rfl _ _ gb301 53 #[.int .i64 a1, .int .i64 a2, .slice Ao24 x303002_1.length co24] (0, 0) _ rfl (by (with_reducible repeat (first | refine blk_drewN ?_ _ | refine blk_drew ?_ | refine blk_alloc ?_ _)); refine blk_put (cs := #[.int .i64 a1, .int .i64 a2, .slice none 0 0]) ?_ 2 _ rfl; (with_reducible repeat (first | refine blk_drewN ?_ _ | refine blk_drew ?_ | refine blk_alloc ?_ _)); refine blk_put (cs := #[.int .i64 a1, .int .i64 0, .slice none 0 0]) ?_ 1 _ rfl; (with_reducible repeat (first | refine blk_drewN ?_ _ | refine blk_drew ?_ | refine blk_alloc ?_ _)); refine blk_put (cs := #[.int .i64 0, .int .i64 0, .slice none 0 0]) ?_ 0 _ rfl; (with_reducible repeat (first | refine blk_drewN ?_ _ | refine blk_drew ?_ | refine blk_alloc ?_ _)); exact BK301.out) Try.underlying53 rfl (by kernel_rfl)) rfl ?_
    exact ⟨_, zf, by (with_reducible repeat (first | apply Kd.R_alloc | apply Kd.R_drewN | apply Kd.R_drew)); exact Kd.R_mono (Kd.R_far (p := ⟨gb301, 2, none⟩) (Kd.R_far (p := ⟨gb301, 1, none⟩) (Kd.R_far (p := ⟨gb301, 0, none⟩) (Kd.R_types HO_303002.out BK301.out (by decide)) (fun _ hk => hk.2) (.int .i64 a1)) (fun _ hk => hk.2) (.int .i64 a2)) (fun _ hk => hk.2) (.slice Ao24 x303002_1.length co24)) (fun _ hk => trivial), by repeat (first | (with_reducible first | exact HI0.out | apply IsS68.alloc | apply IsS68.drewN | apply IsS68.drew | apply IsS68.set_1 | refine IsS68.far ?_ NB0_301.out _ | refine IsS68.far ?_ NB0_302.out _) | exact HI0.out), zm HB, by repeat (first | (with_reducible first | exact HK.out | apply KeepBut.set_ | apply keep_drewN | apply keep_drew | apply keep_alloc | refine keep_far ?_ GW301.out _ | refine keep_far ?_ GW302.out _) | exact HK.out)⟩

/-! ### booklet_Make: function 35 -/
mutual
def booklet_Make.l0 : Nat → List (List Int) → Int → Int → Int → List (S65) → Option ((List (List Int)) × Int)
  | 0, _, _, _, _, _ => none
  | k + 1, x4, x5, x316000, x316001, x316002 => if x5 < (x316002.length : Int) then (booklet_Make.l1 k x4 x5 ([] : List Int) 30 x316000 x316001 x316002) else (booklet_Make.l2 k x4)
def booklet_Make.l1 : Nat → List (List Int) → Int → List Int → Int → Int → Int → List (S65) → Option ((List (List Int)) × Int)
  | 0, _, _, _, _, _, _, _ => none
  | k + 1, x4, x5, x6, x7, x316000, x316001, x316002 => if x5 < (x316002.length : Int) then (if 0 ≤ x5 then ((booklet_Need.f k ((rd_T65 x316002 x5).f0) ((rd_T65 x316002 x5).f1) ((rd_T65 x316002 x5).f2) ((rd_T65 x316002 x5).f3) ((rd_T65 x316002 x5).f4) ((rd_T65 x316002 x5).f5)).bind fun t322 => (if (wrap64 (x7 - t322)) < 0 then (if x4.length < 5864062014805 then (booklet_Make.l0 k (x4 ++ [x6]) x5 x316000 x316001 x316002) else (none)) else (if x6.length < 17592186044416 then (booklet_Make.l1 k x4 (wrap64 (x5 + 1)) (x6 ++ [x5]) (wrap64 (x7 - t322)) x316000 x316001 x316002) else (none)))) else (none)) else (if x4.length < 5864062014805 then (booklet_Make.l0 k (x4 ++ [x6]) x5 x316000 x316001 x316002) else (none))
def booklet_Make.l2 : Nat → List (List Int) → Option ((List (List Int)) × Int)
  | 0, _ => none
  | k + 1, x4 => if ((x4.length : Int) % 4) = 0 then (if (x4.length : Int) > 12 then (some (([] : List (List Int)), 3)) else (some (x4, 0))) else (if x4.length < 5864062014805 then (booklet_Make.l2 k (x4 ++ [[]])) else (none))
end
def booklet_Make.f (k : Nat) (a0_0 : Int) (a0_1 : Int) (l0_2 : List (S65)) : Option ((List (List Int)) × Int) := (item_ValidPaper.f k a0_0 a0_1 l0_2).bind fun t317 => (if t317 = true then (booklet_Make.l0 k (([[]] : List (List Int))) 0 a0_0 a0_1 l0_2) else (some (([] : List (List Int)), 1)))
theorem booklet_Make.mono_l : ∀ k, (∀ y0 y1 y2 y3 y4, LeO (booklet_Make.l0 k y0 y1 y2 y3 y4) (booklet_Make.l0 (k + 1) y0 y1 y2 y3 y4)) ∧ (∀ y0 y1 y2 y3 y4 y5 y6, LeO (booklet_Make.l1 k y0 y1 y2 y3 y4 y5 y6) (booklet_Make.l1 (k + 1) y0 y1 y2 y3 y4 y5 y6)) ∧ (∀ y0, LeO (booklet_Make.l2 k y0) (booklet_Make.l2 (k + 1) y0))
  | 0 => ⟨fun _ _ _ _ _ r h => by simp [booklet_Make.l0] at h, fun _ _ _ _ _ _ _ r h => by simp [booklet_Make.l1] at h, fun _ r h => by simp [booklet_Make.l2] at h⟩
  | k + 1 => by
    obtain ⟨ih0, ih1, ih2⟩ := booklet_Make.mono_l k
    refine ⟨?_, ?_, ?_⟩
    · intro y0 y1 y2 y3 y4
      unfold booklet_Make.l0
      repeat' first
      | (with_reducible exact ih0 _ _ _ _ _)
      | (with_reducible exact ih1 _ _ _ _ _ _ _)
      | (with_reducible exact ih2 _)
      | (with_reducible exact booklet_Need.mono _ _ _ _ _ _ _)
      | (with_reducible exact item_ValidPaper.mono _ _ _ _)
      | (with_reducible exact LeO.refl _)
      | (with_reducible exact LeO.none _)
      | (with_reducible refine LeO.ite ?_ ?_)
      | (with_reducible refine LeO.bind ?_ (fun _ => ?_))
      | exact ih0 _ _ _ _ _
      | exact ih1 _ _ _ _ _ _ _
      | exact ih2 _
      | exact booklet_Need.mono _ _ _ _ _ _ _
      | exact item_ValidPaper.mono _ _ _ _
      | exact LeO.none _
      | refine LeO.ite ?_ ?_
      | refine LeO.bind ?_ (fun _ => ?_)
    · intro y0 y1 y2 y3 y4 y5 y6
      unfold booklet_Make.l1
      repeat' first
      | (with_reducible exact ih0 _ _ _ _ _)
      | (with_reducible exact ih1 _ _ _ _ _ _ _)
      | (with_reducible exact ih2 _)
      | (with_reducible exact booklet_Need.mono _ _ _ _ _ _ _)
      | (with_reducible exact item_ValidPaper.mono _ _ _ _)
      | (with_reducible exact LeO.refl _)
      | (with_reducible exact LeO.none _)
      | (with_reducible refine LeO.ite ?_ ?_)
      | (with_reducible refine LeO.bind ?_ (fun _ => ?_))
      | exact ih0 _ _ _ _ _
      | exact ih1 _ _ _ _ _ _ _
      | exact ih2 _
      | exact booklet_Need.mono _ _ _ _ _ _ _
      | exact item_ValidPaper.mono _ _ _ _
      | exact LeO.none _
      | refine LeO.ite ?_ ?_
      | refine LeO.bind ?_ (fun _ => ?_)
    · intro y0
      unfold booklet_Make.l2
      repeat' first
      | (with_reducible exact ih0 _ _ _ _ _)
      | (with_reducible exact ih1 _ _ _ _ _ _ _)
      | (with_reducible exact ih2 _)
      | (with_reducible exact booklet_Need.mono _ _ _ _ _ _ _)
      | (with_reducible exact item_ValidPaper.mono _ _ _ _)
      | (with_reducible exact LeO.refl _)
      | (with_reducible exact LeO.none _)
      | (with_reducible refine LeO.ite ?_ ?_)
      | (with_reducible refine LeO.bind ?_ (fun _ => ?_))
      | exact ih0 _ _ _ _ _
      | exact ih1 _ _ _ _ _ _ _
      | exact ih2 _
      | exact booklet_Need.mono _ _ _ _ _ _ _
      | exact item_ValidPaper.mono _ _ _ _
      | exact LeO.none _
      | refine LeO.ite ?_ ?_
      | refine LeO.bind ?_ (fun _ => ?_)
theorem booklet_Make.mono : ∀ a0 a1 a2 k, LeO (booklet_Make.f k a0 a1 a2) (booklet_Make.f (k + 1) a0 a1 a2) := by
  intro a0 a1 a2 k
  obtain ⟨ih0, ih1, ih2⟩ := booklet_Make.mono_l k
  unfold booklet_Make.f
  repeat' first
      | (with_reducible exact ih0 _ _ _ _ _)
      | (with_reducible exact ih1 _ _ _ _ _ _ _)
      | (with_reducible exact ih2 _)
      | (with_reducible exact booklet_Need.mono _ _ _ _ _ _ _)
      | (with_reducible exact item_ValidPaper.mono _ _ _ _)
      | (with_reducible exact LeO.refl _)
      | (with_reducible exact LeO.none _)
      | (with_reducible refine LeO.ite ?_ ?_)
      | (with_reducible refine LeO.bind ?_ (fun _ => ?_))
      | exact ih0 _ _ _ _ _
      | exact ih1 _ _ _ _ _ _ _
      | exact ih2 _
      | exact booklet_Need.mono _ _ _ _ _ _ _
      | exact item_ValidPaper.mono _ _ _ _
      | exact LeO.none _
      | refine LeO.ite ?_ ?_
      | refine LeO.bind ?_ (fun _ => ?_)
set_option maxHeartbeats 8000000 in
set_option maxRecDepth 100000 in
theorem booklet_Make.calls (k : Nat) (a0_0 : Int) (a0_1 : Int) (A0_2 : Option Addr) (c0_2 : Nat) (l0_2 : List (S65)) (r1 : List (List Int)) (r2 : Int) (w : World) (hr0_2 : Kd.C k65 w A0_2 l0_2.length l0_2) (hc0_2 : l0_2.length ≤ c0_2) (h : booklet_Make.f k a0_0 a0_1 l0_2 = some (r1, r2)) :
    Calls Try.prog 35 #[.agg #[.int .i64 a0_0, .int .i64 a0_1, .slice A0_2 l0_2.length c0_2]] w fun e w' => ∃ v0_ : Value, e = .returned (.tuple #[.agg #[v0_], .int .i64 r2]) ∧ Kd.S (Kd.slice 3 (Kd.int .i64)) 28 w' w.heap.size (fun _ => True) v0_ r1 ∧ Below w.heap.size w w' := by
 have hu53 := Try.underlying53
 have hu56 := Try.underlying56
 have hu65 := Try.underlying65
 have HR0_2 := za hr0_2
 have HC0_2 := za hc0_2
 clear hr0_2 hc0_2
 have HB := za (Below.refl w.heap.size w)
 have H : ((item_ValidPaper.f k a0_0 a0_1 l0_2).bind fun t317 => (if t317 = true then (booklet_Make.l0 k (([[]] : List (List Int))) 0 a0_0 a0_1 l0_2) else (some (([] : List (List Int)), 1)))) = some (r1, r2) := h
 clear h
 replace H := Option.bind_eq_some_iff.mp H
 obtain ⟨t317, A20, H⟩ := H
 replace H : (if t317 = true then (booklet_Make.l0 k (([[]] : List (List Int))) 0 a0_0 a0_1 l0_2) else (some (([] : List (List Int)), 1))) = some (r1, r2) := H
 have A2 := za A20
 clear A20
 by_cases c3 : t317 = true
 ·subst c3
  have H1 : (booklet_Make.l0 k (([[]] : List (List Int))) 0 a0_0 a0_1 l0_2) = some (r1, r2) := by rw [if_pos rfl] at H; exact H
  clear H
  have H := H1
  clear H1
  obtain ⟨y318, hy318⟩ : ∃ y_ : List (List Int), y_ = (([[]] : List (List Int))) := ⟨_, rfl⟩
  replace H : (booklet_Make.l0 k y318 0 a0_0 a0_1 l0_2) = some (r1, r2) := by first | (rw [hy318]; with_reducible exact H) | (have H2_ := (Option.bind_some _ _).symm.trans H; rw [hy318]; with_reducible exact H2_) | (have H2_ := (Option.bind_some _ _).symm.trans H; with_reducible exact H2_) | with_reducible exact H | (rw [hy318]; exact H) | exact H
  have Ny318 := za hy318
  clear hy318
  have H' := za H
  clear H
  go_enter Try.func35, Try.ntmps35
  go_wp2_with (first | ((with_reducible refine gate_dst (N := 1) rfl ?_); refine zE 1 #[.int .i64 a0_0, .int .i64 a0_1, .slice A0_2 l0_2.length c0_2] 53 ?_; intro gb315 hg w4 hbox hb; have BK315 := za (hbox); have GW315 := zg HB hg; have GE315 := zg HB hg; replace HB := zs HB hb; clear hb hbox hg) | ((with_reducible refine gate_dst (N := 2) rfl ?_); refine zE 2 #[.slice none 0 0] 56 ?_; intro gb316 hg w5 hbox hb; have BK316 := za (hbox); have GW316 := zg HB hg; have GE316 := zg HB hg; have NB315_316 := zl BK315 hg; have NB316_315 := zr BK315 hg; replace BK315 := zb BK315 hb; replace HB := zs HB hb; clear hb hbox hg; have hnb6 := NB315_316.out; have hnc6 := NB316_315.out; obtain ⟨hcz7_0, hcz7_1, hcz7_2, hfz7_0, hfz7_1, hfz7_2⟩ := z3 BK315) | ((with_reducible refine gate_callee (f := 52) rfl ?_); refine zL (some 9) Try.func52 #[.agg #[.int .i64 a0_0, .int .i64 a0_1, .slice A0_2 l0_2.length c0_2]] ?_; (with_reducible refine (item_ValidPaper.calls k a0_0 a0_1 _ _ l0_2 true _ ?side1 ?side2 A2.out).mono ?_); (case side1 => exact zC HR0_2 HB); (case side2 => exact HC0_2.out); rintro e w8 ⟨rfl, hb⟩; refine ⟨_, rfl, ?_⟩; replace BK315 := zb BK315 hb; replace BK316 := zb BK316 hb; replace HB := zs HB hb; (try clear hb); (try clear hb2); (try clear hk); (try clear hi)) | ((with_reducible refine gate_dst (N := 12) rfl ?_); refine Kd.S_lit (Kd.slice 3 (Kd.int .i64)) _ 28 ?hg (N := 12) ?hd (xs := ([[]] : List (List Int))) (inner := [.slice none 0 0]) (ok := fun _ => True) (okp := fun _ => True) ?hr ?hp (fun _ hk => hk) trivial (Below.refl _ _) (Nat.le_refl _) (by simp) ?_; (case hd => rfl); (case hg => rfl); (case hr => first | (go_simp; done) | (go_simp; rfl)); (case hp => exact (Reps.one (show Kd.M (Kd.slice 3 (Kd.int .i64)) _ _ _ [] [.slice none 0 0] from ⟨_, rfl, Kd.R_nil _ _ _ _ _⟩) (Reps.none _ _))); intro v319 w9 ho10 hb hg_ hnew_; clear hg_ hnew_; (first | rw [← Ny318.out] at ho10 | (simp only [Int.reduceToNat] at ho10; rw [← Ny318.out] at ho10)); have HO320 := za (Kd.S_lower ho10 (below_size (zm HB))); replace BK315 := zb BK315 hb; replace BK316 := zb BK316 hb; replace HB := zs HB hb; clear hb ho10))
  refine wp_scope_body ?_
  go_wp2_with (first | ((with_reducible refine gate_dst (N := 1) rfl ?_); refine zE 1 #[.int .i64 a0_0, .int .i64 a0_1, .slice A0_2 l0_2.length c0_2] 53 ?_; intro gb315 hg w4 hbox hb; have BK315 := za (hbox); have GW315 := zg HB hg; have GE315 := zg HB hg; replace HB := zs HB hb; clear hb hbox hg) | ((with_reducible refine gate_dst (N := 2) rfl ?_); refine zE 2 #[.slice none 0 0] 56 ?_; intro gb316 hg w5 hbox hb; have BK316 := za (hbox); have GW316 := zg HB hg; have GE316 := zg HB hg; have NB315_316 := zl BK315 hg; have NB316_315 := zr BK315 hg; replace BK315 := zb BK315 hb; replace HB := zs HB hb; clear hb hbox hg; have hnb6 := NB315_316.out; have hnc6 := NB316_315.out; obtain ⟨hcz7_0, hcz7_1, hcz7_2, hfz7_0, hfz7_1, hfz7_2⟩ := z3 BK315) | ((with_reducible refine gate_callee (f := 52) rfl ?_); refine zL (some 9) Try.func52 #[.agg #[.int .i64 a0_0, .int .i64 a0_1, .slice A0_2 l0_2.length c0_2]] ?_; (with_reducible refine (item_ValidPaper.calls k a0_0 a0_1 _ _ l0_2 true _ ?side1 ?side2 A2.out).mono ?_); (case side1 => exact zC HR0_2 HB); (case side2 => exact HC0_2.out); rintro e w8 ⟨rfl, hb⟩; refine ⟨_, rfl, ?_⟩; replace BK315 := zb BK315 hb; replace BK316 := zb BK316 hb; replace HB := zs HB hb; (try clear hb); (try clear hb2); (try clear hk); (try clear hi)) | ((with_reducible refine gate_dst (N := 12) rfl ?_); refine Kd.S_lit (Kd.slice 3 (Kd.int .i64)) _ 28 ?hg (N := 12) ?hd (xs := ([[]] : List (List Int))) (inner := [.slice none 0 0]) (ok := fun _ => True) (okp := fun _ => True) ?hr ?hp (fun _ hk => hk) trivial (Below.refl _ _) (Nat.le_refl _) (by simp) ?_; (case hd => rfl); (case hg => rfl); (case hr => first | (go_simp; done) | (go_simp; rfl)); (case hp => exact (Reps.one (show Kd.M (Kd.slice 3 (Kd.int .i64)) _ _ _ [] [.slice none 0 0] from ⟨_, rfl, Kd.R_nil _ _ _ _ _⟩) (Reps.none _ _))); intro v319 w9 ho10 hb hg_ hnew_; clear hg_ hnew_; (first | rw [← Ny318.out] at ho10 | (simp only [Int.reduceToNat] at ho10; rw [← Ny318.out] at ho10)); have HO320 := za (Kd.S_lower ho10 (below_size (zm HB))); replace BK315 := zb BK315 hb; replace BK316 := zb BK316 hb; replace HB := zs HB hb; clear hb ho10))
  refine wp_label ?_
  go_wp2
  go_loopg [4, 5] k (fun kq v4 v5 w' => ∃ (x4_1 : List (List Int)) (x5_1 : Int), v5 = .int .i64 x5_1 ∧ Aside0 (booklet_Make.l0 kq x4_1 x5_1 a0_0 a0_1 l0_2 = some (r1, r2)) ∧ Aside0 (kq ≤ k) ∧ Aside0 (Kd.S (Kd.slice 3 (Kd.int .i64)) 28 w' w.heap.size (fun _ => True) v4 x4_1) ∧ Aside0 (w'.heap[gb315]? = some (.cells #[.int .i64 a0_0, .int .i64 a0_1, (.slice A0_2 l0_2.length c0_2)] 53 (0, 0))) ∧ Aside0 (w'.heap[gb316]? = some (.cells #[(.slice none 0 0)] 56 (0, 0))) ∧ Aside0 (Below w.heap.size w w'))
  case atStart => exact ⟨(y318), (0), (by first | rfl | (simp; done) | (simp [*]; done)), H', ⟨Nat.le_refl _⟩, ⟨by (with_reducible repeat (first | apply Kd.S_alloc | apply Kd.S_drewN | apply Kd.S_drew)); exact HO320.out⟩, ⟨by (with_reducible repeat (first | refine blk_drewN ?_ _ | refine blk_drew ?_ | refine blk_alloc ?_ _)); exact BK315.out⟩, ⟨by (with_reducible repeat (first | refine blk_drewN ?_ _ | refine blk_drew ?_ | refine blk_alloc ?_ _)); exact BK316.out⟩, ⟨zm HB⟩⟩
  case round =>
   clear H'
   try clear p2
   try clear c3
   try clear c5
   try clear c6
   try clear hcz7_0
   try clear hcz7_1
   try clear hcz7_2
   try clear hfz7_0
   try clear hfz7_1
   try clear hfz7_2
   obtain ⟨x4_1, x5_1, rfl, HA, HK1, HO_4, BK315, BK316, HB⟩ := hrel
   cases gk with
   | zero => exact absurd HA.out (by simp [booklet_Make.l0])
   | succ k1 =>
    have H := HA.out
    clear HA
    simp only [booklet_Make.l0] at H
    by_cases c11 : x5_1 < (l0_2.length : Int)
    ·rw [if_pos c11] at H
     have c11b0 : decide (x5_1 < (l0_2.length : Int)) = true := decide_eq_true c11
     clear c11
     have H' := za H
     clear H
     have hnb12 := NB315_316.out
     have hnc12 := NB316_315.out
     obtain ⟨hcz13_0, hcz13_1, hcz13_2, hfz13_0, hfz13_1, hfz13_2⟩ := z3 BK315
     go_wp2
     go_loopg [4, 5, 6, 7] k1 (fun kq v4 v5 v6 v7 w' => ∃ (x4_2 : List (List Int)) (x5_2 : Int) (x6_2 : List Int) (x7_2 : Int), v5 = .int .i64 x5_2 ∧ v7 = .int .i64 x7_2 ∧ Aside0 (booklet_Make.l1 kq x4_2 x5_2 x6_2 x7_2 a0_0 a0_1 l0_2 = some (r1, r2)) ∧ Aside0 (kq ≤ k1) ∧ Aside0 (Kd.S (Kd.slice 3 (Kd.int .i64)) 28 w' w.heap.size (fun k_ => some k_ ≠ (v6 : Value).ownBlock) v4 x4_2) ∧ Aside0 (Kd.R (Kd.int .i64) 3 w' w.heap.size (fun _ => True) v6 x6_2) ∧ Aside0 (w'.heap[gb315]? = some (.cells #[.int .i64 a0_0, .int .i64 a0_1, (.slice A0_2 l0_2.length c0_2)] 53 (0, 0))) ∧ Aside0 (w'.heap[gb316]? = some (.cells #[(.slice none 0 0)] 56 (0, 0))) ∧ Aside0 (Below w.heap.size w w'))
     case atStart => exact ⟨(x4_1), (x5_1), (([] : List Int)), (30), (by first | rfl | (simp; done) | (simp [*]; done)), (by first | rfl | (simp; done) | (simp [*]; done)), H', ⟨Nat.le_refl _⟩, ⟨by (with_reducible repeat (first | apply Kd.S_alloc | apply Kd.S_drewN | apply Kd.S_drew)); exact Kd.S_mono HO_4.out (fun _ hk => (by simp [Value.ownBlock]))⟩, ⟨by first | exact Kd.R_nil _ _ _ _ _ | exact Kd.N_nil _ _ _ _ _ | exact Kd.V_nil _ _ _ _ _ | exact Kd.Q_nil _ _ _ _ _ | exact Kd.S_nil _ _ _ _ _⟩, ⟨by (with_reducible repeat (first | refine blk_drewN ?_ _ | refine blk_drew ?_ | refine blk_alloc ?_ _)); exact BK315.out⟩, ⟨by (with_reducible repeat (first | refine blk_drewN ?_ _ | refine blk_drew ?_ | refine blk_alloc ?_ _)); exact BK316.out⟩, ⟨zm HB⟩⟩
     case round =>
      clear H'
      try clear c1
      try clear p2
      try clear c3
      try clear c5
      try clear c6
      try clear c11
      try clear c11b0
      try clear c12
      try clear hcz13_0
      try clear hcz13_1
      try clear hcz13_2
      try clear hcz7_0
      try clear hcz7_1
      try clear hcz7_2
      try clear hfz13_0
      try clear hfz13_1
      try clear hfz13_2
      try clear hfz7_0
      try clear hfz7_1
      try clear hfz7_2
      try clear p2
      obtain ⟨x4_2, x5_2, x6_2, x7_2, rfl, rfl, HA, HK2, HO_4, HO_6, BK315, BK316, HB⟩ := hrel
      cases gk with
      | zero => exact absurd HA.out (by simp [booklet_Make.l1])
      | succ k2 =>
       have H := HA.out
       clear HA
       simp only [booklet_Make.l1] at H
       by_cases c14 : x5_2 < (l0_2.length : Int)
       ·rw [if_pos c14] at H
        have c14b0 : decide (x5_2 < (l0_2.length : Int)) = true := decide_eq_true c14
        clear c14
        by_cases c15 : 0 ≤ x5_2
        ·rw [if_pos c15] at H
         have c15b0 : decide (0 ≤ x5_2) = true := decide_eq_true c15
         clear c15
         replace H := Option.bind_eq_some_iff.mp H
         obtain ⟨t322, A160, H⟩ := H
         replace H : (if (wrap64 (x7_2 - t322)) < 0 then (if x4_2.length < 5864062014805 then (booklet_Make.l0 k2 (x4_2 ++ [x6_2]) x5_2 a0_0 a0_1 l0_2) else (none)) else (if x6_2.length < 17592186044416 then (booklet_Make.l1 k2 x4_2 (wrap64 (x5_2 + 1)) (x6_2 ++ [x5_2]) (wrap64 (x7_2 - t322)) a0_0 a0_1 l0_2) else (none))) = some (r1, r2) := H
         have A16 := za A160
         clear A160
         by_cases c17 : (wrap64 (x7_2 - t322)) < 0
         ·rw [if_pos c17] at H
          have c17b0 : decide ((wrap64 (x7_2 - t322)) < 0) = true := decide_eq_true c17
          clear c17
          by_cases c18 : x4_2.length < 5864062014805
          ·rw [if_pos c18] at H
           have LMc18 := za c18
           clear c18
           obtain ⟨y323, hy323⟩ : ∃ y_ : List (List Int), y_ = (x4_2 ++ [x6_2]) := ⟨_, rfl⟩
           replace H : (booklet_Make.l0 k2 y323 x5_2 a0_0 a0_1 l0_2) = some (r1, r2) := by first | (rw [hy323]; with_reducible exact H) | (have H2_ := (Option.bind_some _ _).symm.trans H; rw [hy323]; with_reducible exact H2_) | (have H2_ := (Option.bind_some _ _).symm.trans H; with_reducible exact H2_) | with_reducible exact H | (rw [hy323]; exact H) | exact H
           have Ny323 := za hy323
           clear hy323
           have H' := za H
           clear H
           have hnb19 := NB315_316.out
           have hnc19 := NB316_315.out
           obtain ⟨hcz20_0, hcz20_1, hcz20_2, hfz20_0, hfz20_1, hfz20_2⟩ := z3 BK315
           have p321 : 0 ≤ (x5_2 : Int) := of_decide_eq_true (by first | (with_reducible assumption) | assumption)
           have q321 : x5_2 < (l0_2.length : Int) := of_decide_eq_true (by first | (with_reducible assumption) | assumption)
           obtain ⟨ad321, e321, hx321_0, hx321_1, hx321_2, hx321_3, hx321_4, hx321_5⟩ := at_T65 HR0_2.out x5_2 p321 q321
           cases e321
           replace hx321_0 := zx HB hx321_0
           replace hx321_1 := zx HB hx321_1
           replace hx321_2 := zx HB hx321_2
           replace hx321_3 := zx HB hx321_3
           replace hx321_4 := zx HB hx321_4
           replace hx321_5 := zx HB hx321_5
           replace p321 := eq_true p321
           replace q321 := eq_true q321
           go_wp2_with (first | ((with_reducible refine gate_callee (f := 55) rfl ?_); refine zL (some 31) Try.func55 #[.agg #[.int .i64 ((rd_T65 l0_2 x5_2).f0), .int .i64 ((rd_T65 l0_2 x5_2).f1), .int .i64 ((rd_T65 l0_2 x5_2).f2), .int .i64 ((rd_T65 l0_2 x5_2).f3), .int .i64 ((rd_T65 l0_2 x5_2).f4), .int .i64 ((rd_T65 l0_2 x5_2).f5)]] ?_; (with_reducible refine (booklet_Need.calls k2 ((rd_T65 l0_2 x5_2).f0) ((rd_T65 l0_2 x5_2).f1) ((rd_T65 l0_2 x5_2).f2) ((rd_T65 l0_2 x5_2).f3) ((rd_T65 l0_2 x5_2).f4) ((rd_T65 l0_2 x5_2).f5) t322 _ A16.out).mono ?_); rintro e w21 ⟨rfl, hb⟩; refine ⟨_, rfl, ?_⟩; replace HO_4 := zS HO_4 hb; replace HO_6 := zR HO_6 hb; replace BK315 := zb BK315 hb; replace BK316 := zb BK316 hb; replace HB := zs HB hb; (try clear hb); (try clear hb2); (try clear hk); (try clear hi); obtain ⟨Ao23, co23, eo23⟩ := Kd.R_slice HO_6.out; subst eo23) | ((with_reducible refine gate_builtin (b := .append) (xs := #[.tmp 35, .tmp 37]) rfl ?_); at_builtin; refine Kd.S_append (Kd.slice 3 (Kd.int .i64)) (w0 := w) w.heap.size rfl (.tmp 35) (.tmp 37) 47 28 (.slice none 0 0) 24 rfl Try.underlying47 info28 rfl (by decide) (by omega) u4 x4_2 x6_2 [.slice Ao23 x6_2.length co23] (fun _ => True) (fun k_ => some k_ = (.slice Ao23 x6_2.length co23 : Value).ownBlock) rfl rfl ?aP (fun k_ hk_ => ((Kd.R_mono (ok' := fun k_ => ((fun _ => True)) k_ ∧ some k_ ≠ (u4 : Value).ownBlock) (Kd.R_apart' (HO_6.out) (Kd.S_typed HO_4.out) (by decide)) (fun k_ hk => ⟨trivial, hk.2⟩))).1 k_ hk_.symm) ?aF ?aO ?aB ?aS ?aL ?_; (case aP => exact Kd.M_row (Kd.R_mono (Kd.R_tight rfl (Kd.R_mono (ok' := fun k_ => ((fun _ => True)) k_ ∧ some k_ ≠ (u4 : Value).ownBlock) (Kd.R_apart' (HO_6.out) (Kd.S_typed HO_4.out) (by decide)) (fun k_ hk => ⟨trivial, hk.2⟩))) (fun _ h_ => h_))); (case aB => exact (zm HB)); (case aF => exact (fun _ _ => trivial)); (case aO => exact (by (with_reducible repeat (first | apply Kd.S_alloc | apply Kd.S_drewN | apply Kd.S_drew)); exact Kd.S_mono HO_4.out (fun k_ hk => ⟨trivial, fun e_ => hk e_⟩))); (case aS => exact (below_size (zm HB))); (case aL => have := LMc18.out; omega); intro v324 w22 ho hb hg hat; rw [← Ny323.out] at ho; have HO325 := za (ho); replace BK315 := (zw BK315 hg (Kd.S_ne HO_4.out BK315.out (by decide))); replace BK316 := (zw BK316 hg (Kd.S_ne HO_4.out BK316.out (by decide))); replace HB := za (hb); clear HO_4 HO_6 ho hb hg hat))
           go_roundg k2
           case measure => have := HK1.out; have := HK2.out; omega
           case rel => exact ⟨(y323), (x5_2), (by first | rfl | (simp; done) | (simp [*]; done)), H', ⟨by have := HK1.out; have := HK2.out; omega⟩, ⟨by (with_reducible repeat (first | apply Kd.S_alloc | apply Kd.S_drewN | apply Kd.S_drew)); exact HO325.out⟩, ⟨by (with_reducible repeat (first | refine blk_drewN ?_ _ | refine blk_drew ?_ | refine blk_alloc ?_ _)); exact BK315.out⟩, ⟨by (with_reducible repeat (first | refine blk_drewN ?_ _ | refine blk_drew ?_ | refine blk_alloc ?_ _)); exact BK316.out⟩, ⟨zm HB⟩⟩
          ·rw [if_neg c18] at H
           exact absurd H (by simp)
         ·rw [if_neg c17] at H
          have c17b0 : decide ((wrap64 (x7_2 - t322)) < 0) = false := decide_eq_false c17
          clear c17
          by_cases c24 : x6_2.length < 17592186044416
          ·rw [if_pos c24] at H
           have LMc24 := za c24
           clear c24
           obtain ⟨y326, hy326⟩ : ∃ y_ : List Int, y_ = (x6_2 ++ [x5_2]) := ⟨_, rfl⟩
           replace H : (booklet_Make.l1 k2 x4_2 (wrap64 (x5_2 + 1)) y326 (wrap64 (x7_2 - t322)) a0_0 a0_1 l0_2) = some (r1, r2) := by first | (rw [hy326]; with_reducible exact H) | (have H2_ := (Option.bind_some _ _).symm.trans H; rw [hy326]; with_reducible exact H2_) | (have H2_ := (Option.bind_some _ _).symm.trans H; with_reducible exact H2_) | with_reducible exact H | (rw [hy326]; exact H) | exact H
           have Ny326 := za hy326
           clear hy326
           have H' := za H
           clear H
           have hnb25 := NB315_316.out
           have hnc25 := NB316_315.out
           obtain ⟨hcz26_0, hcz26_1, hcz26_2, hfz26_0, hfz26_1, hfz26_2⟩ := z3 BK315
           have p321 : 0 ≤ (x5_2 : Int) := of_decide_eq_true (by first | (with_reducible assumption) | assumption)
           have q321 : x5_2 < (l0_2.length : Int) := of_decide_eq_true (by first | (with_reducible assumption) | assumption)
           obtain ⟨ad321, e321, hx321_0, hx321_1, hx321_2, hx321_3, hx321_4, hx321_5⟩ := at_T65 HR0_2.out x5_2 p321 q321
           cases e321
           replace hx321_0 := zx HB hx321_0
           replace hx321_1 := zx HB hx321_1
           replace hx321_2 := zx HB hx321_2
           replace hx321_3 := zx HB hx321_3
           replace hx321_4 := zx HB hx321_4
           replace hx321_5 := zx HB hx321_5
           replace p321 := eq_true p321
           replace q321 := eq_true q321
           go_wp2_with (first | ((with_reducible refine gate_callee (f := 55) rfl ?_); refine zL (some 31) Try.func55 #[.agg #[.int .i64 ((rd_T65 l0_2 x5_2).f0), .int .i64 ((rd_T65 l0_2 x5_2).f1), .int .i64 ((rd_T65 l0_2 x5_2).f2), .int .i64 ((rd_T65 l0_2 x5_2).f3), .int .i64 ((rd_T65 l0_2 x5_2).f4), .int .i64 ((rd_T65 l0_2 x5_2).f5)]] ?_; (with_reducible refine (booklet_Need.calls k2 ((rd_T65 l0_2 x5_2).f0) ((rd_T65 l0_2 x5_2).f1) ((rd_T65 l0_2 x5_2).f2) ((rd_T65 l0_2 x5_2).f3) ((rd_T65 l0_2 x5_2).f4) ((rd_T65 l0_2 x5_2).f5) t322 _ A16.out).mono ?_); rintro e w27 ⟨rfl, hb⟩; refine ⟨_, rfl, ?_⟩; replace HO_4 := zS HO_4 hb; replace HO_6 := zR HO_6 hb; replace BK315 := zb BK315 hb; replace BK316 := zb BK316 hb; replace HB := zs HB hb; (try clear hb); (try clear hb2); (try clear hk); (try clear hi)) | ((with_reducible refine gate_builtin (b := .append) (xs := #[.tmp 39, .tmp 41]) rfl ?_); at_builtin; refine Kd.R_append (Kd.int .i64) (w0 := w) w.heap.size rfl (.tmp 39) (.tmp 41) 28 3 (.int .i64 0) 8 rfl Try.underlying28 info3 rfl (by decide) (by omega) u6 x6_2 x5_2 [.int .i64 x5_2] (fun _ => True) (fun _ => False) rfl rfl ?aP (fun _ hk => hk.elim) ?aF ?aO ?aB ?aS ?aL ?_; (case aP => exact rfl); (case aB => exact (zm HB)); (case aF => exact (fun _ _ => trivial)); (case aO => exact (by (with_reducible repeat (first | apply Kd.R_alloc | apply Kd.R_drewN | apply Kd.R_drew)); exact HO_6.out)); (case aS => exact (below_size (zm HB))); (case aL => have := LMc24.out; omega); intro v327 w28 ho hb hg hat; rw [← Ny326.out] at ho; have HO328 := za (ho); replace HO_4 := za (Kd.S_after (ok := (fun _ => True)) (by (with_reducible repeat (first | apply Kd.S_alloc | apply Kd.S_drewN | apply Kd.S_drew)); exact Kd.S_mono HO_4.out (fun _ hk => ⟨trivial, hk⟩)) hg hat); replace BK315 := (zw BK315 hg (Kd.R_ne HO_6.out BK315.out (by decide))); replace BK316 := (zw BK316 hg (Kd.R_ne HO_6.out BK316.out (by decide))); replace HB := za (hb); clear HO_6 ho hb hg hat))
           go_roundg k2
           case measure => have := HK1.out; have := HK2.out; omega
           case rel => exact ⟨(x4_2), (wrap64 (x5_2 + 1)), (y326), (wrap64 (x7_2 - t322)), (by first | rfl | (simp; done) | (simp [*]; done)), (by first | rfl | (simp; done) | (simp [*]; done)), H', ⟨by have := HK1.out; have := HK2.out; omega⟩, ⟨by (with_reducible repeat (first | apply Kd.S_alloc | apply Kd.S_drewN | apply Kd.S_drew)); exact Kd.S_mono HO_4.out (fun _ hk => hk.2)⟩, ⟨by (with_reducible repeat (first | apply Kd.R_alloc | apply Kd.R_drewN | apply Kd.R_drew)); exact HO328.out⟩, ⟨by (with_reducible repeat (first | refine blk_drewN ?_ _ | refine blk_drew ?_ | refine blk_alloc ?_ _)); exact BK315.out⟩, ⟨by (with_reducible repeat (first | refine blk_drewN ?_ _ | refine blk_drew ?_ | refine blk_alloc ?_ _)); exact BK316.out⟩, ⟨zm HB⟩⟩
          ·rw [if_neg c24] at H
           exact absurd H (by simp)
        ·rw [if_neg c15] at H
         exact absurd H (by simp)
       ·rw [if_neg c14] at H
        have c14b0 : decide (x5_2 < (l0_2.length : Int)) = false := decide_eq_false c14
        clear c14
        by_cases c29 : x4_2.length < 5864062014805
        ·rw [if_pos c29] at H
         have LMc29 := za c29
         clear c29
         obtain ⟨y329, hy329⟩ : ∃ y_ : List (List Int), y_ = (x4_2 ++ [x6_2]) := ⟨_, rfl⟩
         replace H : (booklet_Make.l0 k2 y329 x5_2 a0_0 a0_1 l0_2) = some (r1, r2) := by first | (rw [hy329]; with_reducible exact H) | (have H2_ := (Option.bind_some _ _).symm.trans H; rw [hy329]; with_reducible exact H2_) | (have H2_ := (Option.bind_some _ _).symm.trans H; with_reducible exact H2_) | with_reducible exact H | (rw [hy329]; exact H) | exact H
         have Ny329 := za hy329
         clear hy329
         have H' := za H
         clear H
         have hnb30 := NB315_316.out
         have hnc30 := NB316_315.out
         obtain ⟨hcz31_0, hcz31_1, hcz31_2, hfz31_0, hfz31_1, hfz31_2⟩ := z3 BK315
         obtain ⟨Ao33, co33, eo33⟩ := Kd.R_slice HO_6.out
         subst eo33
         go_wp2_with (first | ((with_reducible refine gate_builtin (b := .append) (xs := #[.tmp 43, .tmp 45]) rfl ?_); at_builtin; refine Kd.S_append (Kd.slice 3 (Kd.int .i64)) (w0 := w) w.heap.size rfl (.tmp 43) (.tmp 45) 47 28 (.slice none 0 0) 24 rfl Try.underlying47 info28 rfl (by decide) (by omega) u4 x4_2 x6_2 [.slice Ao33 x6_2.length co33] (fun _ => True) (fun k_ => some k_ = (.slice Ao33 x6_2.length co33 : Value).ownBlock) rfl rfl ?aP (fun k_ hk_ => ((Kd.R_mono (ok' := fun k_ => ((fun _ => True)) k_ ∧ some k_ ≠ (u4 : Value).ownBlock) (Kd.R_apart' (HO_6.out) (Kd.S_typed HO_4.out) (by decide)) (fun k_ hk => ⟨trivial, hk.2⟩))).1 k_ hk_.symm) ?aF ?aO ?aB ?aS ?aL ?_; (case aP => exact Kd.M_row (Kd.R_mono (Kd.R_tight rfl (Kd.R_mono (ok' := fun k_ => ((fun _ => True)) k_ ∧ some k_ ≠ (u4 : Value).ownBlock) (Kd.R_apart' (HO_6.out) (Kd.S_typed HO_4.out) (by decide)) (fun k_ hk => ⟨trivial, hk.2⟩))) (fun _ h_ => h_))); (case aB => exact (zm HB)); (case aF => exact (fun _ _ => trivial)); (case aO => exact (by (with_reducible repeat (first | apply Kd.S_alloc | apply Kd.S_drewN | apply Kd.S_drew)); exact Kd.S_mono HO_4.out (fun k_ hk => ⟨trivial, fun e_ => hk e_⟩))); (case aS => exact (below_size (zm HB))); (case aL => have := LMc29.out; omega); intro v330 w32 ho hb hg hat; rw [← Ny329.out] at ho; have HO331 := za (ho); replace BK315 := (zw BK315 hg (Kd.S_ne HO_4.out BK315.out (by decide))); replace BK316 := (zw BK316 hg (Kd.S_ne HO_4.out BK316.out (by decide))); replace HB := za (hb); clear HO_4 HO_6 ho hb hg hat))
         go_roundg k2
         case measure => have := HK1.out; have := HK2.out; omega
         case rel => exact ⟨(y329), (x5_2), (by first | rfl | (simp; done) | (simp [*]; done)), H', ⟨by have := HK1.out; have := HK2.out; omega⟩, ⟨by (with_reducible repeat (first | apply Kd.S_alloc | apply Kd.S_drewN | apply Kd.S_drew)); exact HO331.out⟩, ⟨by (with_reducible repeat (first | refine blk_drewN ?_ _ | refine blk_drew ?_ | refine blk_alloc ?_ _)); exact BK315.out⟩, ⟨by (with_reducible repeat (first | refine blk_drewN ?_ _ | refine blk_drew ?_ | refine blk_alloc ?_ _)); exact BK316.out⟩, ⟨zm HB⟩⟩
        ·rw [if_neg c29] at H
         exact absurd H (by simp)
    ·rw [if_neg c11] at H
     have c11b0 : decide (x5_1 < (l0_2.length : Int)) = false := decide_eq_false c11
     clear c11
     have H' := za H
     clear H
     have hnb34 := NB315_316.out
     have hnc34 := NB316_315.out
     obtain ⟨hcz35_0, hcz35_1, hcz35_2, hfz35_0, hfz35_1, hfz35_2⟩ := z3 BK315
     go_wp2
     go_loopg [4] k1 (fun kq v4 w' => ∃ (x4_2 : List (List Int)), Aside0 (booklet_Make.l2 kq x4_2 = some (r1, r2)) ∧ Aside0 (kq ≤ k1) ∧ Aside0 (Kd.S (Kd.slice 3 (Kd.int .i64)) 28 w' w.heap.size (fun _ => True) v4 x4_2) ∧ Aside0 (w'.heap[gb315]? = some (.cells #[.int .i64 a0_0, .int .i64 a0_1, (.slice A0_2 l0_2.length c0_2)] 53 (0, 0))) ∧ Aside0 (w'.heap[gb316]? = some (.cells #[(.slice none 0 0)] 56 (0, 0))) ∧ Aside0 (Below w.heap.size w w'))
     case atStart => exact ⟨(x4_1), H', ⟨Nat.le_refl _⟩, ⟨by (with_reducible repeat (first | apply Kd.S_alloc | apply Kd.S_drewN | apply Kd.S_drew)); exact HO_4.out⟩, ⟨by (with_reducible repeat (first | refine blk_drewN ?_ _ | refine blk_drew ?_ | refine blk_alloc ?_ _)); exact BK315.out⟩, ⟨by (with_reducible repeat (first | refine blk_drewN ?_ _ | refine blk_drew ?_ | refine blk_alloc ?_ _)); exact BK316.out⟩, ⟨zm HB⟩⟩
     case round =>
      clear H'
      try clear c1
      try clear c2
      try clear p2
      try clear c3
      try clear p3
      try clear q3
      try clear hx3
      try clear c5
      try clear c6
      try clear p6
      try clear c11
      try clear c11b0
      try clear c12
      try clear c14
      try clear c14b0
      try clear c15
      try clear c15b0
      try clear c17
      try clear c17b0
      try clear c18
      try clear c19
      try clear c24
      try clear c25
      try clear c29
      try clear c30
      try clear p32
      try clear q32
      try clear hx32
      try clear c34
      try clear c35
      try clear hcz13_0
      try clear hcz13_1
      try clear hcz13_2
      try clear hcz20_0
      try clear hcz20_1
      try clear hcz20_2
      try clear hcz26_0
      try clear hcz26_1
      try clear hcz26_2
      try clear hcz31_0
      try clear hcz31_1
      try clear hcz31_2
      try clear hcz35_0
      try clear hcz35_1
      try clear hcz35_2
      try clear hcz7_0
      try clear hcz7_1
      try clear hcz7_2
      try clear hfz13_0
      try clear hfz13_1
      try clear hfz13_2
      try clear hfz20_0
      try clear hfz20_1
      try clear hfz20_2
      try clear hfz26_0
      try clear hfz26_1
      try clear hfz26_2
      try clear hfz31_0
      try clear hfz31_1
      try clear hfz31_2
      try clear hfz35_0
      try clear hfz35_1
      try clear hfz35_2
      try clear hfz7_0
      try clear hfz7_1
      try clear hfz7_2
      try clear hx321_0
      try clear hx321_1
      try clear hx321_2
      try clear hx321_3
      try clear hx321_4
      try clear hx321_5
      try clear p2
      try clear p321
      try clear q321
      obtain ⟨x4_2, HA, HK2, HO_4, BK315, BK316, HB⟩ := hrel
      cases gk with
      | zero => exact absurd HA.out (by simp [booklet_Make.l2])
      | succ k2 =>
       have H := HA.out
       clear HA
       simp only [booklet_Make.l2] at H
       by_cases c36 : ((x4_2.length : Int) % 4) = 0
       ·rw [if_pos c36] at H
        have c36b0 : (((x4_2.length : Int) % 4) == 0) = true := beq_iff_eq.mpr c36
        have c36b1 : (((x4_2.length : Int) % 4) != 0) = false := bne_eq_false_iff_eq.mpr c36
        clear c36
        by_cases c37 : (x4_2.length : Int) > 12
        ·rw [if_pos c37] at H
         have c37b0 : decide (12 < (x4_2.length : Int)) = true := decide_eq_true c37
         have c37b1 : decide (12 < x4_2.length) = true := decide_eq_true (by omega)
         clear c37
         simp only [Option.some.injEq, Prod.mk.injEq] at H
         obtain ⟨rfl, rfl⟩ := H
         obtain ⟨Ao38, co38, eo38⟩ := Kd.S_slice HO_4.out
         subst eo38
         have hnb39 := NB316_315.out
         have hnc39 := NB315_316.out
         obtain ⟨hcz40_0, hfz40_0⟩ := z1 BK316
         go_wp2
         refine bodyPost_ret (results_ct rfl _ _ gb316 56 #[.slice none 0 0] (0, 0) _ rfl (by (with_reducible repeat (first | refine blk_drewN ?_ _ | refine blk_drew ?_ | refine blk_alloc ?_ _)); refine blk_put (cs := #[.slice none 0 0]) ?_ 0 _ rfl; (with_reducible repeat (first | refine blk_drewN ?_ _ | refine blk_drew ?_ | refine blk_alloc ?_ _)); exact BK316.out) Try.underlying56 rfl (by kernel_rfl)) rfl ?_
         exact ⟨_, zf, by first | exact Kd.S_nil _ _ _ _ _ | exact Kd.N_nil _ _ _ _ _ | exact Kd.V_nil _ _ _ _ _ | exact Kd.Q_nil _ _ _ _ _ | exact Kd.R_nil _ _ _ _ _, zm HB⟩
        ·rw [if_neg c37] at H
         have c37b0 : decide (12 < (x4_2.length : Int)) = false := decide_eq_false c37
         have c37b1 : decide (12 < x4_2.length) = false := decide_eq_false (by omega)
         clear c37
         simp only [Option.some.injEq, Prod.mk.injEq] at H
         obtain ⟨rfl, rfl⟩ := H
         obtain ⟨Ao41, co41, eo41⟩ := Kd.S_slice HO_4.out
         subst eo41
         have hnb42 := NB316_315.out
         have hnc42 := NB315_316.out
         obtain ⟨hcz43_0, hfz43_0⟩ := z1 BK316
         go_wp2
         refine bodyPost_ret (results_ct rfl _ _ gb316 56 #[.slice Ao41 x4_2.length co41] (0, 0) _ rfl (by (with_reducible repeat (first | refine blk_drewN ?_ _ | refine blk_drew ?_ | refine blk_alloc ?_ _)); refine blk_put (cs := #[.slice none 0 0]) ?_ 0 _ rfl; (with_reducible repeat (first | refine blk_drewN ?_ _ | refine blk_drew ?_ | refine blk_alloc ?_ _)); exact BK316.out) Try.underlying56 rfl (by kernel_rfl)) rfl ?_
         exact ⟨_, zf, by (with_reducible repeat (first | apply Kd.S_alloc | apply Kd.S_drewN | apply Kd.S_drew)); exact Kd.S_mono (Kd.S_far (p := ⟨gb316, 0, none⟩) (Kd.S_types HO_4.out BK316.out (by decide)) (fun _ hk => hk.2) (.slice Ao41 x4_2.length co41)) (fun _ hk => trivial), zm HB⟩
       ·rw [if_neg c36] at H
        have c36b0 : (((x4_2.length : Int) % 4) == 0) = false := beq_eq_false_iff_ne.mpr c36
        have c36b1 : (((x4_2.length : Int) % 4) != 0) = true := bne_iff_ne.mpr c36
        by_cases c44 : x4_2.length < 5864062014805
        ·rw [if_pos c44] at H
         have LMc44 := za c44
         clear c44
         obtain ⟨y332, hy332⟩ : ∃ y_ : List (List Int), y_ = (x4_2 ++ [[]]) := ⟨_, rfl⟩
         replace H : (booklet_Make.l2 k2 y332) = some (r1, r2) := by first | (rw [hy332]; with_reducible exact H) | (have H2_ := (Option.bind_some _ _).symm.trans H; rw [hy332]; with_reducible exact H2_) | (have H2_ := (Option.bind_some _ _).symm.trans H; with_reducible exact H2_) | with_reducible exact H | (rw [hy332]; exact H) | exact H
         have Ny332 := za hy332
         clear hy332
         have H' := za H
         clear H
         obtain ⟨Ao45, co45, eo45⟩ := Kd.S_slice HO_4.out
         subst eo45
         go_wp2_with (first | ((with_reducible refine gate_builtin (b := .append) (xs := #[.tmp 51, .tmp 52]) rfl ?_); at_builtin; refine Kd.S_append (Kd.slice 3 (Kd.int .i64)) (w0 := w) w.heap.size rfl (.tmp 51) (.tmp 52) 47 28 (.slice none 0 0) 24 rfl Try.underlying47 info28 rfl (by decide) (by omega) (.slice Ao45 x4_2.length co45) x4_2 ([] : List Int) [.slice none 0 0] (fun _ => True) (fun _ => False) rfl rfl ?aP (fun k_ hk_ => hk_.elim) ?aF ?aO ?aB ?aS ?aL ?_; (case aP => exact Kd.M_row (Kd.R_nil _ _ _ _ _)); (case aB => exact (zm HB)); (case aF => exact (fun _ _ => trivial)); (case aO => exact (by (with_reducible repeat (first | apply Kd.S_alloc | apply Kd.S_drewN | apply Kd.S_drew)); exact Kd.S_mono HO_4.out (fun k_ hk => ⟨trivial, fun e_ => e_⟩))); (case aS => exact (below_size (zm HB))); (case aL => have := LMc44.out; omega); intro v333 w46 ho hb hg hat; rw [← Ny332.out] at ho; have HO334 := za (ho); replace BK315 := (zw BK315 hg (Kd.S_ne HO_4.out BK315.out (by decide))); replace BK316 := (zw BK316 hg (Kd.S_ne HO_4.out BK316.out (by decide))); replace HB := za (hb); clear HO_4 ho hb hg hat))
         go_roundg k2
         case measure => have := HK1.out; have := HK2.out; omega
         case rel => exact ⟨(y332), H', ⟨by have := HK1.out; have := HK2.out; omega⟩, ⟨by (with_reducible repeat (first | apply Kd.S_alloc | apply Kd.S_drewN | apply Kd.S_drew)); exact HO334.out⟩, ⟨by (with_reducible repeat (first | refine blk_drewN ?_ _ | refine blk_drew ?_ | refine blk_alloc ?_ _)); exact BK315.out⟩, ⟨by (with_reducible repeat (first | refine blk_drewN ?_ _ | refine blk_drew ?_ | refine blk_alloc ?_ _)); exact BK316.out⟩, ⟨zm HB⟩⟩
        ·rw [if_neg c44] at H
         exact absurd H (by simp)
 ·replace c3 := Bool.eq_false_iff.mpr c3
  subst c3
  have H1 : (some (([] : List (List Int)), 1)) = some (r1, r2) := by rw [if_neg (show ¬ (false = true) by decide)] at H; exact H
  clear H
  have H := H1
  clear H1
  simp only [Option.some.injEq, Prod.mk.injEq] at H
  obtain ⟨rfl, rfl⟩ := H
  go_enter Try.func35, Try.ntmps35
  go_wp2_with (first | ((with_reducible refine gate_dst (N := 1) rfl ?_); refine zE 1 #[.int .i64 a0_0, .int .i64 a0_1, .slice A0_2 l0_2.length c0_2] 53 ?_; intro gb315 hg w47 hbox hb; have BK315 := za (hbox); have GW315 := zg HB hg; have GE315 := zg HB hg; replace HB := zs HB hb; clear hb hbox hg) | ((with_reducible refine gate_dst (N := 2) rfl ?_); refine zE 2 #[.slice none 0 0] 56 ?_; intro gb316 hg w48 hbox hb; have BK316 := za (hbox); have GW316 := zg HB hg; have GE316 := zg HB hg; have NB315_316 := zl BK315 hg; have NB316_315 := zr BK315 hg; replace BK315 := zb BK315 hb; replace HB := zs HB hb; clear hb hbox hg; have hnb49 := NB315_316.out; have hnc49 := NB316_315.out; obtain ⟨hcz50_0, hcz50_1, hcz50_2, hfz50_0, hfz50_1, hfz50_2⟩ := z3 BK315) | ((with_reducible refine gate_callee (f := 52) rfl ?_); refine zL (some 9) Try.func52 #[.agg #[.int .i64 a0_0, .int .i64 a0_1, .slice A0_2 l0_2.length c0_2]] ?_; (with_reducible refine (item_ValidPaper.calls k a0_0 a0_1 _ _ l0_2 false _ ?side1 ?side2 A2.out).mono ?_); (case side1 => exact zC HR0_2 HB); (case side2 => exact HC0_2.out); rintro e w51 ⟨rfl, hb⟩; refine ⟨_, rfl, ?_⟩; replace BK315 := zb BK315 hb; replace BK316 := zb BK316 hb; replace HB := zs HB hb; (try clear hb); (try clear hb2); (try clear hk); (try clear hi); obtain ⟨hcz52_0, hfz52_0⟩ := z1 BK316))
  refine wp_scope_body ?_
  go_wp2_with (first | ((with_reducible refine gate_dst (N := 1) rfl ?_); refine zE 1 #[.int .i64 a0_0, .int .i64 a0_1, .slice A0_2 l0_2.length c0_2] 53 ?_; intro gb315 hg w47 hbox hb; have BK315 := za (hbox); have GW315 := zg HB hg; have GE315 := zg HB hg; replace HB := zs HB hb; clear hb hbox hg) | ((with_reducible refine gate_dst (N := 2) rfl ?_); refine zE 2 #[.slice none 0 0] 56 ?_; intro gb316 hg w48 hbox hb; have BK316 := za (hbox); have GW316 := zg HB hg; have GE316 := zg HB hg; have NB315_316 := zl BK315 hg; have NB316_315 := zr BK315 hg; replace BK315 := zb BK315 hb; replace HB := zs HB hb; clear hb hbox hg; have hnb49 := NB315_316.out; have hnc49 := NB316_315.out; obtain ⟨hcz50_0, hcz50_1, hcz50_2, hfz50_0, hfz50_1, hfz50_2⟩ := z3 BK315) | ((with_reducible refine gate_callee (f := 52) rfl ?_); refine zL (some 9) Try.func52 #[.agg #[.int .i64 a0_0, .int .i64 a0_1, .slice A0_2 l0_2.length c0_2]] ?_; (with_reducible refine (item_ValidPaper.calls k a0_0 a0_1 _ _ l0_2 false _ ?side1 ?side2 A2.out).mono ?_); (case side1 => exact zC HR0_2 HB); (case side2 => exact HC0_2.out); rintro e w51 ⟨rfl, hb⟩; refine ⟨_, rfl, ?_⟩; replace BK315 := zb BK315 hb; replace BK316 := zb BK316 hb; replace HB := zs HB hb; (try clear hb); (try clear hb2); (try clear hk); (try clear hi); obtain ⟨hcz52_0, hfz52_0⟩ := z1 BK316))
  refine bodyPost_ret (results_ct rfl _ _ gb316 56 #[.slice none 0 0] (0, 0) _ rfl (by (with_reducible repeat (first | refine blk_drewN ?_ _ | refine blk_drew ?_ | refine blk_alloc ?_ _)); refine blk_put (cs := #[.slice none 0 0]) ?_ 0 _ rfl; (with_reducible repeat (first | refine blk_drewN ?_ _ | refine blk_drew ?_ | refine blk_alloc ?_ _)); exact BK316.out) Try.underlying56 rfl (by kernel_rfl)) rfl ?_
  exact ⟨_, zf, by first | exact Kd.S_nil _ _ _ _ _ | exact Kd.N_nil _ _ _ _ _ | exact Kd.V_nil _ _ _ _ _ | exact Kd.Q_nil _ _ _ _ _ | exact Kd.R_nil _ _ _ _ _, zm HB⟩

-- NOT PRINTED: function 56 (slices_IndexFunc_int_int_56)

/-! ### slices_Contains_int_int: function 58 -/
def slices_Contains_int_int.f (k : Nat) (l0 : List Int) (a1 : Int) : Option (Bool) := (slices_Index_int_int.f k l0 a1).bind fun t335 => (some (decide (t335 ≥ 0)))
theorem slices_Contains_int_int.mono : ∀ a0 a1 k, LeO (slices_Contains_int_int.f k a0 a1) (slices_Contains_int_int.f (k + 1) a0 a1) := by
  intro a0 a1 k
  unfold slices_Contains_int_int.f
  repeat' first
      | (with_reducible exact slices_Index_int_int.mono _ _ _)
      | (with_reducible exact LeO.refl _)
      | (with_reducible exact LeO.none _)
      | (with_reducible refine LeO.ite ?_ ?_)
      | (with_reducible refine LeO.bind ?_ (fun _ => ?_))
      | exact slices_Index_int_int.mono _ _ _
      | exact LeO.none _
      | refine LeO.ite ?_ ?_
      | refine LeO.bind ?_ (fun _ => ?_)
set_option maxHeartbeats 8000000 in
set_option maxRecDepth 100000 in
theorem slices_Contains_int_int.calls (k : Nat) (A0 : Option Addr) (c0 : Nat) (l0 : List Int) (a1 : Int) (r : Bool) (w : World) (hr0 : Kd.C (Kd.int .i64) w A0 l0.length l0) (hc0 : l0.length ≤ c0) (h : slices_Contains_int_int.f k l0 a1 = some r) :
    Calls Try.prog 58 #[.slice A0 l0.length c0, .int .i64 a1] w fun e w' => e = .returned (.bool r) ∧ Drawn0 w w' := by
 have HR0 := za hr0
 have HC0 := za hc0
 clear hr0 hc0
 have H : ((slices_Index_int_int.f k l0 a1).bind fun t335 => (some (decide (t335 ≥ 0)))) = some r := h
 clear h
 replace H := Option.bind_eq_some_iff.mp H
 obtain ⟨t335, A30, H⟩ := H
 replace H : (some (decide (t335 ≥ 0))) = some r := H
 have A3 := za A30
 clear A30
 obtain rfl := Option.some.inj H
 go_enter Try.func58, Try.ntmps58
 go_wp2_with (first | ((with_reducible refine gate_callee (f := 42) rfl ?_); refine zL (some 7) Try.func42 #[.slice A0 l0.length c0, .int .i64 a1] ?_; (with_reducible refine (slices_Index_int_int.calls k _ _ l0 a1 t335 _ ?side1 ?side2 A3.out).mono ?_); (case side1 => repeat (first | exact HR0.out | (with_reducible refine Kd.C_alloc ?_ _) | (with_reducible refine Kd.C_drewN ?_ _) | (with_reducible refine Kd.C_drew ?_))); (case side2 => exact HC0.out); rintro e w' ⟨rfl, ⟨nd, rfl⟩⟩; refine ⟨_, rfl, ?_⟩))
 go_ret
 exact ⟨by first | rfl | (simp; done) | (simp [*]; done), by repeat (first | exact Drawn0.refl _ | apply Drawn0.step)⟩

/-! ### booklet_PageOf_1: function 57 (a closure: the part's number lies in block gq_) -/
def booklet_PageOf_1.f (k : Nat) (l0 : List Int) (a1_0 : Int) : Option Bool := (slices_Contains_int_int.f k l0 a1_0).bind fun t => some t
theorem booklet_PageOf_1.mono : ∀ a0 a1 k, LeO (booklet_PageOf_1.f k a0 a1) (booklet_PageOf_1.f (k + 1) a0 a1) := by
  intro a0 a1 k
  unfold booklet_PageOf_1.f
  exact LeO.bind (slices_Contains_int_int.mono _ _ _) (fun _ => LeO.refl _)
set_option maxHeartbeats 8000000 in
set_option maxRecDepth 100000 in
theorem booklet_PageOf_1.calls (k : Nat) (A0 : Option Addr) (c0 : Nat) (l0 : List Int) (a1_0 : Int) (r : Bool) (w : World) (hr0 : Kd.C (Kd.int .i64) w A0 l0.length l0) (hc0 : l0.length ≤ c0) (h : booklet_PageOf_1.f k l0 a1_0 = some r) {gq_ : Nat} (hq_ : Aside0 (w.cell? ⟨gq_, 0, none⟩ = some (.int .i64 a1_0))) :
    Calls Try.prog 57 #[.slice A0 l0.length c0, .pointer (some ⟨gq_, 0, none⟩)] w fun e w' => e = .returned (.bool r) ∧ Below w.heap.size w w' := by
  have H : ((slices_Contains_int_int.f k l0 a1_0).bind fun t => some t) = some r := h
  clear h
  replace H := Option.bind_eq_some_iff.mp H
  obtain ⟨t1, A10, H⟩ := H
  have A1 := za A10
  clear A10
  have hc1 := hq_.out
  clear hq_
  obtain rfl := Option.some.inj H
  clear H
  have HR0 := za hr0
  have HC0 := za hc0
  clear hr0 hc0
  go_enter Try.func57, Try.ntmps57
  go_wp2_with (first | (go_at_call 58; (with_reducible refine (slices_Contains_int_int.calls k _ _ l0 a1_0 t1 _ ?side1 ?side2 A1.out).mono ?_); (case side1 => repeat (first | exact HR0.out | (with_reducible refine Kd.C_alloc ?_ _) | (with_reducible refine Kd.C_drewN ?_ _) | (with_reducible refine Kd.C_drew ?_))); (case side2 => exact HC0.out); rintro e w' ⟨rfl, ⟨nd, rfl⟩⟩))
  go_ret
  exact ⟨by first | rfl | (simp; done) | (simp [*]; done), by repeat (first | exact Below.refl _ _ | apply pw_below_drewN | apply below_drew1)⟩

/-! ### slices_IndexFunc_int_int_PageOf_1_s56: function 56 -/
def slices_IndexFunc_int_int_PageOf_1_s56.l0 : Nat → List (List Int) → Int → Int → Int → Option (Int)
  | 0, _, _, _, _ => none
  | k + 1, x0, x1, x7, x8 => if x8 < x7 then (if 0 ≤ x8 then (if x8 < (x0.length : Int) then ((booklet_PageOf_1.f k (rd_L2 x0 x8) x1).bind fun t337 => (if t337 = true then (some x8) else (slices_IndexFunc_int_int_PageOf_1_s56.l0 k x0 x1 x7 (wrap64 (x8 + 1))))) else (none)) else (none)) else (some (-1))
def slices_IndexFunc_int_int_PageOf_1_s56.f (k : Nat) (l0 : List (List Int)) (a1_0 : Int) : Option (Int) := slices_IndexFunc_int_int_PageOf_1_s56.l0 k l0 a1_0 (l0.length : Int) 0
theorem slices_IndexFunc_int_int_PageOf_1_s56.mono_l : ∀ k, (∀ y0 y1 y2 y3, LeO (slices_IndexFunc_int_int_PageOf_1_s56.l0 k y0 y1 y2 y3) (slices_IndexFunc_int_int_PageOf_1_s56.l0 (k + 1) y0 y1 y2 y3))
  | 0 => fun _ _ _ _ r h => by simp [slices_IndexFunc_int_int_PageOf_1_s56.l0] at h
  | k + 1 => by
    have ih0 := slices_IndexFunc_int_int_PageOf_1_s56.mono_l k
    · intro y0 y1 y2 y3
      unfold slices_IndexFunc_int_int_PageOf_1_s56.l0
      repeat' first
      | (with_reducible exact ih0 _ _ _ _)
      | (with_reducible exact booklet_PageOf_1.mono _ _ _)
      | (with_reducible exact LeO.refl _)
      | (with_reducible exact LeO.none _)
      | (with_reducible refine LeO.ite ?_ ?_)
      | (with_reducible refine LeO.bind ?_ (fun _ => ?_))
      | exact ih0 _ _ _ _
      | exact booklet_PageOf_1.mono _ _ _
      | exact LeO.none _
      | refine LeO.ite ?_ ?_
      | refine LeO.bind ?_ (fun _ => ?_)
theorem slices_IndexFunc_int_int_PageOf_1_s56.mono : ∀ a0 a1 k, LeO (slices_IndexFunc_int_int_PageOf_1_s56.f k a0 a1) (slices_IndexFunc_int_int_PageOf_1_s56.f (k + 1) a0 a1) := by
  intro a0 a1 k
  have ih0 := slices_IndexFunc_int_int_PageOf_1_s56.mono_l k
  unfold slices_IndexFunc_int_int_PageOf_1_s56.f
  repeat' first
      | (with_reducible exact ih0 _ _ _ _)
      | (with_reducible exact booklet_PageOf_1.mono _ _ _)
      | (with_reducible exact LeO.refl _)
      | (with_reducible exact LeO.none _)
      | (with_reducible refine LeO.ite ?_ ?_)
      | (with_reducible refine LeO.bind ?_ (fun _ => ?_))
      | exact ih0 _ _ _ _
      | exact booklet_PageOf_1.mono _ _ _
      | exact LeO.none _
      | refine LeO.ite ?_ ?_
      | refine LeO.bind ?_ (fun _ => ?_)
set_option maxHeartbeats 8000000 in
set_option maxRecDepth 100000 in
theorem slices_IndexFunc_int_int_PageOf_1_s56.calls (k : Nat) (A0 : Option Addr) (c0 : Nat) (l0 : List (List Int)) (a1_0 : Int) (r : Int) (w : World) (hr0 : Kd.C (Kd.slice 3 (Kd.int .i64)) w A0 l0.length l0) (hc0 : l0.length ≤ c0) (h : slices_IndexFunc_int_int_PageOf_1_s56.f k l0 a1_0 = some r) {gq_ : Nat} (hq_ : Aside0 (w.cell? ⟨gq_, 0, none⟩ = some (.int .i64 a1_0))) :
    Calls Try.prog 56 #[.slice A0 l0.length c0, .func (.func 57) #[] #[.pointer (some ⟨gq_, 0, none⟩)]] w fun e w' => e = .returned (.int .i64 r) ∧ Below w.heap.size w w' := by
 have HR0 := za hr0
 have HC0 := za hc0
 clear hr0 hc0
 have HB := za (Below.refl w.heap.size w)
 have H : (slices_IndexFunc_int_int_PageOf_1_s56.l0 k l0 a1_0 (l0.length : Int) 0) = some r := h
 clear h
 have H' := za H
 clear H
 go_enter Try.func56, Try.ntmps56
 go_wp2
 go_loopg [8] k (fun kq v8 w' => ∃ (x8_1 : Int), v8 = .int .i64 x8_1 ∧ Aside0 (slices_IndexFunc_int_int_PageOf_1_s56.l0 kq l0 a1_0 (l0.length : Int) x8_1 = some r) ∧ Aside0 (kq ≤ k) ∧ Aside0 (Below w.heap.size w w'))
 case atStart => exact ⟨(0), (by first | rfl | (simp; done) | (simp [*]; done)), H', ⟨Nat.le_refl _⟩, ⟨zm HB⟩⟩
 case round =>
  clear H'
  try clear p2
  obtain ⟨x8_1, rfl, HA, HK1, HB⟩ := hrel
  cases gk with
  | zero => exact absurd HA.out (by simp [slices_IndexFunc_int_int_PageOf_1_s56.l0])
  | succ k1 =>
   have H := HA.out
   clear HA
   simp only [slices_IndexFunc_int_int_PageOf_1_s56.l0] at H
   by_cases c3 : x8_1 < (l0.length : Int)
   ·rw [if_pos c3] at H
    have c3b0 : decide (x8_1 < (l0.length : Int)) = true := decide_eq_true c3
    clear c3
    by_cases c4 : 0 ≤ x8_1
    ·rw [if_pos c4] at H
     have c4b0 : decide (0 ≤ x8_1) = true := decide_eq_true c4
     clear c4
     by_cases c5 : x8_1 < (l0.length : Int)
     ·rw [if_pos c5] at H
      have c5b0 : decide (x8_1 < (l0.length : Int)) = true := decide_eq_true c5
      clear c5
      replace H := Option.bind_eq_some_iff.mp H
      obtain ⟨t337, A60, H⟩ := H
      replace H : (if t337 = true then (some x8_1) else (slices_IndexFunc_int_int_PageOf_1_s56.l0 k1 l0 a1_0 (l0.length : Int) (wrap64 (x8_1 + 1)))) = some r := H
      have A6 := za A60
      clear A60
      by_cases c7 : t337 = true
      ·subst c7
       have H1 : (some x8_1) = some r := by rw [if_pos rfl] at H; exact H
       clear H
       have H := H1
       clear H1
       obtain rfl := Option.some.inj H
       have p336 : 0 ≤ (x8_1 : Int) := of_decide_eq_true (by first | (with_reducible assumption) | assumption)
       have q336 : x8_1 < (l0.length : Int) := of_decide_eq_true (by first | (with_reducible assumption) | assumption)
       obtain ⟨ad336, A336_0, c336_0, e336, hx336_0, hl336_0, hi336_0⟩ := at_L2 HR0.out x8_1 p336 q336
       cases e336
       replace hx336_0 := zx HB hx336_0
       have HR336_0 := za hi336_0
       have HC336_0 := za hl336_0
       clear hi336_0 hl336_0
       replace p336 := eq_true p336
       replace q336 := eq_true q336
       go_wp2_with (first | (go_at_call 57; (with_reducible refine (booklet_PageOf_1.calls k1 _ _ (rd_L2 l0 x8_1) a1_0 true _ ?side1 ?side2 A6.out ?sideq).mono ?_); (case side1 => exact zC HR336_0 HB); (case side2 => exact HC336_0.out); (case sideq => first | assumption | (with_unfolding_all assumption) | exact za (by assumption) | exact za (by with_unfolding_all assumption) | exact za (pw_cell_below HB.out hq_.out) | exact za (pw_cell_below (zm HB) hq_.out)); rintro e w8 ⟨rfl, hb⟩; replace HB := zs HB hb; (try clear hb); (try clear hb2); (try clear hk); (try clear hi)))
       go_ret
       exact ⟨zf, zm HB⟩
      ·replace c7 := Bool.eq_false_iff.mpr c7
       subst c7
       have H1 : (slices_IndexFunc_int_int_PageOf_1_s56.l0 k1 l0 a1_0 (l0.length : Int) (wrap64 (x8_1 + 1))) = some r := by rw [if_neg (show ¬ (false = true) by decide)] at H; exact H
       clear H
       have H := H1
       clear H1
       have H' := za H
       clear H
       have p336 : 0 ≤ (x8_1 : Int) := of_decide_eq_true (by first | (with_reducible assumption) | assumption)
       have q336 : x8_1 < (l0.length : Int) := of_decide_eq_true (by first | (with_reducible assumption) | assumption)
       obtain ⟨ad336, A336_0, c336_0, e336, hx336_0, hl336_0, hi336_0⟩ := at_L2 HR0.out x8_1 p336 q336
       cases e336
       replace hx336_0 := zx HB hx336_0
       have HR336_0 := za hi336_0
       have HC336_0 := za hl336_0
       clear hi336_0 hl336_0
       replace p336 := eq_true p336
       replace q336 := eq_true q336
       go_wp2_with (first | (go_at_call 57; (with_reducible refine (booklet_PageOf_1.calls k1 _ _ (rd_L2 l0 x8_1) a1_0 false _ ?side1 ?side2 A6.out ?sideq).mono ?_); (case side1 => exact zC HR336_0 HB); (case side2 => exact HC336_0.out); (case sideq => first | assumption | (with_unfolding_all assumption) | exact za (by assumption) | exact za (by with_unfolding_all assumption) | exact za (pw_cell_below HB.out hq_.out) | exact za (pw_cell_below (zm HB) hq_.out)); rintro e w9 ⟨rfl, hb⟩; replace HB := zs HB hb; (try clear hb); (try clear hb2); (try clear hk); (try clear hi)))
       go_roundg k1
       case measure => have := HK1.out; omega
       case rel => exact ⟨(wrap64 (x8_1 + 1)), (by first | rfl | (simp; done) | (simp [*]; done)), H', ⟨by have := HK1.out; omega⟩, ⟨zm HB⟩⟩
     ·rw [if_neg c5] at H
      exact absurd H (by simp)
    ·rw [if_neg c4] at H
     exact absurd H (by simp)
   ·rw [if_neg c3] at H
    have c3b0 : decide (x8_1 < (l0.length : Int)) = false := decide_eq_false c3
    clear c3
    obtain rfl := Option.some.inj H
    go_wp2
    go_ret
    exact ⟨zf, zm HB⟩

/-! ### booklet_PageOf: function 37 -/
def booklet_PageOf.f (k : Nat) (l0_0 : List (List Int)) (a1 : Int) : Option (Int) := (slices_IndexFunc_int_int_PageOf_1_s56.f k l0_0 a1).bind fun t340 => (some t340)
theorem booklet_PageOf.mono : ∀ a0 a1 k, LeO (booklet_PageOf.f k a0 a1) (booklet_PageOf.f (k + 1) a0 a1) := by
  intro a0 a1 k
  unfold booklet_PageOf.f
  repeat' first
      | (with_reducible exact slices_IndexFunc_int_int_PageOf_1_s56.mono _ _ _)
      | (with_reducible exact LeO.refl _)
      | (with_reducible exact LeO.none _)
      | (with_reducible refine LeO.ite ?_ ?_)
      | (with_reducible refine LeO.bind ?_ (fun _ => ?_))
      | exact slices_IndexFunc_int_int_PageOf_1_s56.mono _ _ _
      | exact LeO.none _
      | refine LeO.ite ?_ ?_
      | refine LeO.bind ?_ (fun _ => ?_)
set_option maxHeartbeats 8000000 in
set_option maxRecDepth 100000 in
theorem booklet_PageOf.calls (k : Nat) (A0_0 : Option Addr) (c0_0 : Nat) (l0_0 : List (List Int)) (a1 : Int) (r : Int) (w : World) (hr0_0 : Kd.C (Kd.slice 3 (Kd.int .i64)) w A0_0 l0_0.length l0_0) (hc0_0 : l0_0.length ≤ c0_0) (h : booklet_PageOf.f k l0_0 a1 = some r) :
    Calls Try.prog 37 #[.agg #[.slice A0_0 l0_0.length c0_0], .int .i64 a1] w fun e w' => e = .returned (.int .i64 r) ∧ Below w.heap.size w w' := by
 have hu56 := Try.underlying56
 have HR0_0 := za hr0_0
 have HC0_0 := za hc0_0
 clear hr0_0 hc0_0
 have HB := za (Below.refl w.heap.size w)
 have H : ((slices_IndexFunc_int_int_PageOf_1_s56.f k l0_0 a1).bind fun t340 => (some t340)) = some r := h
 clear h
 replace H := Option.bind_eq_some_iff.mp H
 obtain ⟨t340, A30, H⟩ := H
 replace H : (some t340) = some r := H
 have A3 := za A30
 clear A30
 obtain rfl := Option.some.inj H
 go_enter Try.func37, Try.ntmps37
 go_wp2_with (first | ((with_reducible refine gate_dst (N := 2) rfl ?_); refine zE 2 #[.slice A0_0 l0_0.length c0_0] 56 ?_; intro gb338 hg w4 hbox hb; have BK338 := za (hbox); have GW338 := zg HB hg; have GE338 := zg HB hg; replace HB := zs HB hb; clear hb hbox hg) | ((with_reducible refine gate_dst (N := 3) rfl ?_); refine zE 3 #[.int .i64 a1] 3 ?_; intro gb339 hg w5 hbox hb; have BK339 := za (hbox); have GW339 := zg HB hg; have GE339 := zg HB hg; have NB338_339 := zl BK338 hg; have NB339_338 := zr BK338 hg; replace BK338 := zb BK338 hb; replace HB := zs HB hb; clear hb hbox hg; have hnb6 := NB338_339.out; have hnc6 := NB339_338.out; obtain ⟨hcz7_0, hfz7_0⟩ := z1 BK338) | ((with_reducible refine gate_callee (f := 56) rfl ?_); refine zL (some 8) Try.func56 #[.slice A0_0 l0_0.length c0_0, .func (.func 57) #[] #[.pointer (some ⟨gb339, 0, none⟩)]] ?_; (with_reducible refine (slices_IndexFunc_int_int_PageOf_1_s56.calls k _ _ l0_0 a1 t340 _ ?side1 ?side2 A3.out ?sideq).mono ?_); (case side1 => exact zC HR0_0 HB); (case side2 => exact HC0_0.out); (case sideq => first | assumption | (with_unfolding_all assumption) | exact za (by assumption) | exact za (by with_unfolding_all assumption) | exact za (pw_cell_below HB.out hq_.out) | exact za ((blk_cell (by (with_reducible repeat (first | refine blk_drewN ?_ _ | refine blk_drew ?_ | refine blk_alloc ?_ _)); exact BK338.out) 0).trans rfl) | exact za ((blk_cell (by (with_reducible repeat (first | refine blk_drewN ?_ _ | refine blk_drew ?_ | refine blk_alloc ?_ _)); exact BK339.out) 0).trans rfl) | exact za (pw_cell_below (zm HB) hq_.out)); rintro e w8 ⟨rfl, hb⟩; refine ⟨_, rfl, ?_⟩; replace BK338 := zb BK338 hb; replace BK339 := zb BK339 hb; replace HB := zs HB hb; (try clear hb); (try clear hb2); (try clear hk); (try clear hi)))
 go_ret
 exact ⟨zf, zm HB⟩

end Go.Proofs.Ythbmpjglkbhhgaa.Print
