-- Printed by a program of this session (wip/own_print.py) out of the translation; Lean checks it.
import Derived.Test.YthbmpjglkbhhgaaShort
import Derived.Test.YthbmpjglkbhhgaaPrint0
import Derived.Test.YthbmpjglkbhhgaaPrint3
import Derived.Test.YthbmpjglkbhhgaaPrint4
namespace Go.Proofs.Ythbmpjglkbhhgaa.Print
open Go.RowKit Go.Proofs.YthbmpjglkbhhgaaW.PrintWords Go.Proofs.YthbmpjglkbhhgaaW.PrintLast Go.Proofs.YthbmpjglkbhhgaaW.PrintMore
attribute [local go_sem] max2_int min2_int max_two min_two max_three min_three max_four min_four   -- for this text's walks alone
set_option linter.unusedVariables false
set_option linter.unusedSimpArgs false

/-! ### awardingbodymake_Tape_Paper: function 34 -/
def awardingbodymake_Tape_Paper.l0 : Nat → Int → List Int → Int → Int → Int → List (S65) → Option (Int × Int × (List (S65)) × Int)
  | 0, _, _, _, _, _, _ => none
  | k + 1, x8, x1000, x1001, x213000, x213001, x213002 => if x8 > 0 then ((awardingbodymake_Tape_Part.f k x1000 x1001 0).bind fun bt215 => (if x213002.length < 2932031007402 then (awardingbodymake_Tape_Paper.l0 k (wrap64 (x8 - 1)) x1000 bt215.2.2.2.2.2.2 x213000 x213001 (x213002 ++ [(⟨bt215.1, bt215.2.1, bt215.2.2.1, bt215.2.2.2.1, bt215.2.2.2.2.1, bt215.2.2.2.2.2.1⟩ : S65)])) else (none))) else (some (x213000, x213001, x213002, x1001))
def awardingbodymake_Tape_Paper.f (k : Nat) (s0_0 : List Int) (s0_1 : Int) (a1 : Int) (a2 : Int) : Option (Int × Int × (List (S65)) × Int) := (awardingbodymake_Tape_Range.f s0_0 s0_1 1 6).bind fun bt213 => (awardingbodymake_Tape_Paper.l0 k bt213.1 s0_0 bt213.2 a1 a2 ([] : List (S65)))
theorem awardingbodymake_Tape_Paper.mono_l : ∀ k, (∀ y0 y1 y2 y3 y4 y5, LeO (awardingbodymake_Tape_Paper.l0 k y0 y1 y2 y3 y4 y5) (awardingbodymake_Tape_Paper.l0 (k + 1) y0 y1 y2 y3 y4 y5))
  | 0 => fun _ _ _ _ _ _ r h => by simp [awardingbodymake_Tape_Paper.l0] at h
  | k + 1 => by
    have ih0 := awardingbodymake_Tape_Paper.mono_l k
    · intro y0 y1 y2 y3 y4 y5
      unfold awardingbodymake_Tape_Paper.l0
      repeat' first
      | (with_reducible exact ih0 _ _ _ _ _ _)
      | (with_reducible exact awardingbodymake_Tape_Part.mono _ _ _ _)
      | (with_reducible exact LeO.refl _)
      | (with_reducible exact LeO.none _)
      | (with_reducible refine LeO.ite ?_ ?_)
      | (with_reducible refine LeO.bind ?_ (fun _ => ?_))
      | exact ih0 _ _ _ _ _ _
      | exact awardingbodymake_Tape_Part.mono _ _ _ _
      | exact LeO.none _
      | refine LeO.ite ?_ ?_
      | refine LeO.bind ?_ (fun _ => ?_)
theorem awardingbodymake_Tape_Paper.mono : ∀ a0 a1 a2 a3 k, LeO (awardingbodymake_Tape_Paper.f k a0 a1 a2 a3) (awardingbodymake_Tape_Paper.f (k + 1) a0 a1 a2 a3) := by
  intro a0 a1 a2 a3 k
  have ih0 := awardingbodymake_Tape_Paper.mono_l k
  unfold awardingbodymake_Tape_Paper.f
  repeat' first
      | (with_reducible exact ih0 _ _ _ _ _ _)
      | (with_reducible exact awardingbodymake_Tape_Part.mono _ _ _ _)
      | (with_reducible exact LeO.refl _)
      | (with_reducible exact LeO.none _)
      | (with_reducible refine LeO.ite ?_ ?_)
      | (with_reducible refine LeO.bind ?_ (fun _ => ?_))
      | exact ih0 _ _ _ _ _ _
      | exact awardingbodymake_Tape_Part.mono _ _ _ _
      | exact LeO.none _
      | refine LeO.ite ?_ ?_
      | refine LeO.bind ?_ (fun _ => ?_)
def awardingbodymake_Tape_Paper.T5 : Bool × List (List Nat × List Nat) := (true, [([], []), ([0], [0]), ([], []), ([2], [2]), ([3], [3]), ([1, 4, 3], [1, 4]), ([0, 1, 2, 3, 4, 5], []), ([6, 5, 5, 0, 1, 2, 3, 4, 5], [5, 6])])
def awardingbodymake_Tape_Paper.B5 : List Nat := [0, 1, 0, 4, 12, 31, 63, 127]
theorem awardingbodymake_Tape_Paper.tab5 : rtab .any (opsOf Try.f34 5) = awardingbodymake_Tape_Paper.T5 := by kernel_rfl
theorem awardingbodymake_Tape_Paper.bits5 : waitsOk awardingbodymake_Tape_Paper.T5.2 awardingbodymake_Tape_Paper.B5 = true := by kernel_rfl
set_option maxHeartbeats 8000000 in
set_option maxRecDepth 100000 in
theorem awardingbodymake_Tape_Paper.calls (k : Nat) (g : Nat) (s0_0 : List Int) (s0_1 : Int) (a1 : Int) (a2 : Int) (r1 : Int) (r2 : Int) (r3 : List (S65)) (r4 : Int) (w0 w : World) (hI : IsS68 w0 w g s0_0 s0_1) (hB : Below w0.heap.size w0 w) (h : awardingbodymake_Tape_Paper.f k s0_0 s0_1 a1 a2 = some (r1, r2, r3, r4)) :
    Calls Try.prog 34 #[.pointer (some ⟨g, 0, none⟩), .int .i64 a1, .int .i64 a2] w fun e w' => ∃ v2_ : Value, e = .returned (.agg #[.int .i64 r1, .int .i64 r2, v2_]) ∧ Kd.R k65 65 w' w.heap.size (fun _ => True) v2_ r3 ∧ IsS68 w0 w' g s0_0 r4 ∧ Below w0.heap.size w0 w' ∧ KeepBut w w' g none := by
 have hu53 := Try.underlying53
 have HI0 := za hI
 have HK := za (KeepBut.refl w g none)
 have HL := za hB.size
 clear hI
 have HW0 := za hB.size
 have HB := za hB
 clear hB
 have H : ((awardingbodymake_Tape_Range.f s0_0 s0_1 1 6).bind fun bt213 => (awardingbodymake_Tape_Paper.l0 k bt213.1 s0_0 bt213.2 a1 a2 ([] : List (S65)))) = some (r1, r2, r3, r4) := h
 clear h
 replace H := Option.bind_eq_some_iff.mp H
 obtain ⟨⟨t213, t214⟩, A40, H⟩ := H
 replace H : (awardingbodymake_Tape_Paper.l0 k t213 s0_0 t214 a1 a2 ([] : List (S65))) = some (r1, r2, r3, r4) := H
 have A4 := za A40
 clear A40
 have H' := za H
 clear H
 go_enter Try.func34, Try.ntmps34
 go_wp2_with (first | ((with_reducible refine gate_dst (N := 6) rfl ?_); refine zE 6 #[.int .i64 0, .int .i64 0, .slice none 0 0] 53 ?_; intro gb211 hg w5 hbox hb; have BK211 := za (hbox); have GW211 := za ((by rw [hg]; exact (keep_size (w := w) (g := g) (row := none) (by repeat (first | (with_reducible first | exact HK.out | apply KeepBut.set_ | apply keep_drewN | apply keep_drew | apply keep_alloc) | exact HK.out))) : w.heap.size ≤ gb211)); have GE211 := za ((Nat.le_trans HW0.out (by rw [hg]; exact (keep_size (w := w) (g := g) (row := none) (by repeat (first | (with_reducible first | exact HK.out | apply KeepBut.set_ | apply keep_drewN | apply keep_drew | apply keep_alloc) | exact HK.out))) : w.heap.size ≤ gb211) : w0.heap.size ≤ gb211)); have NB0_211 := za ((by rw [hg]; exact Nat.ne_of_lt (IsS68.lt (show IsS68 w0 _ g s0_0 s0_1 from by repeat (first | (with_reducible first | exact HI0.out | apply IsS68.alloc | apply IsS68.drewN | apply IsS68.drew | apply IsS68.set_1) | exact HI0.out))) : g ≠ gb211)); have NB211_0 := za ((by rw [hg]; exact Nat.ne_of_gt (IsS68.lt (show IsS68 w0 _ g s0_0 s0_1 from by repeat (first | (with_reducible first | exact HI0.out | apply IsS68.alloc | apply IsS68.drewN | apply IsS68.drew | apply IsS68.set_1) | exact HI0.out))) : gb211 ≠ g)); replace HI0 := za (IsS68.below (by repeat (first | (with_reducible first | exact HI0.out | apply IsS68.alloc | apply IsS68.drewN | apply IsS68.drew | apply IsS68.set_1) | exact HI0.out)) hb); replace HK := zu HK hb; replace HB := zs HB hb; clear hb hbox hg) | ((with_reducible refine gate_dst (N := 7) rfl ?_); refine zE 7 #[.int .i64 0, .int .i64 0, .slice none 0 0] 53 ?_; intro gb212 hg w6 hbox hb; have BK212 := za (hbox); have GW212 := za ((by rw [hg]; exact (keep_size (w := w) (g := g) (row := none) (by repeat (first | (with_reducible first | exact HK.out | apply KeepBut.set_ | apply keep_drewN | apply keep_drew | apply keep_alloc | refine keep_far ?_ GW211.out _) | exact HK.out))) : w.heap.size ≤ gb212)); have GE212 := za ((Nat.le_trans HW0.out (by rw [hg]; exact (keep_size (w := w) (g := g) (row := none) (by repeat (first | (with_reducible first | exact HK.out | apply KeepBut.set_ | apply keep_drewN | apply keep_drew | apply keep_alloc | refine keep_far ?_ GW211.out _) | exact HK.out))) : w.heap.size ≤ gb212) : w0.heap.size ≤ gb212)); have NB211_212 := zl BK211 hg; have NB212_211 := zr BK211 hg; have NB0_212 := za ((by rw [hg]; exact Nat.ne_of_lt (IsS68.lt (show IsS68 w0 _ g s0_0 s0_1 from by repeat (first | (with_reducible first | exact HI0.out | apply IsS68.alloc | apply IsS68.drewN | apply IsS68.drew | apply IsS68.set_1 | refine IsS68.far ?_ NB0_211.out _) | exact HI0.out))) : g ≠ gb212)); have NB212_0 := za ((by rw [hg]; exact Nat.ne_of_gt (IsS68.lt (show IsS68 w0 _ g s0_0 s0_1 from by repeat (first | (with_reducible first | exact HI0.out | apply IsS68.alloc | apply IsS68.drewN | apply IsS68.drew | apply IsS68.set_1 | refine IsS68.far ?_ NB0_211.out _) | exact HI0.out))) : gb212 ≠ g)); replace HI0 := za (IsS68.below (by repeat (first | (with_reducible first | exact HI0.out | apply IsS68.alloc | apply IsS68.drewN | apply IsS68.drew | apply IsS68.set_1 | refine IsS68.far ?_ NB0_211.out _) | exact HI0.out)) hb); replace BK211 := zb BK211 hb; replace HK := zu HK hb; replace HB := zs HB hb; clear hb hbox hg; have hnb7 := NB212_211.out; have hnc7 := NB211_212.out; have hnb8 := NB212_0.out; have hnc8 := NB0_212.out; obtain ⟨hcz9_0, hcz9_1, hcz9_2, hfz9_0, hfz9_1, hfz9_2⟩ := z3 BK212) | ((with_reducible refine gate_callee (f := 30) rfl ?_); refine zL (some 13) Try.func30 #[.pointer (some ⟨g, 0, none⟩), .int .i64 1, .int .i64 6] ?_; (with_reducible refine (awardingbodymake_Tape_Range.calls g s0_0 s0_1 1 6 t213 t214 w0 _ ?side1 ?side2 A4.out).mono ?_); (case side1 => repeat (first | (with_reducible first | exact HI0.out | apply IsS68.alloc | apply IsS68.drewN | apply IsS68.drew | apply IsS68.set_1 | refine IsS68.far ?_ NB0_211.out _ | refine IsS68.far ?_ NB0_212.out _) | exact HI0.out)); (case side2 => repeat (first | (with_reducible first | exact HB.out | apply below_alloc | apply pw_below_drewN | apply below_drew1 | refine below_set ?_ (IsS68.ge HI0.out) | refine below_set ?_ GE211.out | refine below_set ?_ GE212.out) | exact HB.out)); rintro e w10 ⟨rfl, hi, hb, hk⟩; refine ⟨_, rfl, ?_⟩; replace BK211 := zk hk BK211 NB211_0; replace BK212 := za (KeepBut.blk hk (g' := gb212) (o := .cells #[.int .i64 a1, .int .i64 a2, .slice none 0 0] 53 (0, 0)) (by (with_reducible repeat (first | refine blk_drewN ?_ _ | refine blk_drew ?_ | refine blk_alloc ?_ _)); refine blk_put (cs := #[.int .i64 a1, .int .i64 a2, .slice none 0 0]) ?_ 2 _ rfl; (with_reducible repeat (first | refine blk_drewN ?_ _ | refine blk_drew ?_ | refine blk_alloc ?_ _)); refine blk_put (cs := #[.int .i64 a1, .int .i64 0, .slice none 0 0]) ?_ 1 _ rfl; (with_reducible repeat (first | refine blk_drewN ?_ _ | refine blk_drew ?_ | refine blk_alloc ?_ _)); refine blk_put (cs := #[.int .i64 0, .int .i64 0, .slice none 0 0]) ?_ 0 _ rfl; (with_reducible repeat (first | refine blk_drewN ?_ _ | refine blk_drew ?_ | refine blk_alloc ?_ _)); exact BK212.out) NB212_0.out (by simp)); replace HK := zt HK hk; replace HB := za (hb); replace HI0 := za (hi); (try clear hb); (try clear hb2); (try clear hk); (try clear hi)))
 go_loopg [8] k (fun kq v8 w' => ∃ (x8_1 : Int) (x1001_1 : Int) (x213002_1 : List (S65)) (u213002 : Value), v8 = .int .i64 x8_1 ∧ Aside0 (awardingbodymake_Tape_Paper.l0 kq x8_1 s0_0 x1001_1 a1 a2 x213002_1 = some (r1, r2, r3, r4)) ∧ Aside0 (kq ≤ k) ∧ Aside0 (Kd.R k65 65 w' w.heap.size (fun _ => True) u213002 x213002_1) ∧ Aside0 (w'.heap[gb211]? = some (.cells #[.int .i64 0, .int .i64 0, (.slice none 0 0)] 53 (0, 0))) ∧ Aside0 (w'.heap[gb212]? = some (.cells #[.int .i64 a1, .int .i64 a2, u213002] 53 (0, 0))) ∧ Aside0 (IsS68 w0 w' g s0_0 x1001_1) ∧ Aside0 (KeepBut w w' g none) ∧ Aside0 (Below w0.heap.size w0 w'))
 case atStart => exact ⟨(t213), (t214), (([] : List (S65))), (.slice none 0 0), (by first | rfl | (simp; done) | (simp [*]; done)), H', ⟨Nat.le_refl _⟩, ⟨by first | exact Kd.R_nil _ _ _ _ _ | exact Kd.N_nil _ _ _ _ _ | exact Kd.V_nil _ _ _ _ _ | exact Kd.Q_nil _ _ _ _ _ | exact Kd.S_nil _ _ _ _ _⟩, ⟨by (with_reducible repeat (first | refine blk_drewN ?_ _ | refine blk_drew ?_ | refine blk_alloc ?_ _)); exact BK211.out⟩, ⟨by (with_reducible repeat (first | refine blk_drewN ?_ _ | refine blk_drew ?_ | refine blk_alloc ?_ _)); exact BK212.out⟩, ⟨by repeat (first | (with_reducible first | exact HI0.out | apply IsS68.alloc | apply IsS68.drewN | apply IsS68.drew | apply IsS68.set_1 | refine IsS68.far ?_ NB0_211.out _ | refine IsS68.far ?_ NB0_212.out _) | exact HI0.out)⟩, ⟨by repeat (first | (with_reducible first | exact HK.out | apply KeepBut.set_ | apply keep_drewN | apply keep_drew | apply keep_alloc | refine keep_far ?_ GW211.out _ | refine keep_far ?_ GW212.out _) | exact HK.out)⟩, ⟨zm HB⟩⟩
 case round =>
  clear H'
  try clear p2
  try clear c3
  try clear c7
  try clear c8
  try clear hcz9_0
  try clear hcz9_1
  try clear hcz9_2
  try clear hfz9_0
  try clear hfz9_1
  try clear hfz9_2
  obtain ⟨x8_1, x1001_1, x213002_1, u213002, rfl, HA, HK1, HO_213002, BK211, BK212, HI0, HK, HB⟩ := hrel
  cases gk with
  | zero => exact absurd HA.out (by simp [awardingbodymake_Tape_Paper.l0])
  | succ k1 =>
   have H := HA.out
   clear HA
   simp only [awardingbodymake_Tape_Paper.l0] at H
   by_cases c11 : x8_1 > 0
   ·rw [if_pos c11] at H
    have c11b0 : decide (0 < x8_1) = true := decide_eq_true c11
    clear c11
    replace H := Option.bind_eq_some_iff.mp H
    obtain ⟨⟨t215, t216, t217, t218, t219, t220, t221⟩, A120, H⟩ := H
    replace H : (if x213002_1.length < 2932031007402 then (awardingbodymake_Tape_Paper.l0 k1 (wrap64 (x8_1 - 1)) s0_0 t221 a1 a2 (x213002_1 ++ [(⟨t215, t216, t217, t218, t219, t220⟩ : S65)])) else (none)) = some (r1, r2, r3, r4) := H
    have A12 := za A120
    clear A120
    by_cases c13 : x213002_1.length < 2932031007402
    ·rw [if_pos c13] at H
     have LMc13 := za c13
     clear c13
     obtain ⟨y222, hy222⟩ : ∃ y_ : List (S65), y_ = (x213002_1 ++ [(⟨t215, t216, t217, t218, t219, t220⟩ : S65)]) := ⟨_, rfl⟩
     replace H : (awardingbodymake_Tape_Paper.l0 k1 (wrap64 (x8_1 - 1)) s0_0 t221 a1 a2 y222) = some (r1, r2, r3, r4) := by first | (rw [hy222]; with_reducible exact H) | (have H2_ := (Option.bind_some _ _).symm.trans H; rw [hy222]; with_reducible exact H2_) | (have H2_ := (Option.bind_some _ _).symm.trans H; with_reducible exact H2_) | with_reducible exact H | (rw [hy222]; exact H) | exact H
     have Ny222 := za hy222
     clear hy222
     have H' := za H
     clear H
     try go_wp2
     replace HO_213002 := za (Kd.R_drew HO_213002.out)
     replace BK211 := za (blk_drew BK211.out)
     replace BK212 := za (blk_drew BK212.out)
     replace HI0 := za (IsS68.drew HI0.out)
     replace HK := za (keep_drew HK.out)
     replace HB := za (below_drew1 HB.out)
     refine start_ (n := 8) (S := fun w' => w'.cell? ⟨gb212, 0, none⟩ = some (.int .i64 a1) ∧ w'.cell? ⟨gb212, 1, none⟩ = some (.int .i64 a2) ∧ w'.cell? ⟨gb212, 2, none⟩ = some (u213002)) (ds := [7]) #[false, false, false, false, false, false, false, false] (by kernel_rfl) rfl rfl ⟨(blk_cell BK212.out 0).trans rfl, (blk_cell BK212.out 1).trans rfl, (blk_cell BK212.out 2).trans rfl⟩ (fun hHeld => ?_); refine with_tabW awardingbodymake_Tape_Paper.tab5 awardingbodymake_Tape_Paper.bits5 (fun HT_ HW_ => ?_)
     generalize wr.drew = w14 at HO_213002 BK211 BK212 HI0 HK HB hHeld ⊢
     refine pure_ (i := 0) (N := some 18) (v := ?_) (a' := ?_) #[true, false, false, false, false, false, false, false] rfl rfl (any_of HT_.out (by kernel_rfl)) (fun _ _ _ h => h) (Or.inl ⟨by rfl, ?_⟩) ?_ ?_
     rotate_left
     ·intro w'
      go_simp
      with_reducible rfl
     rotate_left
     ·simp only [Act.put, List.setIfInBounds_toArray, List.set_cons_zero, List.set_cons_succ, i64_w, i32_w]
      rfl
     refine pure_ (i := 2) (N := some 20) (v := ?_) (a' := ?_) #[true, false, true, false, false, false, false, false] rfl rfl (any_of HT_.out (by kernel_rfl)) (fun _ _ _ h => h) (Or.inl ⟨by rfl, ?_⟩) ?_ ?_
     rotate_left
     ·intro w'
      go_simp
      with_reducible rfl
     rotate_left
     ·simp only [Act.put, List.setIfInBounds_toArray, List.set_cons_zero, List.set_cons_succ, i64_w, i32_w]
      rfl
     refine take_ (i := 1) (N := some 19) (v := ?_) (a' := ?_) #[true, true, true, false, false, false, false, false] rfl rfl (take_ofW HT_.out HW_.out (by kernel_rfl)) (fun _ _ _ h => h) (Or.inl ⟨by rfl, ?_⟩) hHeld ?_ ?_
     rotate_left
     ·rintro w' ⟨s0, s1, s2⟩
      go_simp
      with_reducible rfl
     rotate_left
     ·simp only [Act.put, List.setIfInBounds_toArray, List.set_cons_zero, List.set_cons_succ, i64_w, i32_w]
      rfl
     refine one_ (i := 3) (N := some 21) #[true, true, true, true, false, false, false, false] rfl rfl (one_of HT_.out (by kernel_rfl)) (by decide) (fun K hK => ?_)
     refine goes_ Try.func48 (by kernel_rfl) rfl #[.pointer (some ⟨g, 0, none⟩), .int .i64 0] (by rfl) rfl rfl (by (try simp only [List.map_toArray, List.map_cons, List.map_nil]); first | done | rfl | (simp only [List.length_drop, List.length_take]; rfl)) ?_
     with_reducible refine (awardingbodymake_Tape_Part.calls k1 g s0_0 x1001_1 0 t215 t216 t217 t218 t219 t220 t221 w0 _ ?side1 ?side2 A12.out).mono ?_
     (case side1 => repeat (first | (with_reducible first | exact HI0.out | apply IsS68.alloc | apply IsS68.drewN | apply IsS68.drew | apply IsS68.set_1 | refine IsS68.far ?_ NB0_211.out _ | refine IsS68.far ?_ NB0_212.out _) | exact HI0.out))
     (case side2 => repeat (first | (with_reducible first | exact HB.out | apply below_alloc | apply pw_below_drewN | apply below_drew1 | refine below_set ?_ (IsS68.ge HI0.out) | refine below_set ?_ GE211.out | refine below_set ?_ GE212.out) | exact HB.out))
     rintro e w15 ⟨rfl, hi, hb, hk⟩
     refine ⟨_, rfl, ?_⟩
     replace HO_213002 := za (Kd.R_mono (Kd.R_keep (IsS68.apart (show IsS68 w0 _ g s0_0 x1001_1 from by repeat (first | (with_reducible first | exact HI0.out | apply IsS68.alloc | apply IsS68.drewN | apply IsS68.drew | apply IsS68.set_1 | refine IsS68.far ?_ NB0_211.out _ | refine IsS68.far ?_ NB0_212.out _) | exact HI0.out)) (by (with_reducible repeat (first | apply Kd.R_alloc | apply Kd.R_drewN | apply Kd.R_drew)); exact HO_213002.out) (by decide)) hk (fun _ h => h.2)) (fun _ h => h.1))
     replace BK211 := zk hk BK211 NB211_0
     replace BK212 := zk hk BK212 NB212_0
     replace HK := zt HK hk
     replace HB := za (hb)
     replace HI0 := za (hi)
     (try clear hb)
     (try clear hb2)
     (try clear hk)
     (try clear hi)
     refine hK.out _ _ ⟨(blk_cell BK212.out 0).trans rfl, (blk_cell BK212.out 1).trans rfl, (blk_cell BK212.out 2).trans rfl⟩ (fun hHeld => ?_)
     clear hK K
     refine norm_ (a' := ?_) ?_ ?_
     rotate_left
     ·show Act.put _ (some 21) _ = _
      simp only [Act.put, List.setIfInBounds_toArray, List.set_cons_zero, List.set_cons_succ, i64_w, i32_w]
      rfl
     refine one_ (i := 4) (N := some 22) #[true, true, true, true, true, false, false, false] rfl rfl (one_of HT_.out (by kernel_rfl)) (by decide) (fun K hK => ?_)
     refine value_ (w1 := ?_) (v := ?_) (by rfl) rfl ?_ ?_
     rotate_left 2
     ·go_simp
      constructor
      ·rfl
      ·rfl
     refine hK.out _ _ ⟨(blk_cell (blk_alloc BK212.out _) 0).trans rfl, (blk_cell (blk_alloc BK212.out _) 1).trans rfl, (blk_cell (blk_alloc BK212.out _) 2).trans rfl⟩ (fun hHeld => ?_)
     clear hK K
     refine norm_ (a' := ?_) ?_ ?_
     rotate_left
     ·show Act.put _ (some 22) _ = _
      simp only [Act.put, List.setIfInBounds_toArray, List.set_cons_zero, List.set_cons_succ, i64_w, i32_w]
      rfl
     refine one_ (i := 5) (N := some 23) #[true, true, true, true, true, true, false, false] rfl rfl (one_of HT_.out (by kernel_rfl)) (by decide) (fun K hK => ?_)
     refine Kd.R_append_step k65 w.heap.size (by rfl) (.tmp 19) (.tmp 22) 51 65 (.agg #[(.int .i64 0), (.int .i64 0), (.int .i64 0), (.int .i64 0), (.int .i64 0), (.int .i64 0)]) 48 rfl Try.underlying51 info65 rfl (by decide) (by omega) u213002 x213002_1 (⟨t215, t216, t217, t218, t219, t220⟩ : S65) [.int .i64 t215, .int .i64 t216, .int .i64 t217, .int .i64 t218, .int .i64 t219, .int .i64 t220] (fun _ => True) (fun _ => False) rfl rfl ?aP (fun _ hk => hk.elim) ?aF ?aO (Below.refl _ _) ?aS ?aL ?_
     (case aP => exact k65_mkM _ _ _ (⟨t215, t216, t217, t218, t219, t220⟩ : S65))
     (case aF => exact (fun _ _ => trivial))
     (case aO => exact (by (with_reducible repeat (first | apply Kd.R_alloc | apply Kd.R_drewN | apply Kd.R_drew)); exact HO_213002.out))
     (case aS => exact (keep_size (w := w) (g := g) (row := none) (by repeat (first | (with_reducible first | exact HK.out | apply KeepBut.set_ | apply keep_drewN | apply keep_drew | apply keep_alloc | refine keep_far ?_ GW211.out _ | refine keep_far ?_ GW212.out _) | exact HK.out))))
     (case aL => have := LMc13.out; omega)
     intro v223 w16 ho hb hg hat
     rw [← Ny222.out] at ho
     have HO224 := za (ho)
     replace BK211 := (zw BK211 hg (Kd.R_ne HO_213002.out BK211.out (by decide)))
     replace BK212 := (zw BK212 hg (Kd.R_ne HO_213002.out BK212.out (by decide)))
     replace HI0 := za (IsS68.grown (by repeat (first | (with_reducible first | exact HI0.out | apply IsS68.alloc | apply IsS68.drewN | apply IsS68.drew | apply IsS68.set_1 | refine IsS68.far ?_ NB0_211.out _ | refine IsS68.far ?_ NB0_212.out _) | exact HI0.out)) hg (IsS68.own_ne HI0.out HO_213002.out (by decide)))
     replace HB := za (below_weaken (zm HB) HL.out hb)
     replace HK := za (KeepBut.trans (by repeat (first | (with_reducible first | exact HK.out | apply KeepBut.set_ | apply keep_drewN | apply keep_drew | apply keep_alloc | refine keep_far ?_ GW211.out _ | refine keep_far ?_ GW212.out _) | exact HK.out)) (KeepBut.of_grown hg g) (Kd.R_base2 HO_213002.out))
     clear HO_213002 ho hb hg hat
     obtain ⟨Ao17, co17, eo17⟩ := Kd.R_slice HO224.out
     (first | subst eo17 | (injection eo17 with f1_ f2_ f3_; have f4_ := f1_.symm; have f5_ := f3_.symm; clear f1_ f2_ f3_; subst f4_; subst f5_))
     refine hK.out _ _ ⟨(blk_cell BK212.out 0).trans rfl, (blk_cell BK212.out 1).trans rfl, (blk_cell BK212.out 2).trans rfl⟩ (fun hHeld => ?_)
     clear hK K
     refine norm_ (a' := ?_) ?_ ?_
     rotate_left
     ·show Act.put _ (some 23) _ = _
      simp only [Act.put, List.setIfInBounds_toArray, List.set_cons_zero, List.set_cons_succ, i64_w, i32_w]
      rfl
     refine pure_ (i := 6) (N := some 24) (v := ?_) (a' := ?_) #[true, true, true, true, true, true, true, false] rfl rfl (any_of HT_.out (by kernel_rfl)) (fun _ _ _ h => h) (Or.inl ⟨by rfl, ?_⟩) ?_ ?_
     rotate_left
     ·intro w'
      go_simp
      with_reducible rfl
     rotate_left
     ·simp only [Act.put, List.setIfInBounds_toArray, List.set_cons_zero, List.set_cons_succ, i64_w, i32_w]
      rfl
     refine last_ (i := 7) (N := none) #[true, true, true, true, true, true, true, true] rfl rfl (one_of HT_.out (by kernel_rfl)) (by decide) (fun K hK => ?_)
     have hs18 : w16.cell? ⟨gb212, 2, none⟩ = some (u213002) := (blk_cell BK212.out 2).trans rfl
     have hfs18 := blk_frozen BK212.out 2
     have hns18_0 := NB211_212.out
     have hms18_0 := NB212_211.out
     refine skip_ (w1 := ?_) (by rfl) rfl ?_ ?_
     rotate_left
     ·go_simp
      rfl
     refine hK.out _ _ ?_
     clear hK K
     refine done_ (done_of HT_.out (by kernel_rfl)) ?_
     try go_wp2
     go_roundg k1
     case measure => have := HK1.out; omega
     case rel => exact ⟨(wrap64 (x8_1 - 1)), (t221), (y222), (.slice Ao17 y222.length co17), (by first | rfl | (simp; done) | (simp [*]; done)), H', ⟨by have := HK1.out; omega⟩, ⟨by (with_reducible repeat (first | apply Kd.R_alloc | apply Kd.R_drewN | apply Kd.R_drew)); exact Kd.R_mono (Kd.R_far (p := ⟨gb212, 2, none⟩) (Kd.R_types HO224.out BK212.out (by decide)) (fun _ hk => hk.2) (.slice Ao17 y222.length co17)) (fun _ hk => trivial)⟩, ⟨by (with_reducible repeat (first | refine blk_drewN ?_ _ | refine blk_drew ?_ | refine blk_alloc ?_ _)); refine blk_far ?_ NB211_212.out _; (with_reducible repeat (first | refine blk_drewN ?_ _ | refine blk_drew ?_ | refine blk_alloc ?_ _)); exact BK211.out⟩, ⟨by (with_reducible repeat (first | refine blk_drewN ?_ _ | refine blk_drew ?_ | refine blk_alloc ?_ _)); refine blk_put (cs := #[.int .i64 a1, .int .i64 a2, u213002]) ?_ 2 _ rfl; (with_reducible repeat (first | refine blk_drewN ?_ _ | refine blk_drew ?_ | refine blk_alloc ?_ _)); exact BK212.out⟩, ⟨by repeat (first | (with_reducible first | exact HI0.out | apply IsS68.alloc | apply IsS68.drewN | apply IsS68.drew | apply IsS68.set_1 | refine IsS68.far ?_ NB0_211.out _ | refine IsS68.far ?_ NB0_212.out _) | exact HI0.out)⟩, ⟨by repeat (first | (with_reducible first | exact HK.out | apply KeepBut.set_ | apply keep_drewN | apply keep_drew | apply keep_alloc | refine keep_far ?_ GW211.out _ | refine keep_far ?_ GW212.out _) | exact HK.out)⟩, ⟨zm HB⟩⟩
    ·rw [if_neg c13] at H
     exact absurd H (by simp)
   ·rw [if_neg c11] at H
    have c11b0 : decide (0 < x8_1) = false := decide_eq_false c11
    clear c11
    simp only [Option.some.injEq, Prod.mk.injEq] at H
    obtain ⟨rfl, rfl, rfl, rfl⟩ := H
    have hnb19 := NB212_211.out
    have hnc19 := NB211_212.out
    have hnb20 := NB212_0.out
    have hnc20 := NB0_212.out
    obtain ⟨hcz21_0, hcz21_1, hcz21_2, hfz21_0, hfz21_1, hfz21_2⟩ := z3 BK212
    have hnb22 := NB211_0.out
    have hnc22 := NB0_211.out
    obtain ⟨hcz23_0, hcz23_1, hcz23_2, hfz23_0, hfz23_1, hfz23_2⟩ := z3 BK211
    obtain ⟨Ao24, co24, eo24⟩ := Kd.R_slice HO_213002.out
    subst eo24
    go_wp2
    refine bodyPost_ret (results_cell_row rfl _ _ gb211 53 #[.int .i64 a1, .int .i64 a2, .slice Ao24 x213002_1.length co24] (0, 0) _ rfl (by (with_reducible repeat (first | refine blk_drewN ?_ _ | refine blk_drew ?_ | refine blk_alloc ?_ _)); refine blk_put (cs := #[.int .i64 a1, .int .i64 a2, .slice none 0 0]) ?_ 2 _ rfl; (with_reducible repeat (first | refine blk_drewN ?_ _ | refine blk_drew ?_ | refine blk_alloc ?_ _)); refine blk_put (cs := #[.int .i64 a1, .int .i64 0, .slice none 0 0]) ?_ 1 _ rfl; (with_reducible repeat (first | refine blk_drewN ?_ _ | refine blk_drew ?_ | refine blk_alloc ?_ _)); refine blk_put (cs := #[.int .i64 0, .int .i64 0, .slice none 0 0]) ?_ 0 _ rfl; (with_reducible repeat (first | refine blk_drewN ?_ _ | refine blk_drew ?_ | refine blk_alloc ?_ _)); exact BK211.out) Try.underlying53 rfl (by kernel_rfl)) rfl ?_
    exact ⟨_, zf, by (with_reducible repeat (first | apply Kd.R_alloc | apply Kd.R_drewN | apply Kd.R_drew)); exact Kd.R_mono (Kd.R_far (p := ⟨gb211, 2, none⟩) (Kd.R_far (p := ⟨gb211, 1, none⟩) (Kd.R_far (p := ⟨gb211, 0, none⟩) (Kd.R_types HO_213002.out BK211.out (by decide)) (fun _ hk => hk.2) (.int .i64 a1)) (fun _ hk => hk.2) (.int .i64 a2)) (fun _ hk => hk.2) (.slice Ao24 x213002_1.length co24)) (fun _ hk => trivial), by repeat (first | (with_reducible first | exact HI0.out | apply IsS68.alloc | apply IsS68.drewN | apply IsS68.drew | apply IsS68.set_1 | refine IsS68.far ?_ NB0_211.out _ | refine IsS68.far ?_ NB0_212.out _) | exact HI0.out), zm HB, by repeat (first | (with_reducible first | exact HK.out | apply KeepBut.set_ | apply keep_drewN | apply keep_drew | apply keep_alloc | refine keep_far ?_ GW211.out _ | refine keep_far ?_ GW212.out _) | exact HK.out)⟩

end Go.Proofs.Ythbmpjglkbhhgaa.Print
