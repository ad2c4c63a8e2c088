-- Printed by a program of this session (wip/own_print.py) out of the translation; Lean checks it.
import Derived.Test.YtinmdoemkejanaaShort
import Derived.Test.YtinmdoemkejanaaPrint0
import Derived.Test.YtinmdoemkejanaaPrint1
namespace Go.Proofs.Ytinmdoemkejanaa.Print
open Go.RowKit Go.Proofs.YtinmdoemkejanaaW.PrintWords Go.Proofs.YtinmdoemkejanaaW.PrintLast Go.Proofs.YtinmdoemkejanaaW.PrintMore
attribute [local go_sem] max2_int min2_int max_two min_two max_three min_three max_four min_four   -- for this text's walks alone
set_option linter.unusedVariables false
set_option linter.unusedSimpArgs false

attribute [local go_sem high] eqA23
/-! ### item_Material: function 25 -/
def item_Material.l0 : Nat → List Int → Int → Int → Int → Int → ByteArray → List (S23) → List Int → Int → Int → ByteArray → List (S23) → List Int → Option (List Int)
  | 0, _, _, _, _, _, _, _, _, _, _, _, _, _ => none
  | k + 1, x5, x13, x14, x136000, x136001, x136002, x136003, x136004, x137000, x137001, x137002, x137003, x137004 => if x14 < x13 then (if x14 ≥ (x136003.length : Int) then (if x5.length < 17592186044416 then (item_Material.l0 k (x5 ++ [x14]) x13 (wrap64 (x14 + 1)) x136000 x136001 x136002 x136003 x136004 x137000 x137001 x137002 x137003 x137004) else (none)) else (if x14 ≥ (x137003.length : Int) then (if x5.length < 17592186044416 then (item_Material.l0 k (x5 ++ [x14]) x13 (wrap64 (x14 + 1)) x136000 x136001 x136002 x136003 x136004 x137000 x137001 x137002 x137003 x137004) else (none)) else (if 0 ≤ x14 then (if x14 < (x136003.length : Int) then (if x14 < (x137003.length : Int) then (if (!(((rd_T23 x136003 x14).f0) == ((rd_T23 x137003 x14).f0)) || (!(((rd_T23 x136003 x14).f1) == ((rd_T23 x137003 x14).f1)) || (!(((rd_T23 x136003 x14).f2) == ((rd_T23 x137003 x14).f2)) || (!(((rd_T23 x136003 x14).f3) == ((rd_T23 x137003 x14).f3)) || (!(((rd_T23 x136003 x14).f4) == ((rd_T23 x137003 x14).f4)) || (!(((rd_T23 x136003 x14).f5) == ((rd_T23 x137003 x14).f5)))))))) = true then (if x5.length < 17592186044416 then (item_Material.l0 k (x5 ++ [x14]) x13 (wrap64 (x14 + 1)) x136000 x136001 x136002 x136003 x136004 x137000 x137001 x137002 x137003 x137004) else (none)) else (item_Material.l0 k x5 x13 (wrap64 (x14 + 1)) x136000 x136001 x136002 x136003 x136004 x137000 x137001 x137002 x137003 x137004)) else (none)) else (none)) else (none)))) else (some x5)
def item_Material.f (k : Nat) (a0_0 : Int) (a0_1 : Int) (a0_2 : ByteArray) (l0_3 : List (S23)) (l0_4 : List Int) (a1_0 : Int) (a1_1 : Int) (a1_2 : ByteArray) (l1_3 : List (S23)) (l1_4 : List Int) : Option (List Int) := item_Material.l0 k ([] : List Int) (mx (l0_3.length : Int) (l1_3.length : Int)) 0 a0_0 a0_1 a0_2 l0_3 l0_4 a1_0 a1_1 a1_2 l1_3 l1_4
theorem item_Material.mono_l : ∀ k, (∀ y0 y1 y2 y3 y4 y5 y6 y7 y8 y9 y10 y11 y12, LeO (item_Material.l0 k y0 y1 y2 y3 y4 y5 y6 y7 y8 y9 y10 y11 y12) (item_Material.l0 (k + 1) y0 y1 y2 y3 y4 y5 y6 y7 y8 y9 y10 y11 y12))
  | 0 => fun _ _ _ _ _ _ _ _ _ _ _ _ _ r h => by simp [item_Material.l0] at h
  | k + 1 => by
    have ih0 := item_Material.mono_l k
    · intro y0 y1 y2 y3 y4 y5 y6 y7 y8 y9 y10 y11 y12
      unfold item_Material.l0
      repeat' first
      | (with_reducible exact ih0 _ _ _ _ _ _ _ _ _ _ _ _ _)
      | (with_reducible exact LeO.refl _)
      | (with_reducible exact LeO.none _)
      | (with_reducible refine LeO.ite ?_ ?_)
      | (with_reducible refine LeO.bind ?_ (fun _ => ?_))
      | exact ih0 _ _ _ _ _ _ _ _ _ _ _ _ _
      | exact LeO.none _
      | refine LeO.ite ?_ ?_
      | refine LeO.bind ?_ (fun _ => ?_)
theorem item_Material.mono : ∀ a0 a1 a2 a3 a4 a5 a6 a7 a8 a9 k, LeO (item_Material.f k a0 a1 a2 a3 a4 a5 a6 a7 a8 a9) (item_Material.f (k + 1) a0 a1 a2 a3 a4 a5 a6 a7 a8 a9) := by
  intro a0 a1 a2 a3 a4 a5 a6 a7 a8 a9 k
  have ih0 := item_Material.mono_l k
  unfold item_Material.f
  repeat' first
      | (with_reducible exact ih0 _ _ _ _ _ _ _ _ _ _ _ _ _)
      | (with_reducible exact LeO.refl _)
      | (with_reducible exact LeO.none _)
      | (with_reducible refine LeO.ite ?_ ?_)
      | (with_reducible refine LeO.bind ?_ (fun _ => ?_))
      | exact ih0 _ _ _ _ _ _ _ _ _ _ _ _ _
      | exact LeO.none _
      | refine LeO.ite ?_ ?_
      | refine LeO.bind ?_ (fun _ => ?_)
set_option maxHeartbeats 8000000 in
set_option maxRecDepth 100000 in
theorem item_Material.calls (k : Nat) (a0_0 : Int) (a0_1 : Int) (a0_2 : ByteArray) (A0_3 : Option Addr) (c0_3 : Nat) (l0_3 : List (S23)) (A0_4 : Option Addr) (c0_4 : Nat) (l0_4 : List Int) (a1_0 : Int) (a1_1 : Int) (a1_2 : ByteArray) (A1_3 : Option Addr) (c1_3 : Nat) (l1_3 : List (S23)) (A1_4 : Option Addr) (c1_4 : Nat) (l1_4 : List Int) (r : List Int) (w : World) (hr0_3 : Kd.C k23 w A0_3 l0_3.length l0_3) (hc0_3 : l0_3.length ≤ c0_3) (hr0_4 : Kd.C (Kd.int .i64) w A0_4 l0_4.length l0_4) (hc0_4 : l0_4.length ≤ c0_4) (hr1_3 : Kd.C k23 w A1_3 l1_3.length l1_3) (hc1_3 : l1_3.length ≤ c1_3) (hr1_4 : Kd.C (Kd.int .i64) w A1_4 l1_4.length l1_4) (hc1_4 : l1_4.length ≤ c1_4) (h : item_Material.f k a0_0 a0_1 a0_2 l0_3 l0_4 a1_0 a1_1 a1_2 l1_3 l1_4 = some r) :
    Calls Try.prog 25 #[.agg #[.int .i64 a0_0, .int .i64 a0_1, .string a0_2, .slice A0_3 l0_3.length c0_3, .slice A0_4 l0_4.length c0_4], .agg #[.int .i64 a1_0, .int .i64 a1_1, .string a1_2, .slice A1_3 l1_3.length c1_3, .slice A1_4 l1_4.length c1_4]] w fun e w' => ∃ v0_ : Value, e = .returned (v0_) ∧ Kd.R (Kd.int .i64) 3 w' w.heap.size (fun _ => True) v0_ r ∧ Below w.heap.size w w' := by
 have hu33 := Try.underlying33
 have hu23 := Try.underlying23
 have HR0_3 := za hr0_3
 have HC0_3 := za hc0_3
 clear hr0_3 hc0_3
 have HR0_4 := za hr0_4
 have HC0_4 := za hc0_4
 clear hr0_4 hc0_4
 have HR1_3 := za hr1_3
 have HC1_3 := za hc1_3
 clear hr1_3 hc1_3
 have HR1_4 := za hr1_4
 have HC1_4 := za hc1_4
 clear hr1_4 hc1_4
 have HB := za (Below.refl w.heap.size w)
 have H : (item_Material.l0 k ([] : List Int) (mx (l0_3.length : Int) (l1_3.length : Int)) 0 a0_0 a0_1 a0_2 l0_3 l0_4 a1_0 a1_1 a1_2 l1_3 l1_4) = some r := h
 clear h
 obtain ⟨ji3, hji3⟩ : ∃ j_ : Int, (mx (l0_3.length : Int) (l1_3.length : Int)) = j_ := ⟨_, rfl⟩
 replace H : (item_Material.l0 k ([] : List Int) ji3 0 a0_0 a0_1 a0_2 l0_3 l0_4 a1_0 a1_1 a1_2 l1_3 l1_4) = some r := by first | (rw [hji3] at H; exact H) | (simp only [hji3] at H ⊢; exact H)
 (try (have hji3l : 0 ≤ ji3 := by (rw [← hji3]; unfold mx; (repeat' split) <;> omega)))
 (try (have hji3m : 0 ≤ ji3 := by omega))
 have hji3_ : (if (l0_3.length : Int) < (l1_3.length : Int) then (l1_3.length : Int) else (l0_3.length : Int)) = ji3 := hji3
 have hji3n : (if l0_3.length < l1_3.length then (l1_3.length : Int) else (l0_3.length : Int)) = ji3 := by rw [← hji3_]; simp only [Int.ofNat_lt]
 have H' := za H
 clear H
 go_enter Try.func25, Try.ntmps25
 go_wp2_with (first | ((with_reducible refine gate_dst (N := 2) rfl ?_); (try (refine gate_guard (by rfl) ?_; dsimp only)); refine zE 2 #[.int .i64 a0_0, .int .i64 a0_1, .string a0_2, .slice A0_3 l0_3.length c0_3, .slice A0_4 l0_4.length c0_4] 33 ?_; intro gb135 hg w4 hbox hb; have BK135 := za (hbox); have GW135 := zg HB hg; have GE135 := zg HB hg; replace HB := zs HB hb; clear hb hbox hg) | ((with_reducible refine gate_dst (N := 3) rfl ?_); (try (refine gate_guard (by rfl) ?_; dsimp only)); refine zE 3 #[.int .i64 a1_0, .int .i64 a1_1, .string a1_2, .slice A1_3 l1_3.length c1_3, .slice A1_4 l1_4.length c1_4] 33 ?_; intro gb136 hg w5 hbox hb; have BK136 := za (hbox); have GW136 := zg HB hg; have GE136 := zg HB hg; have NB135_136 := zl BK135 hg; have NB136_135 := zr BK135 hg; replace BK135 := zb BK135 hb; replace HB := zs HB hb; clear hb hbox hg; have hnb6 := NB135_136.out; have hnc6 := NB136_135.out; obtain ⟨hcz7_0, hcz7_1, hcz7_2, hcz7_3, hcz7_4, hfz7_0, hfz7_1, hfz7_2, hfz7_3, hfz7_4⟩ := z5 BK135; obtain ⟨hcz8_0, hcz8_1, hcz8_2, hcz8_3, hcz8_4, hfz8_0, hfz8_1, hfz8_2, hfz8_3, hfz8_4⟩ := z5 BK136))
 repeat (go_quiet (first | ((with_reducible refine gate_dst (N := 2) rfl ?_); (try (refine gate_guard (by rfl) ?_; dsimp only)); refine zE 2 #[.int .i64 a0_0, .int .i64 a0_1, .string a0_2, .slice A0_3 l0_3.length c0_3, .slice A0_4 l0_4.length c0_4] 33 ?_; intro gb135 hg w4 hbox hb; have BK135 := za (hbox); have GW135 := zg HB hg; have GE135 := zg HB hg; replace HB := zs HB hb; clear hb hbox hg) | ((with_reducible refine gate_dst (N := 3) rfl ?_); (try (refine gate_guard (by rfl) ?_; dsimp only)); refine zE 3 #[.int .i64 a1_0, .int .i64 a1_1, .string a1_2, .slice A1_3 l1_3.length c1_3, .slice A1_4 l1_4.length c1_4] 33 ?_; intro gb136 hg w5 hbox hb; have BK136 := za (hbox); have GW136 := zg HB hg; have GE136 := zg HB hg; have NB135_136 := zl BK135 hg; have NB136_135 := zr BK135 hg; replace BK135 := zb BK135 hb; replace HB := zs HB hb; clear hb hbox hg; have hnb6 := NB135_136.out; have hnc6 := NB136_135.out; obtain ⟨hcz7_0, hcz7_1, hcz7_2, hcz7_3, hcz7_4, hfz7_0, hfz7_1, hfz7_2, hfz7_3, hfz7_4⟩ := z5 BK135; obtain ⟨hcz8_0, hcz8_1, hcz8_2, hcz8_3, hcz8_4, hfz8_0, hfz8_1, hfz8_2, hfz8_3, hfz8_4⟩ := z5 BK136)); try go_wp2_with (first | ((with_reducible refine gate_dst (N := 2) rfl ?_); (try (refine gate_guard (by rfl) ?_; dsimp only)); refine zE 2 #[.int .i64 a0_0, .int .i64 a0_1, .string a0_2, .slice A0_3 l0_3.length c0_3, .slice A0_4 l0_4.length c0_4] 33 ?_; intro gb135 hg w4 hbox hb; have BK135 := za (hbox); have GW135 := zg HB hg; have GE135 := zg HB hg; replace HB := zs HB hb; clear hb hbox hg) | ((with_reducible refine gate_dst (N := 3) rfl ?_); (try (refine gate_guard (by rfl) ?_; dsimp only)); refine zE 3 #[.int .i64 a1_0, .int .i64 a1_1, .string a1_2, .slice A1_3 l1_3.length c1_3, .slice A1_4 l1_4.length c1_4] 33 ?_; intro gb136 hg w5 hbox hb; have BK136 := za (hbox); have GW136 := zg HB hg; have GE136 := zg HB hg; have NB135_136 := zl BK135 hg; have NB136_135 := zr BK135 hg; replace BK135 := zb BK135 hb; replace HB := zs HB hb; clear hb hbox hg; have hnb6 := NB135_136.out; have hnc6 := NB136_135.out; obtain ⟨hcz7_0, hcz7_1, hcz7_2, hcz7_3, hcz7_4, hfz7_0, hfz7_1, hfz7_2, hfz7_3, hfz7_4⟩ := z5 BK135; obtain ⟨hcz8_0, hcz8_1, hcz8_2, hcz8_3, hcz8_4, hfz8_0, hfz8_1, hfz8_2, hfz8_3, hfz8_4⟩ := z5 BK136)))
 go_loopg [5, 14] k (fun kq v5 v14 w' => ∃ (x5_1 : List Int) (x14_1 : Int), v14 = .int .i64 x14_1 ∧ Aside0 (item_Material.l0 kq x5_1 ji3 x14_1 a0_0 a0_1 a0_2 l0_3 l0_4 a1_0 a1_1 a1_2 l1_3 l1_4 = some r) ∧ Aside0 (kq ≤ k) ∧ Aside0 (Kd.R (Kd.int .i64) 3 w' w.heap.size (fun _ => True) v5 x5_1) ∧ Aside0 (w'.heap[gb135]? = some (.cells #[.int .i64 a0_0, .int .i64 a0_1, .string a0_2, (.slice A0_3 l0_3.length c0_3), (.slice A0_4 l0_4.length c0_4)] 33 (0, 0))) ∧ Aside0 (w'.heap[gb136]? = some (.cells #[.int .i64 a1_0, .int .i64 a1_1, .string a1_2, (.slice A1_3 l1_3.length c1_3), (.slice A1_4 l1_4.length c1_4)] 33 (0, 0))) ∧ Aside0 (Below w.heap.size w w'))
 case atStart => exact ⟨(([] : List Int)), (0), (by first | rfl | (simp; done) | (simp [*]; done)), H', ⟨Nat.le_refl _⟩, ⟨by first | exact Kd.R_nil _ _ _ _ _ | exact Kd.N_nil _ _ _ _ _ | exact Kd.V_nil _ _ _ _ _ | exact Kd.Q_nil _ _ _ _ _ | exact Kd.S_nil _ _ _ _ _⟩, ⟨by (with_reducible repeat (first | refine blk_drewN ?_ _ | refine blk_drew ?_ | refine blk_alloc ?_ _)); exact BK135.out⟩, ⟨by (with_reducible repeat (first | refine blk_drewN ?_ _ | refine blk_drew ?_ | refine blk_alloc ?_ _)); exact BK136.out⟩, ⟨zm HB⟩⟩
 case round =>
  clear H'
  try clear c1
  try clear c2
  try clear p2
  try clear c6
  try clear hcz7_0
  try clear hcz7_1
  try clear hcz7_2
  try clear hcz7_3
  try clear hcz7_4
  try clear hcz8_0
  try clear hcz8_1
  try clear hcz8_2
  try clear hcz8_3
  try clear hcz8_4
  try clear hfz7_0
  try clear hfz7_1
  try clear hfz7_2
  try clear hfz7_3
  try clear hfz7_4
  try clear hfz8_0
  try clear hfz8_1
  try clear hfz8_2
  try clear hfz8_3
  try clear hfz8_4
  obtain ⟨x5_1, x14_1, rfl, HA, HK1, HO_5, BK135, BK136, HB⟩ := hrel
  cases gk with
  | zero => exact absurd HA.out (by simp [item_Material.l0])
  | succ k1 =>
   have H := HA.out
   clear HA
   simp only [item_Material.l0] at H
   by_cases c9 : x14_1 < ji3
   ·rw [if_pos c9] at H
    have c9b0 : decide (x14_1 < ji3) = true := decide_eq_true c9
    clear c9
    by_cases c10 : x14_1 ≥ (l0_3.length : Int)
    ·rw [if_pos c10] at H
     have c10b0 : decide ((l0_3.length : Int) ≤ x14_1) = true := decide_eq_true c10
     clear c10
     by_cases c11 : x5_1.length < 17592186044416
     ·rw [if_pos c11] at H
      have LMc11 := za c11
      clear c11
      obtain ⟨y137, hy137⟩ : ∃ y_ : List Int, y_ = (x5_1 ++ [x14_1]) := ⟨_, rfl⟩
      replace H : (item_Material.l0 k1 y137 ji3 (wrap64 (x14_1 + 1)) a0_0 a0_1 a0_2 l0_3 l0_4 a1_0 a1_1 a1_2 l1_3 l1_4) = some r := by first | (rw [hy137]; with_reducible exact H) | (have H2_ := (Option.bind_some _ _).symm.trans H; rw [hy137]; with_reducible exact H2_) | (have H2_ := (Option.bind_some _ _).symm.trans H; with_reducible exact H2_) | with_reducible exact H | (rw [hy137]; exact H) | exact H
      have Ny137 := za hy137
      clear hy137
      have H' := za H
      clear H
      have hnb12 := NB135_136.out
      have hnc12 := NB136_135.out
      obtain ⟨hcz13_0, hcz13_1, hcz13_2, hcz13_3, hcz13_4, hfz13_0, hfz13_1, hfz13_2, hfz13_3, hfz13_4⟩ := z5 BK135
      go_wp2_with (first | ((with_reducible refine gate_builtin (b := .append) (xs := #[.tmp 42, .tmp 44]) rfl ?_); (try (refine gate_guard (by rfl) ?_; dsimp only)); at_builtin; refine Kd.R_append (Kd.int .i64) (w0 := w) w.heap.size rfl (.tmp 42) (.tmp 44) 28 3 (.int .i64 0) 8 rfl Try.underlying28 info3 rfl (by decide) (by omega) u5 x5_1 x14_1 [.int .i64 x14_1] (fun _ => True) (fun _ => False) rfl rfl ?aP (fun _ hk => hk.elim) ?aF ?aO ?aB ?aS ?aL ?_; (case aP => exact rfl); (case aB => exact (zm HB)); (case aF => exact (fun _ _ => trivial)); (case aO => exact (by (with_reducible repeat (first | apply Kd.R_alloc | apply Kd.R_drewN | apply Kd.R_drew)); exact HO_5.out)); (case aS => exact (below_size (zm HB))); (case aL => have := LMc11.out; omega); intro v138 w14 ho hb hg hat; rw [← Ny137.out] at ho; have HO139 := za (ho); replace BK135 := (zw BK135 hg (Kd.R_ne HO_5.out BK135.out (by decide))); replace BK136 := (zw BK136 hg (Kd.R_ne HO_5.out BK136.out (by decide))); replace HB := za (hb); clear HO_5 ho hb hg hat))
      repeat (go_quiet (first | ((with_reducible refine gate_builtin (b := .append) (xs := #[.tmp 42, .tmp 44]) rfl ?_); (try (refine gate_guard (by rfl) ?_; dsimp only)); at_builtin; refine Kd.R_append (Kd.int .i64) (w0 := w) w.heap.size rfl (.tmp 42) (.tmp 44) 28 3 (.int .i64 0) 8 rfl Try.underlying28 info3 rfl (by decide) (by omega) u5 x5_1 x14_1 [.int .i64 x14_1] (fun _ => True) (fun _ => False) rfl rfl ?aP (fun _ hk => hk.elim) ?aF ?aO ?aB ?aS ?aL ?_; (case aP => exact rfl); (case aB => exact (zm HB)); (case aF => exact (fun _ _ => trivial)); (case aO => exact (by (with_reducible repeat (first | apply Kd.R_alloc | apply Kd.R_drewN | apply Kd.R_drew)); exact HO_5.out)); (case aS => exact (below_size (zm HB))); (case aL => have := LMc11.out; omega); intro v138 w14 ho hb hg hat; rw [← Ny137.out] at ho; have HO139 := za (ho); replace BK135 := (zw BK135 hg (Kd.R_ne HO_5.out BK135.out (by decide))); replace BK136 := (zw BK136 hg (Kd.R_ne HO_5.out BK136.out (by decide))); replace HB := za (hb); clear HO_5 ho hb hg hat)); try go_wp2_with (first | ((with_reducible refine gate_builtin (b := .append) (xs := #[.tmp 42, .tmp 44]) rfl ?_); (try (refine gate_guard (by rfl) ?_; dsimp only)); at_builtin; refine Kd.R_append (Kd.int .i64) (w0 := w) w.heap.size rfl (.tmp 42) (.tmp 44) 28 3 (.int .i64 0) 8 rfl Try.underlying28 info3 rfl (by decide) (by omega) u5 x5_1 x14_1 [.int .i64 x14_1] (fun _ => True) (fun _ => False) rfl rfl ?aP (fun _ hk => hk.elim) ?aF ?aO ?aB ?aS ?aL ?_; (case aP => exact rfl); (case aB => exact (zm HB)); (case aF => exact (fun _ _ => trivial)); (case aO => exact (by (with_reducible repeat (first | apply Kd.R_alloc | apply Kd.R_drewN | apply Kd.R_drew)); exact HO_5.out)); (case aS => exact (below_size (zm HB))); (case aL => have := LMc11.out; omega); intro v138 w14 ho hb hg hat; rw [← Ny137.out] at ho; have HO139 := za (ho); replace BK135 := (zw BK135 hg (Kd.R_ne HO_5.out BK135.out (by decide))); replace BK136 := (zw BK136 hg (Kd.R_ne HO_5.out BK136.out (by decide))); replace HB := za (hb); clear HO_5 ho hb hg hat)))
      go_roundg k1
      case measure => have := HK1.out; omega
      case rel => exact ⟨(y137), (wrap64 (x14_1 + 1)), (by first | rfl | (simp; done) | (simp [*]; done)), H', ⟨by have := HK1.out; omega⟩, ⟨by (with_reducible repeat (first | apply Kd.R_alloc | apply Kd.R_drewN | apply Kd.R_drew)); exact HO139.out⟩, ⟨by (with_reducible repeat (first | refine blk_drewN ?_ _ | refine blk_drew ?_ | refine blk_alloc ?_ _)); exact BK135.out⟩, ⟨by (with_reducible repeat (first | refine blk_drewN ?_ _ | refine blk_drew ?_ | refine blk_alloc ?_ _)); exact BK136.out⟩, ⟨zm HB⟩⟩
     ·rw [if_neg c11] at H
      exact absurd H (by simp)
    ·rw [if_neg c10] at H
     have c10b0 : decide ((l0_3.length : Int) ≤ x14_1) = false := decide_eq_false c10
     clear c10
     by_cases c15 : x14_1 ≥ (l1_3.length : Int)
     ·rw [if_pos c15] at H
      have c15b0 : decide ((l1_3.length : Int) ≤ x14_1) = true := decide_eq_true c15
      clear c15
      by_cases c16 : x5_1.length < 17592186044416
      ·rw [if_pos c16] at H
       have LMc16 := za c16
       clear c16
       obtain ⟨y140, hy140⟩ : ∃ y_ : List Int, y_ = (x5_1 ++ [x14_1]) := ⟨_, rfl⟩
       replace H : (item_Material.l0 k1 y140 ji3 (wrap64 (x14_1 + 1)) a0_0 a0_1 a0_2 l0_3 l0_4 a1_0 a1_1 a1_2 l1_3 l1_4) = some r := by first | (rw [hy140]; with_reducible exact H) | (have H2_ := (Option.bind_some _ _).symm.trans H; rw [hy140]; with_reducible exact H2_) | (have H2_ := (Option.bind_some _ _).symm.trans H; with_reducible exact H2_) | with_reducible exact H | (rw [hy140]; exact H) | exact H
       have Ny140 := za hy140
       clear hy140
       have H' := za H
       clear H
       have hnb17 := NB135_136.out
       have hnc17 := NB136_135.out
       obtain ⟨hcz18_0, hcz18_1, hcz18_2, hcz18_3, hcz18_4, hfz18_0, hfz18_1, hfz18_2, hfz18_3, hfz18_4⟩ := z5 BK135
       obtain ⟨hcz19_0, hcz19_1, hcz19_2, hcz19_3, hcz19_4, hfz19_0, hfz19_1, hfz19_2, hfz19_3, hfz19_4⟩ := z5 BK136
       go_wp2_with (first | ((with_reducible refine gate_builtin (b := .append) (xs := #[.tmp 42, .tmp 44]) rfl ?_); (try (refine gate_guard (by rfl) ?_; dsimp only)); at_builtin; refine Kd.R_append (Kd.int .i64) (w0 := w) w.heap.size rfl (.tmp 42) (.tmp 44) 28 3 (.int .i64 0) 8 rfl Try.underlying28 info3 rfl (by decide) (by omega) u5 x5_1 x14_1 [.int .i64 x14_1] (fun _ => True) (fun _ => False) rfl rfl ?aP (fun _ hk => hk.elim) ?aF ?aO ?aB ?aS ?aL ?_; (case aP => exact rfl); (case aB => exact (zm HB)); (case aF => exact (fun _ _ => trivial)); (case aO => exact (by (with_reducible repeat (first | apply Kd.R_alloc | apply Kd.R_drewN | apply Kd.R_drew)); exact HO_5.out)); (case aS => exact (below_size (zm HB))); (case aL => have := LMc16.out; omega); intro v141 w20 ho hb hg hat; rw [← Ny140.out] at ho; have HO142 := za (ho); replace BK135 := (zw BK135 hg (Kd.R_ne HO_5.out BK135.out (by decide))); replace BK136 := (zw BK136 hg (Kd.R_ne HO_5.out BK136.out (by decide))); replace HB := za (hb); clear HO_5 ho hb hg hat))
       repeat (go_quiet (first | ((with_reducible refine gate_builtin (b := .append) (xs := #[.tmp 42, .tmp 44]) rfl ?_); (try (refine gate_guard (by rfl) ?_; dsimp only)); at_builtin; refine Kd.R_append (Kd.int .i64) (w0 := w) w.heap.size rfl (.tmp 42) (.tmp 44) 28 3 (.int .i64 0) 8 rfl Try.underlying28 info3 rfl (by decide) (by omega) u5 x5_1 x14_1 [.int .i64 x14_1] (fun _ => True) (fun _ => False) rfl rfl ?aP (fun _ hk => hk.elim) ?aF ?aO ?aB ?aS ?aL ?_; (case aP => exact rfl); (case aB => exact (zm HB)); (case aF => exact (fun _ _ => trivial)); (case aO => exact (by (with_reducible repeat (first | apply Kd.R_alloc | apply Kd.R_drewN | apply Kd.R_drew)); exact HO_5.out)); (case aS => exact (below_size (zm HB))); (case aL => have := LMc16.out; omega); intro v141 w20 ho hb hg hat; rw [← Ny140.out] at ho; have HO142 := za (ho); replace BK135 := (zw BK135 hg (Kd.R_ne HO_5.out BK135.out (by decide))); replace BK136 := (zw BK136 hg (Kd.R_ne HO_5.out BK136.out (by decide))); replace HB := za (hb); clear HO_5 ho hb hg hat)); try go_wp2_with (first | ((with_reducible refine gate_builtin (b := .append) (xs := #[.tmp 42, .tmp 44]) rfl ?_); (try (refine gate_guard (by rfl) ?_; dsimp only)); at_builtin; refine Kd.R_append (Kd.int .i64) (w0 := w) w.heap.size rfl (.tmp 42) (.tmp 44) 28 3 (.int .i64 0) 8 rfl Try.underlying28 info3 rfl (by decide) (by omega) u5 x5_1 x14_1 [.int .i64 x14_1] (fun _ => True) (fun _ => False) rfl rfl ?aP (fun _ hk => hk.elim) ?aF ?aO ?aB ?aS ?aL ?_; (case aP => exact rfl); (case aB => exact (zm HB)); (case aF => exact (fun _ _ => trivial)); (case aO => exact (by (with_reducible repeat (first | apply Kd.R_alloc | apply Kd.R_drewN | apply Kd.R_drew)); exact HO_5.out)); (case aS => exact (below_size (zm HB))); (case aL => have := LMc16.out; omega); intro v141 w20 ho hb hg hat; rw [← Ny140.out] at ho; have HO142 := za (ho); replace BK135 := (zw BK135 hg (Kd.R_ne HO_5.out BK135.out (by decide))); replace BK136 := (zw BK136 hg (Kd.R_ne HO_5.out BK136.out (by decide))); replace HB := za (hb); clear HO_5 ho hb hg hat)))
       go_roundg k1
       case measure => have := HK1.out; omega
       case rel => exact ⟨(y140), (wrap64 (x14_1 + 1)), (by first | rfl | (simp; done) | (simp [*]; done)), H', ⟨by have := HK1.out; omega⟩, ⟨by (with_reducible repeat (first | apply Kd.R_alloc | apply Kd.R_drewN | apply Kd.R_drew)); exact HO142.out⟩, ⟨by (with_reducible repeat (first | refine blk_drewN ?_ _ | refine blk_drew ?_ | refine blk_alloc ?_ _)); exact BK135.out⟩, ⟨by (with_reducible repeat (first | refine blk_drewN ?_ _ | refine blk_drew ?_ | refine blk_alloc ?_ _)); exact BK136.out⟩, ⟨zm HB⟩⟩
      ·rw [if_neg c16] at H
       exact absurd H (by simp)
     ·rw [if_neg c15] at H
      have c15b0 : decide ((l1_3.length : Int) ≤ x14_1) = false := decide_eq_false c15
      clear c15
      by_cases c21 : 0 ≤ x14_1
      ·rw [if_pos c21] at H
       have c21b0 : decide (0 ≤ x14_1) = true := decide_eq_true c21
       clear c21
       by_cases c22 : x14_1 < (l0_3.length : Int)
       ·rw [if_pos c22] at H
        have c22b0 : decide (x14_1 < (l0_3.length : Int)) = true := decide_eq_true c22
        clear c22
        by_cases c23 : x14_1 < (l1_3.length : Int)
        ·rw [if_pos c23] at H
         have c23b0 : decide (x14_1 < (l1_3.length : Int)) = true := decide_eq_true c23
         clear c23
         by_cases c24 : (!(((rd_T23 l0_3 x14_1).f0) == ((rd_T23 l1_3 x14_1).f0)) || (!(((rd_T23 l0_3 x14_1).f1) == ((rd_T23 l1_3 x14_1).f1)) || (!(((rd_T23 l0_3 x14_1).f2) == ((rd_T23 l1_3 x14_1).f2)) || (!(((rd_T23 l0_3 x14_1).f3) == ((rd_T23 l1_3 x14_1).f3)) || (!(((rd_T23 l0_3 x14_1).f4) == ((rd_T23 l1_3 x14_1).f4)) || (!(((rd_T23 l0_3 x14_1).f5) == ((rd_T23 l1_3 x14_1).f5)))))))) = true
         ·rw [if_pos c24] at H
          have c24b0 : (!(((rd_T23 l0_3 x14_1).f0) == ((rd_T23 l1_3 x14_1).f0)) || (!(((rd_T23 l0_3 x14_1).f1) == ((rd_T23 l1_3 x14_1).f1)) || (!(((rd_T23 l0_3 x14_1).f2) == ((rd_T23 l1_3 x14_1).f2)) || (!(((rd_T23 l0_3 x14_1).f3) == ((rd_T23 l1_3 x14_1).f3)) || (!(((rd_T23 l0_3 x14_1).f4) == ((rd_T23 l1_3 x14_1).f4)) || (!(((rd_T23 l0_3 x14_1).f5) == ((rd_T23 l1_3 x14_1).f5)))))))) = true := c24
          clear c24
          by_cases c25 : x5_1.length < 17592186044416
          ·rw [if_pos c25] at H
           have LMc25 := za c25
           clear c25
           obtain ⟨y145, hy145⟩ : ∃ y_ : List Int, y_ = (x5_1 ++ [x14_1]) := ⟨_, rfl⟩
           replace H : (item_Material.l0 k1 y145 ji3 (wrap64 (x14_1 + 1)) a0_0 a0_1 a0_2 l0_3 l0_4 a1_0 a1_1 a1_2 l1_3 l1_4) = some r := by first | (rw [hy145]; with_reducible exact H) | (have H2_ := (Option.bind_some _ _).symm.trans H; rw [hy145]; with_reducible exact H2_) | (have H2_ := (Option.bind_some _ _).symm.trans H; with_reducible exact H2_) | with_reducible exact H | (rw [hy145]; exact H) | exact H
           have Ny145 := za hy145
           clear hy145
           have H' := za H
           clear H
           have hnb26 := NB135_136.out
           have hnc26 := NB136_135.out
           obtain ⟨hcz27_0, hcz27_1, hcz27_2, hcz27_3, hcz27_4, hfz27_0, hfz27_1, hfz27_2, hfz27_3, hfz27_4⟩ := z5 BK135
           obtain ⟨hcz28_0, hcz28_1, hcz28_2, hcz28_3, hcz28_4, hfz28_0, hfz28_1, hfz28_2, hfz28_3, hfz28_4⟩ := z5 BK136
           have p143 : 0 ≤ (x14_1 : Int) := of_decide_eq_true (by first | (with_reducible assumption) | assumption)
           have q143 : x14_1 < (l0_3.length : Int) := of_decide_eq_true (by first | (with_reducible assumption) | assumption)
           obtain ⟨ad143, e143, hx143_0, hx143_1, hx143_2, hx143_3, hx143_4, hx143_5⟩ := at_T23 HR0_3.out x14_1 p143 q143
           cases e143
           replace hx143_0 := zx HB hx143_0
           replace hx143_1 := zx HB hx143_1
           replace hx143_2 := zx HB hx143_2
           replace hx143_3 := zx HB hx143_3
           replace hx143_4 := zx HB hx143_4
           replace hx143_5 := zx HB hx143_5
           replace p143 := eq_true p143
           replace q143 := eq_true q143
           have p144 : 0 ≤ (x14_1 : Int) := of_decide_eq_true (by first | (with_reducible assumption) | assumption)
           have q144 : x14_1 < (l1_3.length : Int) := of_decide_eq_true (by first | (with_reducible assumption) | assumption)
           obtain ⟨ad144, e144, hx144_0, hx144_1, hx144_2, hx144_3, hx144_4, hx144_5⟩ := at_T23 HR1_3.out x14_1 p144 q144
           cases e144
           replace hx144_0 := zx HB hx144_0
           replace hx144_1 := zx HB hx144_1
           replace hx144_2 := zx HB hx144_2
           replace hx144_3 := zx HB hx144_3
           replace hx144_4 := zx HB hx144_4
           replace hx144_5 := zx HB hx144_5
           replace p144 := eq_true p144
           replace q144 := eq_true q144
           go_wp2_with (first | ((with_reducible refine gate_builtin (b := .append) (xs := #[.tmp 42, .tmp 44]) rfl ?_); (try (refine gate_guard (by rfl) ?_; dsimp only)); at_builtin; refine Kd.R_append (Kd.int .i64) (w0 := w) w.heap.size rfl (.tmp 42) (.tmp 44) 28 3 (.int .i64 0) 8 rfl Try.underlying28 info3 rfl (by decide) (by omega) u5 x5_1 x14_1 [.int .i64 x14_1] (fun _ => True) (fun _ => False) rfl rfl ?aP (fun _ hk => hk.elim) ?aF ?aO ?aB ?aS ?aL ?_; (case aP => exact rfl); (case aB => exact (zm HB)); (case aF => exact (fun _ _ => trivial)); (case aO => exact (by (with_reducible repeat (first | apply Kd.R_alloc | apply Kd.R_drewN | apply Kd.R_drew)); exact HO_5.out)); (case aS => exact (below_size (zm HB))); (case aL => have := LMc25.out; omega); intro v146 w29 ho hb hg hat; rw [← Ny145.out] at ho; have HO147 := za (ho); replace BK135 := (zw BK135 hg (Kd.R_ne HO_5.out BK135.out (by decide))); replace BK136 := (zw BK136 hg (Kd.R_ne HO_5.out BK136.out (by decide))); replace HB := za (hb); clear HO_5 ho hb hg hat))
           repeat (go_quiet (first | ((with_reducible refine gate_builtin (b := .append) (xs := #[.tmp 42, .tmp 44]) rfl ?_); (try (refine gate_guard (by rfl) ?_; dsimp only)); at_builtin; refine Kd.R_append (Kd.int .i64) (w0 := w) w.heap.size rfl (.tmp 42) (.tmp 44) 28 3 (.int .i64 0) 8 rfl Try.underlying28 info3 rfl (by decide) (by omega) u5 x5_1 x14_1 [.int .i64 x14_1] (fun _ => True) (fun _ => False) rfl rfl ?aP (fun _ hk => hk.elim) ?aF ?aO ?aB ?aS ?aL ?_; (case aP => exact rfl); (case aB => exact (zm HB)); (case aF => exact (fun _ _ => trivial)); (case aO => exact (by (with_reducible repeat (first | apply Kd.R_alloc | apply Kd.R_drewN | apply Kd.R_drew)); exact HO_5.out)); (case aS => exact (below_size (zm HB))); (case aL => have := LMc25.out; omega); intro v146 w29 ho hb hg hat; rw [← Ny145.out] at ho; have HO147 := za (ho); replace BK135 := (zw BK135 hg (Kd.R_ne HO_5.out BK135.out (by decide))); replace BK136 := (zw BK136 hg (Kd.R_ne HO_5.out BK136.out (by decide))); replace HB := za (hb); clear HO_5 ho hb hg hat)); try go_wp2_with (first | ((with_reducible refine gate_builtin (b := .append) (xs := #[.tmp 42, .tmp 44]) rfl ?_); (try (refine gate_guard (by rfl) ?_; dsimp only)); at_builtin; refine Kd.R_append (Kd.int .i64) (w0 := w) w.heap.size rfl (.tmp 42) (.tmp 44) 28 3 (.int .i64 0) 8 rfl Try.underlying28 info3 rfl (by decide) (by omega) u5 x5_1 x14_1 [.int .i64 x14_1] (fun _ => True) (fun _ => False) rfl rfl ?aP (fun _ hk => hk.elim) ?aF ?aO ?aB ?aS ?aL ?_; (case aP => exact rfl); (case aB => exact (zm HB)); (case aF => exact (fun _ _ => trivial)); (case aO => exact (by (with_reducible repeat (first | apply Kd.R_alloc | apply Kd.R_drewN | apply Kd.R_drew)); exact HO_5.out)); (case aS => exact (below_size (zm HB))); (case aL => have := LMc25.out; omega); intro v146 w29 ho hb hg hat; rw [← Ny145.out] at ho; have HO147 := za (ho); replace BK135 := (zw BK135 hg (Kd.R_ne HO_5.out BK135.out (by decide))); replace BK136 := (zw BK136 hg (Kd.R_ne HO_5.out BK136.out (by decide))); replace HB := za (hb); clear HO_5 ho hb hg hat)))
           go_roundg k1
           case measure => have := HK1.out; omega
           case rel => exact ⟨(y145), (wrap64 (x14_1 + 1)), (by first | rfl | (simp; done) | (simp [*]; done)), H', ⟨by have := HK1.out; omega⟩, ⟨by (with_reducible repeat (first | apply Kd.R_alloc | apply Kd.R_drewN | apply Kd.R_drew)); exact HO147.out⟩, ⟨by (with_reducible repeat (first | refine blk_drewN ?_ _ | refine blk_drew ?_ | refine blk_alloc ?_ _)); exact BK135.out⟩, ⟨by (with_reducible repeat (first | refine blk_drewN ?_ _ | refine blk_drew ?_ | refine blk_alloc ?_ _)); exact BK136.out⟩, ⟨zm HB⟩⟩
          ·rw [if_neg c25] at H
           exact absurd H (by simp)
         ·rw [if_neg c24] at H
          have c24b0 : (!(((rd_T23 l0_3 x14_1).f0) == ((rd_T23 l1_3 x14_1).f0)) || (!(((rd_T23 l0_3 x14_1).f1) == ((rd_T23 l1_3 x14_1).f1)) || (!(((rd_T23 l0_3 x14_1).f2) == ((rd_T23 l1_3 x14_1).f2)) || (!(((rd_T23 l0_3 x14_1).f3) == ((rd_T23 l1_3 x14_1).f3)) || (!(((rd_T23 l0_3 x14_1).f4) == ((rd_T23 l1_3 x14_1).f4)) || (!(((rd_T23 l0_3 x14_1).f5) == ((rd_T23 l1_3 x14_1).f5)))))))) = false := by simpa using c24
          clear c24
          have H' := za H
          clear H
          have hnb30 := NB135_136.out
          have hnc30 := NB136_135.out
          obtain ⟨hcz31_0, hcz31_1, hcz31_2, hcz31_3, hcz31_4, hfz31_0, hfz31_1, hfz31_2, hfz31_3, hfz31_4⟩ := z5 BK135
          obtain ⟨hcz32_0, hcz32_1, hcz32_2, hcz32_3, hcz32_4, hfz32_0, hfz32_1, hfz32_2, hfz32_3, hfz32_4⟩ := z5 BK136
          have p143 : 0 ≤ (x14_1 : Int) := of_decide_eq_true (by first | (with_reducible assumption) | assumption)
          have q143 : x14_1 < (l0_3.length : Int) := of_decide_eq_true (by first | (with_reducible assumption) | assumption)
          obtain ⟨ad143, e143, hx143_0, hx143_1, hx143_2, hx143_3, hx143_4, hx143_5⟩ := at_T23 HR0_3.out x14_1 p143 q143
          cases e143
          replace hx143_0 := zx HB hx143_0
          replace hx143_1 := zx HB hx143_1
          replace hx143_2 := zx HB hx143_2
          replace hx143_3 := zx HB hx143_3
          replace hx143_4 := zx HB hx143_4
          replace hx143_5 := zx HB hx143_5
          replace p143 := eq_true p143
          replace q143 := eq_true q143
          have p144 : 0 ≤ (x14_1 : Int) := of_decide_eq_true (by first | (with_reducible assumption) | assumption)
          have q144 : x14_1 < (l1_3.length : Int) := of_decide_eq_true (by first | (with_reducible assumption) | assumption)
          obtain ⟨ad144, e144, hx144_0, hx144_1, hx144_2, hx144_3, hx144_4, hx144_5⟩ := at_T23 HR1_3.out x14_1 p144 q144
          cases e144
          replace hx144_0 := zx HB hx144_0
          replace hx144_1 := zx HB hx144_1
          replace hx144_2 := zx HB hx144_2
          replace hx144_3 := zx HB hx144_3
          replace hx144_4 := zx HB hx144_4
          replace hx144_5 := zx HB hx144_5
          replace p144 := eq_true p144
          replace q144 := eq_true q144
          go_wp2
          repeat (go_quiet (fail); try go_wp2)
          go_roundg k1
          case measure => have := HK1.out; omega
          case rel => exact ⟨(x5_1), (wrap64 (x14_1 + 1)), (by first | rfl | (simp; done) | (simp [*]; done)), H', ⟨by have := HK1.out; omega⟩, ⟨by (with_reducible repeat (first | apply Kd.R_alloc | apply Kd.R_drewN | apply Kd.R_drew)); exact HO_5.out⟩, ⟨by (with_reducible repeat (first | refine blk_drewN ?_ _ | refine blk_drew ?_ | refine blk_alloc ?_ _)); exact BK135.out⟩, ⟨by (with_reducible repeat (first | refine blk_drewN ?_ _ | refine blk_drew ?_ | refine blk_alloc ?_ _)); exact BK136.out⟩, ⟨zm HB⟩⟩
        ·rw [if_neg c23] at H
         exact absurd H (by simp)
       ·rw [if_neg c22] at H
        exact absurd H (by simp)
      ·rw [if_neg c21] at H
       exact absurd H (by simp)
   ·rw [if_neg c9] at H
    have c9b0 : decide (x14_1 < ji3) = false := decide_eq_false c9
    clear c9
    obtain rfl := Option.some.inj H
    go_wp2
    repeat (go_quiet (fail); try go_wp2)
    go_ret
    exact ⟨_, by first | rfl | (simp [errW_none, errW_some] <;> rfl) | (simp only [← hji3]; first | rfl | (simp [errW_none, errW_some] <;> rfl)) | (simp [*, errW_none, errW_some] <;> rfl), by (with_reducible repeat (first | apply Kd.R_alloc | apply Kd.R_drewN | apply Kd.R_drew)); exact HO_5.out, zm HB⟩

end Go.Proofs.Ytinmdoemkejanaa.Print
