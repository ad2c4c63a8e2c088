-- Printed by a program of this session (wip/own_print.py) out of the translation; Lean checks it.
import Derived.Test.YtinmdoemkejanaaShort
import Derived.Test.YtinmdoemkejanaaPrint0
import Derived.Test.YtinmdoemkejanaaPrint2
import Derived.Test.YtinmdoemkejanaaPrint3
namespace Go.Proofs.Ytinmdoemkejanaa.Print
open Go.RowKit Go.Proofs.YtinmdoemkejanaaW.PrintWords Go.Proofs.YtinmdoemkejanaaW.PrintLast Go.Proofs.YtinmdoemkejanaaW.PrintMore
attribute [local go_sem] max2_int min2_int max_two min_two max_three min_three max_four min_four   -- for this text's walks alone
set_option linter.unusedVariables false
set_option linter.unusedSimpArgs false

/-! ### item_Check: function 19 -/
mutual
def item_Check.j0 : Nat → Bool → Int → Int → ByteArray → List (S23) → List Int → Option (Int)
  | 0, _, _, _, _, _, _ => none
  | k + 1, x3, x122000, x122001, x122002, x122003, x122004 => if x3 = true then (some 2) else (if (x122002.size : Int) > 40 then (item_Check.j1 k true x122000 x122001 x122002 x122003 x122004) else (if (x122003.length : Int) > 6 then (item_Check.j1 k true x122000 x122001 x122002 x122003 x122004) else (item_Check.j1 k (decide ((x122004.length : Int) > 8)) x122000 x122001 x122002 x122003 x122004)))
def item_Check.j1 : Nat → Bool → Int → Int → ByteArray → List (S23) → List Int → Option (Int)
  | 0, _, _, _, _, _, _ => none
  | k + 1, x14, x122000, x122001, x122002, x122003, x122004 => if x14 = true then (some 3) else (if x122002.toList = ([] : List UInt8) then (item_Check.j2 k true x122000 x122001 x122002 x122003 x122004) else ((contains_in_string.f k x122002).bind fun t124 => (item_Check.j2 k t124 x122000 x122001 x122002 x122003 x122004)))
def item_Check.j2 : Nat → Bool → Int → Int → ByteArray → List (S23) → List Int → Option (Int)
  | 0, _, _, _, _, _, _ => none
  | k + 1, x31, x122000, x122001, x122002, x122003, x122004 => if x31 = true then (some 7) else (if (x122003.length : Int) = 0 then (some 10) else ((api_Part_bad_s44.f k x122003).bind fun t125 => (if t125 = true then (some 1) else ((item_ascending.f k x122004).bind fun t126 => (if t126 = true then ((slices_ContainsFunc_int_int_Check_2_s47.f k x122004 x122000).bind fun t127 => (if t127 = true then (some 9) else (some 0))) else (some 9))))))
end
def item_Check.f (k : Nat) (a0_0 : Int) (a0_1 : Int) (a0_2 : ByteArray) (l0_3 : List (S23)) (l0_4 : List Int) : Option (Int) := (item_in.f a0_0 0 9999).bind fun t122 => (if t122 = true then ((item_in.f a0_1 1 8).bind fun t123 => (item_Check.j0 k (!t123) a0_0 a0_1 a0_2 l0_3 l0_4)) else (item_Check.j0 k true a0_0 a0_1 a0_2 l0_3 l0_4))
theorem item_Check.mono_l : ∀ k, (∀ y0 y1 y2 y3 y4 y5, LeO (item_Check.j0 k y0 y1 y2 y3 y4 y5) (item_Check.j0 (k + 1) y0 y1 y2 y3 y4 y5)) ∧ (∀ y0 y1 y2 y3 y4 y5, LeO (item_Check.j1 k y0 y1 y2 y3 y4 y5) (item_Check.j1 (k + 1) y0 y1 y2 y3 y4 y5)) ∧ (∀ y0 y1 y2 y3 y4 y5, LeO (item_Check.j2 k y0 y1 y2 y3 y4 y5) (item_Check.j2 (k + 1) y0 y1 y2 y3 y4 y5))
  | 0 => ⟨fun _ _ _ _ _ _ r h => by simp [item_Check.j0] at h, fun _ _ _ _ _ _ r h => by simp [item_Check.j1] at h, fun _ _ _ _ _ _ r h => by simp [item_Check.j2] at h⟩
  | k + 1 => by
    obtain ⟨ih0, ih1, ih2⟩ := item_Check.mono_l k
    refine ⟨?_, ?_, ?_⟩
    · intro y0 y1 y2 y3 y4 y5
      unfold item_Check.j0
      repeat' first
      | (with_reducible exact ih0 _ _ _ _ _ _)
      | (with_reducible exact ih1 _ _ _ _ _ _)
      | (with_reducible exact ih2 _ _ _ _ _ _)
      | (with_reducible exact api_Part_bad_s44.mono _ _)
      | (with_reducible exact contains_in_string.mono _ _)
      | (with_reducible exact item_ascending.mono _ _)
      | (with_reducible exact slices_ContainsFunc_int_int_Check_2_s47.mono _ _ _)
      | (with_reducible exact LeO.refl _)
      | (with_reducible exact LeO.none _)
      | (with_reducible refine LeO.ite ?_ ?_)
      | (with_reducible refine LeO.bind ?_ (fun _ => ?_))
      | exact ih0 _ _ _ _ _ _
      | exact ih1 _ _ _ _ _ _
      | exact ih2 _ _ _ _ _ _
      | exact api_Part_bad_s44.mono _ _
      | exact contains_in_string.mono _ _
      | exact item_ascending.mono _ _
      | exact slices_ContainsFunc_int_int_Check_2_s47.mono _ _ _
      | exact LeO.none _
      | refine LeO.ite ?_ ?_
      | refine LeO.bind ?_ (fun _ => ?_)
    · intro y0 y1 y2 y3 y4 y5
      unfold item_Check.j1
      repeat' first
      | (with_reducible exact ih0 _ _ _ _ _ _)
      | (with_reducible exact ih1 _ _ _ _ _ _)
      | (with_reducible exact ih2 _ _ _ _ _ _)
      | (with_reducible exact api_Part_bad_s44.mono _ _)
      | (with_reducible exact contains_in_string.mono _ _)
      | (with_reducible exact item_ascending.mono _ _)
      | (with_reducible exact slices_ContainsFunc_int_int_Check_2_s47.mono _ _ _)
      | (with_reducible exact LeO.refl _)
      | (with_reducible exact LeO.none _)
      | (with_reducible refine LeO.ite ?_ ?_)
      | (with_reducible refine LeO.bind ?_ (fun _ => ?_))
      | exact ih0 _ _ _ _ _ _
      | exact ih1 _ _ _ _ _ _
      | exact ih2 _ _ _ _ _ _
      | exact api_Part_bad_s44.mono _ _
      | exact contains_in_string.mono _ _
      | exact item_ascending.mono _ _
      | exact slices_ContainsFunc_int_int_Check_2_s47.mono _ _ _
      | exact LeO.none _
      | refine LeO.ite ?_ ?_
      | refine LeO.bind ?_ (fun _ => ?_)
    · intro y0 y1 y2 y3 y4 y5
      unfold item_Check.j2
      repeat' first
      | (with_reducible exact ih0 _ _ _ _ _ _)
      | (with_reducible exact ih1 _ _ _ _ _ _)
      | (with_reducible exact ih2 _ _ _ _ _ _)
      | (with_reducible exact api_Part_bad_s44.mono _ _)
      | (with_reducible exact contains_in_string.mono _ _)
      | (with_reducible exact item_ascending.mono _ _)
      | (with_reducible exact slices_ContainsFunc_int_int_Check_2_s47.mono _ _ _)
      | (with_reducible exact LeO.refl _)
      | (with_reducible exact LeO.none _)
      | (with_reducible refine LeO.ite ?_ ?_)
      | (with_reducible refine LeO.bind ?_ (fun _ => ?_))
      | exact ih0 _ _ _ _ _ _
      | exact ih1 _ _ _ _ _ _
      | exact ih2 _ _ _ _ _ _
      | exact api_Part_bad_s44.mono _ _
      | exact contains_in_string.mono _ _
      | exact item_ascending.mono _ _
      | exact slices_ContainsFunc_int_int_Check_2_s47.mono _ _ _
      | exact LeO.none _
      | refine LeO.ite ?_ ?_
      | refine LeO.bind ?_ (fun _ => ?_)
theorem item_Check.mono : ∀ a0 a1 a2 a3 a4 k, LeO (item_Check.f k a0 a1 a2 a3 a4) (item_Check.f (k + 1) a0 a1 a2 a3 a4) := by
  intro a0 a1 a2 a3 a4 k
  obtain ⟨ih0, ih1, ih2⟩ := item_Check.mono_l k
  unfold item_Check.f
  repeat' first
      | (with_reducible exact ih0 _ _ _ _ _ _)
      | (with_reducible exact ih1 _ _ _ _ _ _)
      | (with_reducible exact ih2 _ _ _ _ _ _)
      | (with_reducible exact api_Part_bad_s44.mono _ _)
      | (with_reducible exact contains_in_string.mono _ _)
      | (with_reducible exact item_ascending.mono _ _)
      | (with_reducible exact slices_ContainsFunc_int_int_Check_2_s47.mono _ _ _)
      | (with_reducible exact LeO.refl _)
      | (with_reducible exact LeO.none _)
      | (with_reducible refine LeO.ite ?_ ?_)
      | (with_reducible refine LeO.bind ?_ (fun _ => ?_))
      | exact ih0 _ _ _ _ _ _
      | exact ih1 _ _ _ _ _ _
      | exact ih2 _ _ _ _ _ _
      | exact api_Part_bad_s44.mono _ _
      | exact contains_in_string.mono _ _
      | exact item_ascending.mono _ _
      | exact slices_ContainsFunc_int_int_Check_2_s47.mono _ _ _
      | exact LeO.none _
      | refine LeO.ite ?_ ?_
      | refine LeO.bind ?_ (fun _ => ?_)
set_option maxHeartbeats 8000000 in
set_option maxRecDepth 100000 in
theorem item_Check.calls (k : Nat) (a0_0 : Int) (a0_1 : Int) (a0_2 : ByteArray) (A0_3 : Option Addr) (c0_3 : Nat) (l0_3 : List (S23)) (A0_4 : Option Addr) (c0_4 : Nat) (l0_4 : List Int) (r : Int) (w : World) (hr0_3 : Kd.C k23 w A0_3 l0_3.length l0_3) (hc0_3 : l0_3.length ≤ c0_3) (hr0_4 : Kd.C (Kd.int .i64) w A0_4 l0_4.length l0_4) (hc0_4 : l0_4.length ≤ c0_4) (h : item_Check.f k a0_0 a0_1 a0_2 l0_3 l0_4 = some r) :
    Calls Try.prog 19 #[.agg #[.int .i64 a0_0, .int .i64 a0_1, .string a0_2, .slice A0_3 l0_3.length c0_3, .slice A0_4 l0_4.length c0_4]] w fun e w' => e = .returned (.int .i64 r) ∧ Below w.heap.size w w' := by
 have hu33 := Try.underlying33
 have HR0_3 := za hr0_3
 have HC0_3 := za hc0_3
 clear hr0_3 hc0_3
 have HR0_4 := za hr0_4
 have HC0_4 := za hc0_4
 clear hr0_4 hc0_4
 have HB := za (Below.refl w.heap.size w)
 have H : ((item_in.f a0_0 0 9999).bind fun t122 => (if t122 = true then ((item_in.f a0_1 1 8).bind fun t123 => (item_Check.j0 k (!t123) a0_0 a0_1 a0_2 l0_3 l0_4)) else (item_Check.j0 k true a0_0 a0_1 a0_2 l0_3 l0_4))) = some r := h
 clear h
 have HC2 := za H
 clear H
 go_enter Try.func19, Try.ntmps19
 go_upto_region 1 with (first | ((with_reducible refine gate_dst (N := 1) rfl ?_); (try (refine gate_guard (by rfl) ?_; dsimp only)); refine zE 1 #[.int .i64 a0_0, .int .i64 a0_1, .string a0_2, .slice A0_3 l0_3.length c0_3, .slice A0_4 l0_4.length c0_4] 33 ?_; intro gb121 hg w3 hbox hb; have BK121 := za (hbox); have GW121 := zg HB hg; have GE121 := zg HB hg; replace HB := zs HB hb; clear hb hbox hg))
 (try simp only [Act.put, List.setIfInBounds_toArray, List.set_cons_zero, List.set_cons_succ])
 go_cut [3] (fun v3 wc => ∃ (kq : Nat) (x3_1 : Bool), v3 = .bool x3_1 ∧ Aside0 (item_Check.j0 kq x3_1 a0_0 a0_1 a0_2 l0_3 l0_4 = some r) ∧ Aside0 (kq ≤ k) ∧ Aside0 (wc.heap[gb121]? = some (.cells #[.int .i64 a0_0, .int .i64 a0_1, .string a0_2, (.slice A0_3 l0_3.length c0_3), (.slice A0_4 l0_4.length c0_4)] 33 (0, 0))) ∧ Aside0 (Below w.heap.size w wc))
 case first =>
  have H := HC2.out
  clear HC2
  replace H := Option.bind_eq_some_iff.mp H
  obtain ⟨t122, A40, H⟩ := H
  replace H : (if t122 = true then ((item_in.f a0_1 1 8).bind fun t123 => (item_Check.j0 k (!t123) a0_0 a0_1 a0_2 l0_3 l0_4)) else (item_Check.j0 k true a0_0 a0_1 a0_2 l0_3 l0_4)) = some r := H
  have A4 := za A40
  clear A40
  by_cases c5 : t122 = true
  ·subst c5
   have H1 : ((item_in.f a0_1 1 8).bind fun t123 => (item_Check.j0 k (!t123) a0_0 a0_1 a0_2 l0_3 l0_4)) = some r := by rw [if_pos rfl] at H; exact H
   clear H
   have H := H1
   clear H1
   replace H := Option.bind_eq_some_iff.mp H
   obtain ⟨t123, A60, H⟩ := H
   replace H : (item_Check.j0 k (!t123) a0_0 a0_1 a0_2 l0_3 l0_4) = some r := H
   have A6 := za A60
   clear A60
   have H' := za H
   clear H
   obtain ⟨hcz7_0, hcz7_1, hcz7_2, hcz7_3, hcz7_4, hfz7_0, hfz7_1, hfz7_2, hfz7_3, hfz7_4⟩ := z5 BK121
   go_wp2_with (first | ((with_reducible refine gate_callee (f := 36) rfl ?_); refine zL (some 6) Try.func36 #[.int .i64 a0_0, .int .i64 0, .int .i64 9999] ?_; (with_reducible refine (item_in.calls a0_0 0 9999 true _ A4.out).mono ?_); rintro e w' ⟨rfl, ⟨nd, rfl⟩⟩; refine ⟨_, rfl, ?_⟩) | (go_at_call 36; (with_reducible refine (item_in.calls a0_1 1 8 t123 _ A6.out).mono ?_); rintro e w' ⟨rfl, ⟨nd, rfl⟩⟩))
   go_meet
   case rel => exact ⟨_, (!t123), (by first | rfl | (simp; done) | (simp [*]; done)), H', ⟨by first | omega | exact Nat.le_refl _⟩, ⟨by (with_reducible repeat (first | refine blk_drewN ?_ _ | refine blk_drew ?_ | refine blk_alloc ?_ _)); exact BK121.out⟩, ⟨zm HB⟩⟩
  ·replace c5 := Bool.eq_false_iff.mpr c5
   subst c5
   have H1 : (item_Check.j0 k true a0_0 a0_1 a0_2 l0_3 l0_4) = some r := by rw [if_neg (show ¬ (false = true) by decide)] at H; exact H
   clear H
   have H := H1
   clear H1
   have H' := za H
   clear H
   obtain ⟨hcz8_0, hcz8_1, hcz8_2, hcz8_3, hcz8_4, hfz8_0, hfz8_1, hfz8_2, hfz8_3, hfz8_4⟩ := z5 BK121
   go_wp2_with (first | ((with_reducible refine gate_callee (f := 36) rfl ?_); refine zL (some 6) Try.func36 #[.int .i64 a0_0, .int .i64 0, .int .i64 9999] ?_; (with_reducible refine (item_in.calls a0_0 0 9999 false _ A4.out).mono ?_); rintro e w' ⟨rfl, ⟨nd, rfl⟩⟩; refine ⟨_, rfl, ?_⟩))
   go_meet
   case rel => exact ⟨_, (true), (by first | rfl | (simp; done) | (simp [*]; done)), H', ⟨by first | omega | exact Nat.le_refl _⟩, ⟨by (with_reducible repeat (first | refine blk_drewN ?_ _ | refine blk_drew ?_ | refine blk_alloc ?_ _)); exact BK121.out⟩, ⟨zm HB⟩⟩
 case rest =>
  clear HC2
  try clear c1
  try clear p2
  try clear c3
  try clear c5
  try clear hcz7_0
  try clear hcz7_1
  try clear hcz7_2
  try clear hcz7_3
  try clear hcz7_4
  try clear hcz8_0
  try clear hcz8_1
  try clear hcz8_2
  try clear hcz8_3
  try clear hcz8_4
  try clear hfz7_0
  try clear hfz7_1
  try clear hfz7_2
  try clear hfz7_3
  try clear hfz7_4
  try clear hfz8_0
  try clear hfz8_1
  try clear hfz8_2
  try clear hfz8_3
  try clear hfz8_4
  obtain ⟨kq, x3_1, rfl, HA, HJ1, BK121, HB⟩ := hcut
  cases kq with
  | zero => exact absurd HA.out (by simp [item_Check.j0])
  | succ kj1 =>
   have H := HA.out
   clear HA
   simp only [item_Check.j0] at H
   by_cases c9 : x3_1 = true
   ·subst c9
    have H1 : (some 2) = some r := by rw [if_pos rfl] at H; exact H
    clear H
    have H := H1
    clear H1
    obtain rfl := Option.some.inj H
    go_wp2
    go_ret
    exact ⟨zf, zm HB⟩
   ·replace c9 := Bool.eq_false_iff.mpr c9
    subst c9
    have H1 : (if (a0_2.size : Int) > 40 then (item_Check.j1 kj1 true a0_0 a0_1 a0_2 l0_3 l0_4) else (if (l0_3.length : Int) > 6 then (item_Check.j1 kj1 true a0_0 a0_1 a0_2 l0_3 l0_4) else (item_Check.j1 kj1 (decide ((l0_4.length : Int) > 8)) a0_0 a0_1 a0_2 l0_3 l0_4))) = some r := by rw [if_neg (show ¬ (false = true) by decide)] at H; exact H
    clear H
    have H := H1
    clear H1
    have HC10 := za H
    clear H
    go_upto_region 3 with (fail)
    go_cut [14] (fun v14 wc => ∃ (kq : Nat) (x14_9 : Bool), v14 = .bool x14_9 ∧ Aside0 (item_Check.j1 kq x14_9 a0_0 a0_1 a0_2 l0_3 l0_4 = some r) ∧ Aside0 (kq ≤ kj1) ∧ Aside0 (wc.heap[gb121]? = some (.cells #[.int .i64 a0_0, .int .i64 a0_1, .string a0_2, (.slice A0_3 l0_3.length c0_3), (.slice A0_4 l0_4.length c0_4)] 33 (0, 0))) ∧ Aside0 (Below w.heap.size w wc))
    case first =>
     have H := HC10.out
     clear HC10
     by_cases c11 : (a0_2.size : Int) > 40
     ·rw [if_pos c11] at H
      have c11b0 : decide (40 < (a0_2.size : Int)) = true := decide_eq_true c11
      have c11b1 : decide (40 < a0_2.size) = true := decide_eq_true (by omega)
      clear c11
      (first | rw [c11b0] | (simp only [i64_w, i32_w]; rw [c11b0]) | skip)
      have H' := za H
      clear H
      obtain ⟨hcz12_0, hcz12_1, hcz12_2, hcz12_3, hcz12_4, hfz12_0, hfz12_1, hfz12_2, hfz12_3, hfz12_4⟩ := z5 BK121
      go_wp2
      go_meet
      case rel => exact ⟨_, (true), (by first | rfl | (simp; done) | (simp [*]; done)), H', ⟨by have := HJ1.out; first | omega | exact Nat.le_refl _⟩, ⟨by (with_reducible repeat (first | refine blk_drewN ?_ _ | refine blk_drew ?_ | refine blk_alloc ?_ _)); exact BK121.out⟩, ⟨zm HB⟩⟩
     ·rw [if_neg c11] at H
      have c11b0 : decide (40 < (a0_2.size : Int)) = false := decide_eq_false c11
      have c11b1 : decide (40 < a0_2.size) = false := decide_eq_false (by omega)
      clear c11
      (first | rw [c11b0] | (simp only [i64_w, i32_w]; rw [c11b0]) | skip)
      by_cases c13 : (l0_3.length : Int) > 6
      ·rw [if_pos c13] at H
       have c13b0 : decide (6 < (l0_3.length : Int)) = true := decide_eq_true c13
       have c13b1 : decide (6 < l0_3.length) = true := decide_eq_true (by omega)
       clear c13
       have H' := za H
       clear H
       obtain ⟨hcz14_0, hcz14_1, hcz14_2, hcz14_3, hcz14_4, hfz14_0, hfz14_1, hfz14_2, hfz14_3, hfz14_4⟩ := z5 BK121
       go_wp2
       go_meet
       case rel => exact ⟨_, (true), (by first | rfl | (simp; done) | (simp [*]; done)), H', ⟨by have := HJ1.out; first | omega | exact Nat.le_refl _⟩, ⟨by (with_reducible repeat (first | refine blk_drewN ?_ _ | refine blk_drew ?_ | refine blk_alloc ?_ _)); exact BK121.out⟩, ⟨zm HB⟩⟩
      ·rw [if_neg c13] at H
       have c13b0 : decide (6 < (l0_3.length : Int)) = false := decide_eq_false c13
       have c13b1 : decide (6 < l0_3.length) = false := decide_eq_false (by omega)
       clear c13
       have H' := za H
       clear H
       obtain ⟨hcz15_0, hcz15_1, hcz15_2, hcz15_3, hcz15_4, hfz15_0, hfz15_1, hfz15_2, hfz15_3, hfz15_4⟩ := z5 BK121
       go_wp2
       go_meet
       case rel => exact ⟨_, (decide ((l0_4.length : Int) > 8)), (by first | rfl | (simp; done) | (simp [*]; done)), H', ⟨by have := HJ1.out; first | omega | exact Nat.le_refl _⟩, ⟨by (with_reducible repeat (first | refine blk_drewN ?_ _ | refine blk_drew ?_ | refine blk_alloc ?_ _)); exact BK121.out⟩, ⟨zm HB⟩⟩
    case rest =>
     clear HC10
     try clear c1
     try clear p2
     try clear c3
     try clear c5
     try clear c9
     try clear c11
     try clear c11b0
     try clear c11b1
     try clear c13
     try clear c13b0
     try clear c13b1
     try clear hcz12_0
     try clear hcz12_1
     try clear hcz12_2
     try clear hcz12_3
     try clear hcz12_4
     try clear hcz14_0
     try clear hcz14_1
     try clear hcz14_2
     try clear hcz14_3
     try clear hcz14_4
     try clear hcz15_0
     try clear hcz15_1
     try clear hcz15_2
     try clear hcz15_3
     try clear hcz15_4
     try clear hcz7_0
     try clear hcz7_1
     try clear hcz7_2
     try clear hcz7_3
     try clear hcz7_4
     try clear hcz8_0
     try clear hcz8_1
     try clear hcz8_2
     try clear hcz8_3
     try clear hcz8_4
     try clear hfz12_0
     try clear hfz12_1
     try clear hfz12_2
     try clear hfz12_3
     try clear hfz12_4
     try clear hfz14_0
     try clear hfz14_1
     try clear hfz14_2
     try clear hfz14_3
     try clear hfz14_4
     try clear hfz15_0
     try clear hfz15_1
     try clear hfz15_2
     try clear hfz15_3
     try clear hfz15_4
     try clear hfz7_0
     try clear hfz7_1
     try clear hfz7_2
     try clear hfz7_3
     try clear hfz7_4
     try clear hfz8_0
     try clear hfz8_1
     try clear hfz8_2
     try clear hfz8_3
     try clear hfz8_4
     try clear p2
     obtain ⟨kq, x14_9, rfl, HA, HJ9, BK121, HB⟩ := hcut
     cases kq with
     | zero => exact absurd HA.out (by simp [item_Check.j1])
     | succ kj9 =>
      have H := HA.out
      clear HA
      simp only [item_Check.j1] at H
      by_cases c16 : x14_9 = true
      ·subst c16
       have H1 : (some 3) = some r := by rw [if_pos rfl] at H; exact H
       clear H
       have H := H1
       clear H1
       obtain rfl := Option.some.inj H
       go_wp2
       go_ret
       exact ⟨zf, zm HB⟩
      ·replace c16 := Bool.eq_false_iff.mpr c16
       subst c16
       have H1 : (if a0_2.toList = ([] : List UInt8) then (item_Check.j2 kj9 true a0_0 a0_1 a0_2 l0_3 l0_4) else ((contains_in_string.f kj9 a0_2).bind fun t124 => (item_Check.j2 kj9 t124 a0_0 a0_1 a0_2 l0_3 l0_4))) = some r := by rw [if_neg (show ¬ (false = true) by decide)] at H; exact H
       clear H
       have H := H1
       clear H1
       have HC17 := za H
       clear H
       go_upto_region 5 with (fail)
       go_cut [31] (fun v31 wc => ∃ (kq : Nat) (x31_16 : Bool), v31 = .bool x31_16 ∧ Aside0 (item_Check.j2 kq x31_16 a0_0 a0_1 a0_2 l0_3 l0_4 = some r) ∧ Aside0 (kq ≤ kj9) ∧ Aside0 (wc.heap[gb121]? = some (.cells #[.int .i64 a0_0, .int .i64 a0_1, .string a0_2, (.slice A0_3 l0_3.length c0_3), (.slice A0_4 l0_4.length c0_4)] 33 (0, 0))) ∧ Aside0 (Below w.heap.size w wc))
       case first =>
        have H := HC17.out
        clear HC17
        by_cases c18 : a0_2.toList = ([] : List UInt8)
        ·rw [if_pos c18] at H
         have c18b0 : (a0_2.toList == ([] : List UInt8)) = true := beq_iff_eq.mpr c18
         have c18b1 : (a0_2.toList != ([] : List UInt8)) = false := bne_eq_false_iff_eq.mpr c18
         clear c18
         (first | rw [c18b0] | (simp only [i64_w, i32_w]; rw [c18b0]) | skip)
         have H' := za H
         clear H
         obtain ⟨hcz19_0, hcz19_1, hcz19_2, hcz19_3, hcz19_4, hfz19_0, hfz19_1, hfz19_2, hfz19_3, hfz19_4⟩ := z5 BK121
         go_wp2
         go_meet
         case rel => exact ⟨_, (true), (by first | rfl | (simp; done) | (simp [*]; done)), H', ⟨by have := HJ1.out; have := HJ9.out; first | omega | exact Nat.le_refl _⟩, ⟨by (with_reducible repeat (first | refine blk_drewN ?_ _ | refine blk_drew ?_ | refine blk_alloc ?_ _)); exact BK121.out⟩, ⟨zm HB⟩⟩
        ·rw [if_neg c18] at H
         have c18b0 : (a0_2.toList == ([] : List UInt8)) = false := beq_eq_false_iff_ne.mpr c18
         have c18b1 : (a0_2.toList != ([] : List UInt8)) = true := bne_iff_ne.mpr c18
         (first | rw [c18b0] | (simp only [i64_w, i32_w]; rw [c18b0]) | skip)
         replace H := Option.bind_eq_some_iff.mp H
         obtain ⟨t124, A200, H⟩ := H
         replace H : (item_Check.j2 kj9 t124 a0_0 a0_1 a0_2 l0_3 l0_4) = some r := H
         have A20 := za A200
         clear A200
         have H' := za H
         clear H
         obtain ⟨hcz21_0, hcz21_1, hcz21_2, hcz21_3, hcz21_4, hfz21_0, hfz21_1, hfz21_2, hfz21_3, hfz21_4⟩ := z5 BK121
         go_wp2_with (first | ((with_reducible refine gate_dst (N := 38) rfl ?_); (try (refine gate_guard (by rfl) ?_; dsimp only)); (try (refine gate_guard (by rfl) ?_; dsimp only)); refine conv_step 38 rfl rfl (by rfl) rfl rfl (fun _ => rfl) (fun _ => by rfl) Try.func42 (by kernel_rfl) rfl ?_; (with_reducible refine (contains_in_string.calls kj9 a0_2 t124 _ A20.out).mono ?_); rintro e w22 ⟨rfl, hb⟩; refine ⟨_, rfl, fun _ => ?_⟩; replace BK121 := zb BK121 hb; replace HB := zs HB hb; (try clear hb); (try clear hb2); (try clear hk); (try clear hi)))
         go_meet
         case rel => exact ⟨_, (t124), (by first | rfl | (simp; done) | (simp [*]; done)), H', ⟨by have := HJ1.out; have := HJ9.out; first | omega | exact Nat.le_refl _⟩, ⟨by (with_reducible repeat (first | refine blk_drewN ?_ _ | refine blk_drew ?_ | refine blk_alloc ?_ _)); exact BK121.out⟩, ⟨zm HB⟩⟩
       case rest =>
        clear HC17
        try clear c1
        try clear p2
        try clear c3
        try clear c4
        try clear c5
        try clear c9
        try clear c11
        try clear c11b0
        try clear c11b1
        try clear c13
        try clear c13b0
        try clear c13b1
        try clear c16
        try clear c18
        try clear c18b0
        try clear c18b1
        try clear c19
        try clear hcz12_0
        try clear hcz12_1
        try clear hcz12_2
        try clear hcz12_3
        try clear hcz12_4
        try clear hcz14_0
        try clear hcz14_1
        try clear hcz14_2
        try clear hcz14_3
        try clear hcz14_4
        try clear hcz15_0
        try clear hcz15_1
        try clear hcz15_2
        try clear hcz15_3
        try clear hcz15_4
        try clear hcz19_0
        try clear hcz19_1
        try clear hcz19_2
        try clear hcz19_3
        try clear hcz19_4
        try clear hcz21_0
        try clear hcz21_1
        try clear hcz21_2
        try clear hcz21_3
        try clear hcz21_4
        try clear hcz7_0
        try clear hcz7_1
        try clear hcz7_2
        try clear hcz7_3
        try clear hcz7_4
        try clear hcz8_0
        try clear hcz8_1
        try clear hcz8_2
        try clear hcz8_3
        try clear hcz8_4
        try clear hfz12_0
        try clear hfz12_1
        try clear hfz12_2
        try clear hfz12_3
        try clear hfz12_4
        try clear hfz14_0
        try clear hfz14_1
        try clear hfz14_2
        try clear hfz14_3
        try clear hfz14_4
        try clear hfz15_0
        try clear hfz15_1
        try clear hfz15_2
        try clear hfz15_3
        try clear hfz15_4
        try clear hfz19_0
        try clear hfz19_1
        try clear hfz19_2
        try clear hfz19_3
        try clear hfz19_4
        try clear hfz21_0
        try clear hfz21_1
        try clear hfz21_2
        try clear hfz21_3
        try clear hfz21_4
        try clear hfz7_0
        try clear hfz7_1
        try clear hfz7_2
        try clear hfz7_3
        try clear hfz7_4
        try clear hfz8_0
        try clear hfz8_1
        try clear hfz8_2
        try clear hfz8_3
        try clear hfz8_4
        try clear p2
        obtain ⟨kq, x31_16, rfl, HA, HJ16, BK121, HB⟩ := hcut
        cases kq with
        | zero => exact absurd HA.out (by simp [item_Check.j2])
        | succ kj16 =>
         have H := HA.out
         clear HA
         simp only [item_Check.j2] at H
         by_cases c23 : x31_16 = true
         ·subst c23
          have H1 : (some 7) = some r := by rw [if_pos rfl] at H; exact H
          clear H
          have H := H1
          clear H1
          obtain rfl := Option.some.inj H
          go_wp2
          go_ret
          exact ⟨zf, zm HB⟩
         ·replace c23 := Bool.eq_false_iff.mpr c23
          subst c23
          have H1 : (if (l0_3.length : Int) = 0 then (some 10) else ((api_Part_bad_s44.f kj16 l0_3).bind fun t125 => (if t125 = true then (some 1) else ((item_ascending.f kj16 l0_4).bind fun t126 => (if t126 = true then ((slices_ContainsFunc_int_int_Check_2_s47.f kj16 l0_4 a0_0).bind fun t127 => (if t127 = true then (some 9) else (some 0))) else (some 9)))))) = some r := by rw [if_neg (show ¬ (false = true) by decide)] at H; exact H
          clear H
          have H := H1
          clear H1
          by_cases c24 : (l0_3.length : Int) = 0
          ·rw [if_pos c24] at H
           have c24b0 : ((l0_3.length : Int) == 0) = true := beq_iff_eq.mpr c24
           have c24b1 : ((l0_3.length : Int) != 0) = false := bne_eq_false_iff_eq.mpr c24
           clear c24
           obtain rfl := Option.some.inj H
           obtain ⟨hcz25_0, hcz25_1, hcz25_2, hcz25_3, hcz25_4, hfz25_0, hfz25_1, hfz25_2, hfz25_3, hfz25_4⟩ := z5 BK121
           go_wp2
           go_ret
           exact ⟨zf, zm HB⟩
          ·rw [if_neg c24] at H
           have c24b0 : ((l0_3.length : Int) == 0) = false := beq_eq_false_iff_ne.mpr c24
           have c24b1 : ((l0_3.length : Int) != 0) = true := bne_iff_ne.mpr c24
           have c24b2 : ¬ (l0_3 = []) := fun h_ => c24 (by rw [h_]; rfl)
           replace H := Option.bind_eq_some_iff.mp H
           obtain ⟨t125, A260, H⟩ := H
           replace H : (if t125 = true then (some 1) else ((item_ascending.f kj16 l0_4).bind fun t126 => (if t126 = true then ((slices_ContainsFunc_int_int_Check_2_s47.f kj16 l0_4 a0_0).bind fun t127 => (if t127 = true then (some 9) else (some 0))) else (some 9)))) = some r := H
           have A26 := za A260
           clear A260
           by_cases c27 : t125 = true
           ·subst c27
            have H1 : (some 1) = some r := by rw [if_pos rfl] at H; exact H
            clear H
            have H := H1
            clear H1
            obtain rfl := Option.some.inj H
            obtain ⟨hcz28_0, hcz28_1, hcz28_2, hcz28_3, hcz28_4, hfz28_0, hfz28_1, hfz28_2, hfz28_3, hfz28_4⟩ := z5 BK121
            go_wp2_with (first | ((with_reducible refine gate_callee (f := 44) rfl ?_); refine zL (some 49) Try.func44 #[.slice A0_3 l0_3.length c0_3, .func (.func 45) #[] #[]] ?_; (with_reducible refine (api_Part_bad_s44.calls kj16 _ _ l0_3 true _ ?side1 ?side2 A26.out).mono ?_); (case side1 => exact zC HR0_3 HB); (case side2 => exact HC0_3.out); rintro e w29 ⟨rfl, hb⟩; refine ⟨_, rfl, ?_⟩; replace BK121 := zb BK121 hb; replace HB := zs HB hb; (try clear hb); (try clear hb2); (try clear hk); (try clear hi)))
            go_ret
            exact ⟨zf, zm HB⟩
           ·replace c27 := Bool.eq_false_iff.mpr c27
            subst c27
            have H1 : ((item_ascending.f kj16 l0_4).bind fun t126 => (if t126 = true then ((slices_ContainsFunc_int_int_Check_2_s47.f kj16 l0_4 a0_0).bind fun t127 => (if t127 = true then (some 9) else (some 0))) else (some 9))) = some r := by rw [if_neg (show ¬ (false = true) by decide)] at H; exact H
            clear H
            have H := H1
            clear H1
            replace H := Option.bind_eq_some_iff.mp H
            obtain ⟨t126, A300, H⟩ := H
            replace H : (if t126 = true then ((slices_ContainsFunc_int_int_Check_2_s47.f kj16 l0_4 a0_0).bind fun t127 => (if t127 = true then (some 9) else (some 0))) else (some 9)) = some r := H
            have A30 := za A300
            clear A300
            by_cases c31 : t126 = true
            ·subst c31
             have H1 : ((slices_ContainsFunc_int_int_Check_2_s47.f kj16 l0_4 a0_0).bind fun t127 => (if t127 = true then (some 9) else (some 0))) = some r := by rw [if_pos rfl] at H; exact H
             clear H
             have H := H1
             clear H1
             replace H := Option.bind_eq_some_iff.mp H
             obtain ⟨t127, A320, H⟩ := H
             replace H : (if t127 = true then (some 9) else (some 0)) = some r := H
             have A32 := za A320
             clear A320
             by_cases c33 : t127 = true
             ·subst c33
              have H1 : (some 9) = some r := by rw [if_pos rfl] at H; exact H
              clear H
              have H := H1
              clear H1
              obtain rfl := Option.some.inj H
              obtain ⟨hcz34_0, hcz34_1, hcz34_2, hcz34_3, hcz34_4, hfz34_0, hfz34_1, hfz34_2, hfz34_3, hfz34_4⟩ := z5 BK121
              go_wp2_with (first | ((with_reducible refine gate_callee (f := 44) rfl ?_); refine zL (some 49) Try.func44 #[.slice A0_3 l0_3.length c0_3, .func (.func 45) #[] #[]] ?_; (with_reducible refine (api_Part_bad_s44.calls kj16 _ _ l0_3 false _ ?side1 ?side2 A26.out).mono ?_); (case side1 => exact zC HR0_3 HB); (case side2 => exact HC0_3.out); rintro e w35 ⟨rfl, hb⟩; refine ⟨_, rfl, ?_⟩; replace BK121 := zb BK121 hb; replace HB := zs HB hb; (try clear hb); (try clear hb2); (try clear hk); (try clear hi); obtain ⟨hcz36_0, hcz36_1, hcz36_2, hcz36_3, hcz36_4, hfz36_0, hfz36_1, hfz36_2, hfz36_3, hfz36_4⟩ := z5 BK121) | ((with_reducible refine gate_callee (f := 46) rfl ?_); refine zL (some 53) Try.func46 #[.slice A0_4 l0_4.length c0_4] ?_; (with_reducible refine (item_ascending.calls kj16 _ _ l0_4 true _ ?side1 ?side2 A30.out).mono ?_); (case side1 => exact zC HR0_4 HB); (case side2 => exact HC0_4.out); rintro e w' ⟨rfl, ⟨nd, rfl⟩⟩; refine ⟨_, rfl, ?_⟩) | (go_at_call 47; (with_reducible refine (slices_ContainsFunc_int_int_Check_2_s47.calls kj16 _ _ l0_4 a0_0 true _ ?side1 ?side2 A32.out ?sideq).mono ?_); (case side1 => repeat (first | exact (Kd.C_below HR0_4.out (zm HB)) | (with_reducible refine Kd.C_alloc ?_ _) | (with_reducible refine Kd.C_drewN ?_ _) | (with_reducible refine Kd.C_drew ?_))); (case side2 => exact HC0_4.out); (case sideq => first | assumption | (with_unfolding_all assumption) | exact za (by assumption) | exact za (by with_unfolding_all assumption) | exact za (pw_cell_below HB.out hq_.out) | exact za ((blk_cell (by (with_reducible repeat (first | refine blk_drewN ?_ _ | refine blk_drew ?_ | refine blk_alloc ?_ _)); exact BK121.out) 0).trans rfl) | exact za (pw_cell_below (zm HB) hq_.out)); rintro e w37 ⟨rfl, hb⟩; replace BK121 := zb BK121 hb; replace HB := zs HB hb; (try clear hb); (try clear hb2); (try clear hk); (try clear hi)))
              go_ret
              exact ⟨zf, zm HB⟩
             ·replace c33 := Bool.eq_false_iff.mpr c33
              subst c33
              have H1 : (some 0) = some r := by rw [if_neg (show ¬ (false = true) by decide)] at H; exact H
              clear H
              have H := H1
              clear H1
              obtain rfl := Option.some.inj H
              obtain ⟨hcz38_0, hcz38_1, hcz38_2, hcz38_3, hcz38_4, hfz38_0, hfz38_1, hfz38_2, hfz38_3, hfz38_4⟩ := z5 BK121
              go_wp2_with (first | ((with_reducible refine gate_callee (f := 44) rfl ?_); refine zL (some 49) Try.func44 #[.slice A0_3 l0_3.length c0_3, .func (.func 45) #[] #[]] ?_; (with_reducible refine (api_Part_bad_s44.calls kj16 _ _ l0_3 false _ ?side1 ?side2 A26.out).mono ?_); (case side1 => exact zC HR0_3 HB); (case side2 => exact HC0_3.out); rintro e w39 ⟨rfl, hb⟩; refine ⟨_, rfl, ?_⟩; replace BK121 := zb BK121 hb; replace HB := zs HB hb; (try clear hb); (try clear hb2); (try clear hk); (try clear hi); obtain ⟨hcz40_0, hcz40_1, hcz40_2, hcz40_3, hcz40_4, hfz40_0, hfz40_1, hfz40_2, hfz40_3, hfz40_4⟩ := z5 BK121) | ((with_reducible refine gate_callee (f := 46) rfl ?_); refine zL (some 53) Try.func46 #[.slice A0_4 l0_4.length c0_4] ?_; (with_reducible refine (item_ascending.calls kj16 _ _ l0_4 true _ ?side1 ?side2 A30.out).mono ?_); (case side1 => exact zC HR0_4 HB); (case side2 => exact HC0_4.out); rintro e w' ⟨rfl, ⟨nd, rfl⟩⟩; refine ⟨_, rfl, ?_⟩) | (go_at_call 47; (with_reducible refine (slices_ContainsFunc_int_int_Check_2_s47.calls kj16 _ _ l0_4 a0_0 false _ ?side1 ?side2 A32.out ?sideq).mono ?_); (case side1 => repeat (first | exact (Kd.C_below HR0_4.out (zm HB)) | (with_reducible refine Kd.C_alloc ?_ _) | (with_reducible refine Kd.C_drewN ?_ _) | (with_reducible refine Kd.C_drew ?_))); (case side2 => exact HC0_4.out); (case sideq => first | assumption | (with_unfolding_all assumption) | exact za (by assumption) | exact za (by with_unfolding_all assumption) | exact za (pw_cell_below HB.out hq_.out) | exact za ((blk_cell (by (with_reducible repeat (first | refine blk_drewN ?_ _ | refine blk_drew ?_ | refine blk_alloc ?_ _)); exact BK121.out) 0).trans rfl) | exact za (pw_cell_below (zm HB) hq_.out)); rintro e w41 ⟨rfl, hb⟩; replace BK121 := zb BK121 hb; replace HB := zs HB hb; (try clear hb); (try clear hb2); (try clear hk); (try clear hi)))
              go_ret
              exact ⟨zf, zm HB⟩
            ·replace c31 := Bool.eq_false_iff.mpr c31
             subst c31
             have H1 : (some 9) = some r := by rw [if_neg (show ¬ (false = true) by decide)] at H; exact H
             clear H
             have H := H1
             clear H1
             obtain rfl := Option.some.inj H
             obtain ⟨hcz42_0, hcz42_1, hcz42_2, hcz42_3, hcz42_4, hfz42_0, hfz42_1, hfz42_2, hfz42_3, hfz42_4⟩ := z5 BK121
             go_wp2_with (first | ((with_reducible refine gate_callee (f := 44) rfl ?_); refine zL (some 49) Try.func44 #[.slice A0_3 l0_3.length c0_3, .func (.func 45) #[] #[]] ?_; (with_reducible refine (api_Part_bad_s44.calls kj16 _ _ l0_3 false _ ?side1 ?side2 A26.out).mono ?_); (case side1 => exact zC HR0_3 HB); (case side2 => exact HC0_3.out); rintro e w43 ⟨rfl, hb⟩; refine ⟨_, rfl, ?_⟩; replace BK121 := zb BK121 hb; replace HB := zs HB hb; (try clear hb); (try clear hb2); (try clear hk); (try clear hi); obtain ⟨hcz44_0, hcz44_1, hcz44_2, hcz44_3, hcz44_4, hfz44_0, hfz44_1, hfz44_2, hfz44_3, hfz44_4⟩ := z5 BK121) | ((with_reducible refine gate_callee (f := 46) rfl ?_); refine zL (some 53) Try.func46 #[.slice A0_4 l0_4.length c0_4] ?_; (with_reducible refine (item_ascending.calls kj16 _ _ l0_4 false _ ?side1 ?side2 A30.out).mono ?_); (case side1 => exact zC HR0_4 HB); (case side2 => exact HC0_4.out); rintro e w' ⟨rfl, ⟨nd, rfl⟩⟩; refine ⟨_, rfl, ?_⟩))
             go_ret
             exact ⟨zf, zm HB⟩

end Go.Proofs.Ytinmdoemkejanaa.Print
