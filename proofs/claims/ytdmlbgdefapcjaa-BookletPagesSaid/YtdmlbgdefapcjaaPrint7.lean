-- Printed by a program of this session (wip/own_print.py) out of the translation; Lean checks it.
import Derived.Test.YtdmlbgdefapcjaaShort
import Derived.Test.YtdmlbgdefapcjaaPrint0
namespace Go.Proofs.Ytdmlbgdefapcjaa.Print
open Go.RowKit Go.Proofs.YtdmlbgdefapcjaaW.PrintWords Go.Proofs.YtdmlbgdefapcjaaW.PrintLast Go.Proofs.YtdmlbgdefapcjaaW.PrintMore
attribute [local go_sem] max2_int min2_int max_two min_two max_three min_three max_four min_four   -- for this text's walks alone
set_option linter.unusedVariables false
set_option linter.unusedSimpArgs false

-- NOT PRINTED: function 41 (slices_IndexFunc_int_int)

/-! ### slices_Index_int_int: function 50 -/
def slices_Index_int_int.l0 : Nat → List Int → Int → Int → Int → Option (Int)
  | 0, _, _, _, _ => none
  | k + 1, x0, x1, x7, x8 => if x8 < x7 then (if 0 ≤ x8 then (if x8 < (x0.length : Int) then (if x1 = (rd x0 x8) then (some x8) else (slices_Index_int_int.l0 k x0 x1 x7 (wrap64 (x8 + 1)))) else (none)) else (none)) else (some (-1))
def slices_Index_int_int.f (k : Nat) (l0 : List Int) (a1 : Int) : Option (Int) := slices_Index_int_int.l0 k l0 a1 (l0.length : Int) 0
theorem slices_Index_int_int.mono_l : ∀ k, (∀ y0 y1 y2 y3, LeO (slices_Index_int_int.l0 k y0 y1 y2 y3) (slices_Index_int_int.l0 (k + 1) y0 y1 y2 y3))
  | 0 => fun _ _ _ _ r h => by simp [slices_Index_int_int.l0] at h
  | k + 1 => by
    have ih0 := slices_Index_int_int.mono_l k
    · intro y0 y1 y2 y3
      unfold slices_Index_int_int.l0
      repeat' first
      | (with_reducible exact ih0 _ _ _ _)
      | (with_reducible exact LeO.refl _)
      | (with_reducible exact LeO.none _)
      | (with_reducible refine LeO.ite ?_ ?_)
      | (with_reducible refine LeO.bind ?_ (fun _ => ?_))
      | exact ih0 _ _ _ _
      | exact LeO.none _
      | refine LeO.ite ?_ ?_
      | refine LeO.bind ?_ (fun _ => ?_)
theorem slices_Index_int_int.mono : ∀ a0 a1 k, LeO (slices_Index_int_int.f k a0 a1) (slices_Index_int_int.f (k + 1) a0 a1) := by
  intro a0 a1 k
  have ih0 := slices_Index_int_int.mono_l k
  unfold slices_Index_int_int.f
  repeat' first
      | (with_reducible exact ih0 _ _ _ _)
      | (with_reducible exact LeO.refl _)
      | (with_reducible exact LeO.none _)
      | (with_reducible refine LeO.ite ?_ ?_)
      | (with_reducible refine LeO.bind ?_ (fun _ => ?_))
      | exact ih0 _ _ _ _
      | exact LeO.none _
      | refine LeO.ite ?_ ?_
      | refine LeO.bind ?_ (fun _ => ?_)
set_option maxHeartbeats 8000000 in
set_option maxRecDepth 100000 in
theorem slices_Index_int_int.calls (k : Nat) (A0 : Option Addr) (c0 : Nat) (l0 : List Int) (a1 : Int) (r : Int) (w : World) (hr0 : Kd.C (Kd.int .i64) w A0 l0.length l0) (hc0 : l0.length ≤ c0) (h : slices_Index_int_int.f k l0 a1 = some r) :
    Calls Try.prog 50 #[.slice A0 l0.length c0, .int .i64 a1] w fun e w' => e = .returned (.int .i64 r) ∧ Drawn0 w w' := by
 have HR0 := za hr0
 have HC0 := za hc0
 clear hr0 hc0
 have H : (slices_Index_int_int.l0 k l0 a1 (l0.length : Int) 0) = some r := h
 clear h
 have H' := za H
 clear H
 go_enter Try.func50, Try.ntmps50
 go_wp2
 go_loopg [8] k (fun kq v8 w' => ∃ (x8_1 : Int), v8 = .int .i64 x8_1 ∧ Aside0 (slices_Index_int_int.l0 kq l0 a1 (l0.length : Int) x8_1 = some r) ∧ Aside0 (kq ≤ k) ∧ Drawn0 w w')
 case atStart => exact ⟨(0), (by first | rfl | (simp; done) | (simp [*]; done)), H', ⟨Nat.le_refl _⟩, by repeat (first | exact Drawn0.refl _ | apply Drawn0.step)⟩
 case round =>
  clear H'
  try clear p2
  obtain ⟨x8_1, rfl, HA, HK1, ⟨m1, rfl⟩⟩ := hrel
  cases gk with
  | zero => exact absurd HA.out (by simp [slices_Index_int_int.l0])
  | succ k1 =>
   have H := HA.out
   clear HA
   simp only [slices_Index_int_int.l0] at H
   by_cases c3 : x8_1 < (l0.length : Int)
   ·rw [if_pos c3] at H
    have c3b0 : decide (x8_1 < (l0.length : Int)) = true := decide_eq_true c3
    clear c3
    by_cases c4 : 0 ≤ x8_1
    ·rw [if_pos c4] at H
     have c4b0 : decide (0 ≤ x8_1) = true := decide_eq_true c4
     clear c4
     by_cases c5 : x8_1 < (l0.length : Int)
     ·rw [if_pos c5] at H
      have c5b0 : decide (x8_1 < (l0.length : Int)) = true := decide_eq_true c5
      clear c5
      by_cases c6 : a1 = (rd l0 x8_1)
      ·rw [if_pos c6] at H
       have c6b0 : (a1 == (rd l0 x8_1)) = true := beq_iff_eq.mpr c6
       have c6b1 : (a1 != (rd l0 x8_1)) = false := bne_eq_false_iff_eq.mpr c6
       clear c6
       obtain rfl := Option.some.inj H
       have p153 : 0 ≤ (x8_1 : Int) := of_decide_eq_true (by first | (with_reducible assumption) | assumption)
       have q153 : x8_1 < (l0.length : Int) := of_decide_eq_true (by first | (with_reducible assumption) | assumption)
       obtain ⟨ad153, e153, hx153_0⟩ := Kd.at_int HR0.out x8_1 p153 q153
       cases e153
       replace p153 := eq_true p153
       replace q153 := eq_true q153
       go_wp2
       go_ret
       exact ⟨by first | rfl | (simp; done) | (simp [*]; done), by repeat (first | exact Drawn0.refl _ | apply Drawn0.step)⟩
      ·rw [if_neg c6] at H
       have c6b0 : (a1 == (rd l0 x8_1)) = false := beq_eq_false_iff_ne.mpr c6
       have c6b1 : (a1 != (rd l0 x8_1)) = true := bne_iff_ne.mpr c6
       have H' := za H
       clear H
       have p153 : 0 ≤ (x8_1 : Int) := of_decide_eq_true (by first | (with_reducible assumption) | assumption)
       have q153 : x8_1 < (l0.length : Int) := of_decide_eq_true (by first | (with_reducible assumption) | assumption)
       obtain ⟨ad153, e153, hx153_0⟩ := Kd.at_int HR0.out x8_1 p153 q153
       cases e153
       replace p153 := eq_true p153
       replace q153 := eq_true q153
       go_wp2
       go_roundg k1
       case measure => have := HK1.out; omega
       case rel => exact ⟨(wrap64 (x8_1 + 1)), (by first | rfl | (simp; done) | (simp [*]; done)), H', ⟨by have := HK1.out; omega⟩, by repeat (first | exact Drawn0.refl _ | apply Drawn0.step)⟩
     ·rw [if_neg c5] at H
      exact absurd H (by simp)
    ·rw [if_neg c4] at H
     exact absurd H (by simp)
   ·rw [if_neg c3] at H
    have c3b0 : decide (x8_1 < (l0.length : Int)) = false := decide_eq_false c3
    clear c3
    obtain rfl := Option.some.inj H
    go_wp2
    go_ret
    exact ⟨by first | rfl | (simp; done) | (simp [*]; done), by repeat (first | exact Drawn0.refl _ | apply Drawn0.step)⟩

/-! ### slices_Contains_int_int: function 43 -/
def slices_Contains_int_int.f (k : Nat) (l0 : List Int) (a1 : Int) : Option (Bool) := (slices_Index_int_int.f k l0 a1).bind fun t154 => (some (decide (t154 ≥ 0)))
theorem slices_Contains_int_int.mono : ∀ a0 a1 k, LeO (slices_Contains_int_int.f k a0 a1) (slices_Contains_int_int.f (k + 1) a0 a1) := by
  intro a0 a1 k
  unfold slices_Contains_int_int.f
  repeat' first
      | (with_reducible exact slices_Index_int_int.mono _ _ _)
      | (with_reducible exact LeO.refl _)
      | (with_reducible exact LeO.none _)
      | (with_reducible refine LeO.ite ?_ ?_)
      | (with_reducible refine LeO.bind ?_ (fun _ => ?_))
      | exact slices_Index_int_int.mono _ _ _
      | exact LeO.none _
      | refine LeO.ite ?_ ?_
      | refine LeO.bind ?_ (fun _ => ?_)
set_option maxHeartbeats 8000000 in
set_option maxRecDepth 100000 in
theorem slices_Contains_int_int.calls (k : Nat) (A0 : Option Addr) (c0 : Nat) (l0 : List Int) (a1 : Int) (r : Bool) (w : World) (hr0 : Kd.C (Kd.int .i64) w A0 l0.length l0) (hc0 : l0.length ≤ c0) (h : slices_Contains_int_int.f k l0 a1 = some r) :
    Calls Try.prog 43 #[.slice A0 l0.length c0, .int .i64 a1] w fun e w' => e = .returned (.bool r) ∧ Drawn0 w w' := by
 have HR0 := za hr0
 have HC0 := za hc0
 clear hr0 hc0
 have H : ((slices_Index_int_int.f k l0 a1).bind fun t154 => (some (decide (t154 ≥ 0)))) = some r := h
 clear h
 replace H := Option.bind_eq_some_iff.mp H
 obtain ⟨t154, A30, H⟩ := H
 replace H : (some (decide (t154 ≥ 0))) = some r := H
 have A3 := za A30
 clear A30
 obtain rfl := Option.some.inj H
 go_enter Try.func43, Try.ntmps43
 go_wp2_with (first | ((with_reducible refine gate_callee (f := 50) rfl ?_); refine zL (some 7) Try.func50 #[.slice A0 l0.length c0, .int .i64 a1] ?_; (with_reducible refine (slices_Index_int_int.calls k _ _ l0 a1 t154 _ ?side1 ?side2 A3.out).mono ?_); (case side1 => repeat (first | exact HR0.out | (with_reducible refine Kd.C_alloc ?_ _) | (with_reducible refine Kd.C_drewN ?_ _) | (with_reducible refine Kd.C_drew ?_))); (case side2 => exact HC0.out); rintro e w' ⟨rfl, ⟨nd, rfl⟩⟩; refine ⟨_, rfl, ?_⟩))
 go_ret
 exact ⟨by first | rfl | (simp; done) | (simp [*]; done), by repeat (first | exact Drawn0.refl _ | apply Drawn0.step)⟩

/-! ### booklet_PageOf_1: function 42 (a closure: the part's number lies in block gq_) -/
def booklet_PageOf_1.f (k : Nat) (l0 : List Int) (a1_0 : Int) : Option Bool := (slices_Contains_int_int.f k l0 a1_0).bind fun t => some t
theorem booklet_PageOf_1.mono : ∀ a0 a1 k, LeO (booklet_PageOf_1.f k a0 a1) (booklet_PageOf_1.f (k + 1) a0 a1) := by
  intro a0 a1 k
  unfold booklet_PageOf_1.f
  exact LeO.bind (slices_Contains_int_int.mono _ _ _) (fun _ => LeO.refl _)
set_option maxHeartbeats 8000000 in
set_option maxRecDepth 100000 in
theorem booklet_PageOf_1.calls (k : Nat) (A0 : Option Addr) (c0 : Nat) (l0 : List Int) (a1_0 : Int) (r : Bool) (w : World) (hr0 : Kd.C (Kd.int .i64) w A0 l0.length l0) (hc0 : l0.length ≤ c0) (h : booklet_PageOf_1.f k l0 a1_0 = some r) {gq_ : Nat} (hq_ : Aside0 (w.cell? ⟨gq_, 0, none⟩ = some (.int .i64 a1_0))) :
    Calls Try.prog 42 #[.slice A0 l0.length c0, .pointer (some ⟨gq_, 0, none⟩)] w fun e w' => e = .returned (.bool r) ∧ Below w.heap.size w w' := by
  have H : ((slices_Contains_int_int.f k l0 a1_0).bind fun t => some t) = some r := h
  clear h
  replace H := Option.bind_eq_some_iff.mp H
  obtain ⟨t1, A10, H⟩ := H
  have A1 := za A10
  clear A10
  have hc1 := hq_.out
  clear hq_
  obtain rfl := Option.some.inj H
  clear H
  have HR0 := za hr0
  have HC0 := za hc0
  clear hr0 hc0
  go_enter Try.func42, Try.ntmps42
  go_wp2_with (first | (go_at_call 43; (with_reducible refine (slices_Contains_int_int.calls k _ _ l0 a1_0 t1 _ ?side1 ?side2 A1.out).mono ?_); (case side1 => repeat (first | exact HR0.out | (with_reducible refine Kd.C_alloc ?_ _) | (with_reducible refine Kd.C_drewN ?_ _) | (with_reducible refine Kd.C_drew ?_))); (case side2 => exact HC0.out); rintro e w' ⟨rfl, ⟨nd, rfl⟩⟩))
  go_ret
  exact ⟨by first | rfl | (simp; done) | (simp [*]; done), by repeat (first | exact Below.refl _ _ | apply pw_below_drewN | apply below_drew1)⟩

/-! ### slices_IndexFunc_int_int_PageOf_1_s41: function 41 -/
def slices_IndexFunc_int_int_PageOf_1_s41.l0 : Nat → List (List Int) → Int → Int → Int → Option (Int)
  | 0, _, _, _, _ => none
  | k + 1, x0, x1, x7, x8 => if x8 < x7 then (if 0 ≤ x8 then (if x8 < (x0.length : Int) then ((booklet_PageOf_1.f k (rd_L2 x0 x8) x1).bind fun t156 => (if t156 = true then (some x8) else (slices_IndexFunc_int_int_PageOf_1_s41.l0 k x0 x1 x7 (wrap64 (x8 + 1))))) else (none)) else (none)) else (some (-1))
def slices_IndexFunc_int_int_PageOf_1_s41.f (k : Nat) (l0 : List (List Int)) (a1_0 : Int) : Option (Int) := slices_IndexFunc_int_int_PageOf_1_s41.l0 k l0 a1_0 (l0.length : Int) 0
theorem slices_IndexFunc_int_int_PageOf_1_s41.mono_l : ∀ k, (∀ y0 y1 y2 y3, LeO (slices_IndexFunc_int_int_PageOf_1_s41.l0 k y0 y1 y2 y3) (slices_IndexFunc_int_int_PageOf_1_s41.l0 (k + 1) y0 y1 y2 y3))
  | 0 => fun _ _ _ _ r h => by simp [slices_IndexFunc_int_int_PageOf_1_s41.l0] at h
  | k + 1 => by
    have ih0 := slices_IndexFunc_int_int_PageOf_1_s41.mono_l k
    · intro y0 y1 y2 y3
      unfold slices_IndexFunc_int_int_PageOf_1_s41.l0
      repeat' first
      | (with_reducible exact ih0 _ _ _ _)
      | (with_reducible exact booklet_PageOf_1.mono _ _ _)
      | (with_reducible exact LeO.refl _)
      | (with_reducible exact LeO.none _)
      | (with_reducible refine LeO.ite ?_ ?_)
      | (with_reducible refine LeO.bind ?_ (fun _ => ?_))
      | exact ih0 _ _ _ _
      | exact booklet_PageOf_1.mono _ _ _
      | exact LeO.none _
      | refine LeO.ite ?_ ?_
      | refine LeO.bind ?_ (fun _ => ?_)
theorem slices_IndexFunc_int_int_PageOf_1_s41.mono : ∀ a0 a1 k, LeO (slices_IndexFunc_int_int_PageOf_1_s41.f k a0 a1) (slices_IndexFunc_int_int_PageOf_1_s41.f (k + 1) a0 a1) := by
  intro a0 a1 k
  have ih0 := slices_IndexFunc_int_int_PageOf_1_s41.mono_l k
  unfold slices_IndexFunc_int_int_PageOf_1_s41.f
  repeat' first
      | (with_reducible exact ih0 _ _ _ _)
      | (with_reducible exact booklet_PageOf_1.mono _ _ _)
      | (with_reducible exact LeO.refl _)
      | (with_reducible exact LeO.none _)
      | (with_reducible refine LeO.ite ?_ ?_)
      | (with_reducible refine LeO.bind ?_ (fun _ => ?_))
      | exact ih0 _ _ _ _
      | exact booklet_PageOf_1.mono _ _ _
      | exact LeO.none _
      | refine LeO.ite ?_ ?_
      | refine LeO.bind ?_ (fun _ => ?_)
set_option maxHeartbeats 8000000 in
set_option maxRecDepth 100000 in
theorem slices_IndexFunc_int_int_PageOf_1_s41.calls (k : Nat) (A0 : Option Addr) (c0 : Nat) (l0 : List (List Int)) (a1_0 : Int) (r : Int) (w : World) (hr0 : Kd.C (Kd.slice 3 (Kd.int .i64)) w A0 l0.length l0) (hc0 : l0.length ≤ c0) (h : slices_IndexFunc_int_int_PageOf_1_s41.f k l0 a1_0 = some r) {gq_ : Nat} (hq_ : Aside0 (w.cell? ⟨gq_, 0, none⟩ = some (.int .i64 a1_0))) :
    Calls Try.prog 41 #[.slice A0 l0.length c0, .func (.func 42) #[] #[.pointer (some ⟨gq_, 0, none⟩)]] w fun e w' => e = .returned (.int .i64 r) ∧ Below w.heap.size w w' := by
 have HR0 := za hr0
 have HC0 := za hc0
 clear hr0 hc0
 have HB := za (Below.refl w.heap.size w)
 have H : (slices_IndexFunc_int_int_PageOf_1_s41.l0 k l0 a1_0 (l0.length : Int) 0) = some r := h
 clear h
 have H' := za H
 clear H
 go_enter Try.func41, Try.ntmps41
 go_wp2
 go_loopg [8] k (fun kq v8 w' => ∃ (x8_1 : Int), v8 = .int .i64 x8_1 ∧ Aside0 (slices_IndexFunc_int_int_PageOf_1_s41.l0 kq l0 a1_0 (l0.length : Int) x8_1 = some r) ∧ Aside0 (kq ≤ k) ∧ Aside0 (Below w.heap.size w w'))
 case atStart => exact ⟨(0), (by first | rfl | (simp; done) | (simp [*]; done)), H', ⟨Nat.le_refl _⟩, ⟨zm HB⟩⟩
 case round =>
  clear H'
  try clear p2
  obtain ⟨x8_1, rfl, HA, HK1, HB⟩ := hrel
  cases gk with
  | zero => exact absurd HA.out (by simp [slices_IndexFunc_int_int_PageOf_1_s41.l0])
  | succ k1 =>
   have H := HA.out
   clear HA
   simp only [slices_IndexFunc_int_int_PageOf_1_s41.l0] at H
   by_cases c3 : x8_1 < (l0.length : Int)
   ·rw [if_pos c3] at H
    have c3b0 : decide (x8_1 < (l0.length : Int)) = true := decide_eq_true c3
    clear c3
    by_cases c4 : 0 ≤ x8_1
    ·rw [if_pos c4] at H
     have c4b0 : decide (0 ≤ x8_1) = true := decide_eq_true c4
     clear c4
     by_cases c5 : x8_1 < (l0.length : Int)
     ·rw [if_pos c5] at H
      have c5b0 : decide (x8_1 < (l0.length : Int)) = true := decide_eq_true c5
      clear c5
      replace H := Option.bind_eq_some_iff.mp H
      obtain ⟨t156, A60, H⟩ := H
      replace H : (if t156 = true then (some x8_1) else (slices_IndexFunc_int_int_PageOf_1_s41.l0 k1 l0 a1_0 (l0.length : Int) (wrap64 (x8_1 + 1)))) = some r := H
      have A6 := za A60
      clear A60
      by_cases c7 : t156 = true
      ·subst c7
       have H1 : (some x8_1) = some r := by rw [if_pos rfl] at H; exact H
       clear H
       have H := H1
       clear H1
       obtain rfl := Option.some.inj H
       have p155 : 0 ≤ (x8_1 : Int) := of_decide_eq_true (by first | (with_reducible assumption) | assumption)
       have q155 : x8_1 < (l0.length : Int) := of_decide_eq_true (by first | (with_reducible assumption) | assumption)
       obtain ⟨ad155, A155_0, c155_0, e155, hx155_0, hl155_0, hi155_0⟩ := at_L2 HR0.out x8_1 p155 q155
       cases e155
       replace hx155_0 := zx HB hx155_0
       have HR155_0 := za hi155_0
       have HC155_0 := za hl155_0
       clear hi155_0 hl155_0
       replace p155 := eq_true p155
       replace q155 := eq_true q155
       go_wp2_with (first | (go_at_call 42; (with_reducible refine (booklet_PageOf_1.calls k1 _ _ (rd_L2 l0 x8_1) a1_0 true _ ?side1 ?side2 A6.out ?sideq).mono ?_); (case side1 => exact zC HR155_0 HB); (case side2 => exact HC155_0.out); (case sideq => first | assumption | (with_unfolding_all assumption) | exact za (by assumption) | exact za (by with_unfolding_all assumption) | exact za (pw_cell_below HB.out hq_.out) | exact za (pw_cell_below (zm HB) hq_.out)); rintro e w8 ⟨rfl, hb⟩; replace HB := zs HB hb; (try clear hb); (try clear hb2); (try clear hk); (try clear hi)))
       go_ret
       exact ⟨zf, zm HB⟩
      ·replace c7 := Bool.eq_false_iff.mpr c7
       subst c7
       have H1 : (slices_IndexFunc_int_int_PageOf_1_s41.l0 k1 l0 a1_0 (l0.length : Int) (wrap64 (x8_1 + 1))) = some r := by rw [if_neg (show ¬ (false = true) by decide)] at H; exact H
       clear H
       have H := H1
       clear H1
       have H' := za H
       clear H
       have p155 : 0 ≤ (x8_1 : Int) := of_decide_eq_true (by first | (with_reducible assumption) | assumption)
       have q155 : x8_1 < (l0.length : Int) := of_decide_eq_true (by first | (with_reducible assumption) | assumption)
       obtain ⟨ad155, A155_0, c155_0, e155, hx155_0, hl155_0, hi155_0⟩ := at_L2 HR0.out x8_1 p155 q155
       cases e155
       replace hx155_0 := zx HB hx155_0
       have HR155_0 := za hi155_0
       have HC155_0 := za hl155_0
       clear hi155_0 hl155_0
       replace p155 := eq_true p155
       replace q155 := eq_true q155
       go_wp2_with (first | (go_at_call 42; (with_reducible refine (booklet_PageOf_1.calls k1 _ _ (rd_L2 l0 x8_1) a1_0 false _ ?side1 ?side2 A6.out ?sideq).mono ?_); (case side1 => exact zC HR155_0 HB); (case side2 => exact HC155_0.out); (case sideq => first | assumption | (with_unfolding_all assumption) | exact za (by assumption) | exact za (by with_unfolding_all assumption) | exact za (pw_cell_below HB.out hq_.out) | exact za (pw_cell_below (zm HB) hq_.out)); rintro e w9 ⟨rfl, hb⟩; replace HB := zs HB hb; (try clear hb); (try clear hb2); (try clear hk); (try clear hi)))
       go_roundg k1
       case measure => have := HK1.out; omega
       case rel => exact ⟨(wrap64 (x8_1 + 1)), (by first | rfl | (simp; done) | (simp [*]; done)), H', ⟨by have := HK1.out; omega⟩, ⟨zm HB⟩⟩
     ·rw [if_neg c5] at H
      exact absurd H (by simp)
    ·rw [if_neg c4] at H
     exact absurd H (by simp)
   ·rw [if_neg c3] at H
    have c3b0 : decide (x8_1 < (l0.length : Int)) = false := decide_eq_false c3
    clear c3
    obtain rfl := Option.some.inj H
    go_wp2
    go_ret
    exact ⟨zf, zm HB⟩

/-! ### booklet_PageOf: function 25 -/
def booklet_PageOf.f (k : Nat) (l0_0 : List (List Int)) (a1 : Int) : Option (Int) := (slices_IndexFunc_int_int_PageOf_1_s41.f k l0_0 a1).bind fun t159 => (some t159)
theorem booklet_PageOf.mono : ∀ a0 a1 k, LeO (booklet_PageOf.f k a0 a1) (booklet_PageOf.f (k + 1) a0 a1) := by
  intro a0 a1 k
  unfold booklet_PageOf.f
  repeat' first
      | (with_reducible exact slices_IndexFunc_int_int_PageOf_1_s41.mono _ _ _)
      | (with_reducible exact LeO.refl _)
      | (with_reducible exact LeO.none _)
      | (with_reducible refine LeO.ite ?_ ?_)
      | (with_reducible refine LeO.bind ?_ (fun _ => ?_))
      | exact slices_IndexFunc_int_int_PageOf_1_s41.mono _ _ _
      | exact LeO.none _
      | refine LeO.ite ?_ ?_
      | refine LeO.bind ?_ (fun _ => ?_)
set_option maxHeartbeats 8000000 in
set_option maxRecDepth 100000 in
theorem booklet_PageOf.calls (k : Nat) (A0_0 : Option Addr) (c0_0 : Nat) (l0_0 : List (List Int)) (a1 : Int) (r : Int) (w : World) (hr0_0 : Kd.C (Kd.slice 3 (Kd.int .i64)) w A0_0 l0_0.length l0_0) (hc0_0 : l0_0.length ≤ c0_0) (h : booklet_PageOf.f k l0_0 a1 = some r) :
    Calls Try.prog 25 #[.agg #[.slice A0_0 l0_0.length c0_0], .int .i64 a1] w fun e w' => e = .returned (.int .i64 r) ∧ Below w.heap.size w w' := by
 have hu38 := Try.underlying38
 have HR0_0 := za hr0_0
 have HC0_0 := za hc0_0
 clear hr0_0 hc0_0
 have HB := za (Below.refl w.heap.size w)
 have H : ((slices_IndexFunc_int_int_PageOf_1_s41.f k l0_0 a1).bind fun t159 => (some t159)) = some r := h
 clear h
 replace H := Option.bind_eq_some_iff.mp H
 obtain ⟨t159, A30, H⟩ := H
 replace H : (some t159) = some r := H
 have A3 := za A30
 clear A30
 obtain rfl := Option.some.inj H
 go_enter Try.func25, Try.ntmps25
 go_wp2_with (first | ((with_reducible refine gate_dst (N := 2) rfl ?_); refine zE 2 #[.slice A0_0 l0_0.length c0_0] 38 ?_; intro gb157 hg w4 hbox hb; have BK157 := za (hbox); have GW157 := zg HB hg; have GE157 := zg HB hg; replace HB := zs HB hb; clear hb hbox hg) | ((with_reducible refine gate_dst (N := 3) rfl ?_); refine zE 3 #[.int .i64 a1] 3 ?_; intro gb158 hg w5 hbox hb; have BK158 := za (hbox); have GW158 := zg HB hg; have GE158 := zg HB hg; have NB157_158 := zl BK157 hg; have NB158_157 := zr BK157 hg; replace BK157 := zb BK157 hb; replace HB := zs HB hb; clear hb hbox hg; have hnb6 := NB157_158.out; have hnc6 := NB158_157.out; obtain ⟨hcz7_0, hfz7_0⟩ := z1 BK157) | ((with_reducible refine gate_callee (f := 41) rfl ?_); refine zL (some 8) Try.func41 #[.slice A0_0 l0_0.length c0_0, .func (.func 42) #[] #[.pointer (some ⟨gb158, 0, none⟩)]] ?_; (with_reducible refine (slices_IndexFunc_int_int_PageOf_1_s41.calls k _ _ l0_0 a1 t159 _ ?side1 ?side2 A3.out ?sideq).mono ?_); (case side1 => exact zC HR0_0 HB); (case side2 => exact HC0_0.out); (case sideq => first | assumption | (with_unfolding_all assumption) | exact za (by assumption) | exact za (by with_unfolding_all assumption) | exact za (pw_cell_below HB.out hq_.out) | exact za ((blk_cell (by (with_reducible repeat (first | refine blk_drewN ?_ _ | refine blk_drew ?_ | refine blk_alloc ?_ _)); exact BK157.out) 0).trans rfl) | exact za ((blk_cell (by (with_reducible repeat (first | refine blk_drewN ?_ _ | refine blk_drew ?_ | refine blk_alloc ?_ _)); exact BK158.out) 0).trans rfl) | exact za (pw_cell_below (zm HB) hq_.out)); rintro e w8 ⟨rfl, hb⟩; refine ⟨_, rfl, ?_⟩; replace BK157 := zb BK157 hb; replace BK158 := zb BK158 hb; replace HB := zs HB hb; (try clear hb); (try clear hb2); (try clear hk); (try clear hi)))
 go_ret
 exact ⟨zf, zm HB⟩

/-! ### awardingbodyref06_Ints: function 32 -/
def awardingbodyref06_Ints.l0 : Nat → List Int → List Int → Int → Option (Bool)
  | 0, _, _, _ => none
  | k + 1, x0, x1, x5 => if x5 < (x0.length : Int) then (if 0 ≤ x5 then (if x5 < (x1.length : Int) then (if (rd x0 x5) = (rd x1 x5) then (awardingbodyref06_Ints.l0 k x0 x1 (wrap64 (x5 + 1))) else (some false)) else (none)) else (none)) else (some true)
def awardingbodyref06_Ints.f (k : Nat) (l0 : List Int) (l1 : List Int) : Option (Bool) := if (l0.length : Int) = (l1.length : Int) then (awardingbodyref06_Ints.l0 k l0 l1 0) else (some false)
theorem awardingbodyref06_Ints.mono_l : ∀ k, (∀ y0 y1 y2, LeO (awardingbodyref06_Ints.l0 k y0 y1 y2) (awardingbodyref06_Ints.l0 (k + 1) y0 y1 y2))
  | 0 => fun _ _ _ r h => by simp [awardingbodyref06_Ints.l0] at h
  | k + 1 => by
    have ih0 := awardingbodyref06_Ints.mono_l k
    · intro y0 y1 y2
      unfold awardingbodyref06_Ints.l0
      repeat' first
      | (with_reducible exact ih0 _ _ _)
      | (with_reducible exact LeO.refl _)
      | (with_reducible exact LeO.none _)
      | (with_reducible refine LeO.ite ?_ ?_)
      | (with_reducible refine LeO.bind ?_ (fun _ => ?_))
      | exact ih0 _ _ _
      | exact LeO.none _
      | refine LeO.ite ?_ ?_
      | refine LeO.bind ?_ (fun _ => ?_)
theorem awardingbodyref06_Ints.mono : ∀ a0 a1 k, LeO (awardingbodyref06_Ints.f k a0 a1) (awardingbodyref06_Ints.f (k + 1) a0 a1) := by
  intro a0 a1 k
  have ih0 := awardingbodyref06_Ints.mono_l k
  unfold awardingbodyref06_Ints.f
  repeat' first
      | (with_reducible exact ih0 _ _ _)
      | (with_reducible exact LeO.refl _)
      | (with_reducible exact LeO.none _)
      | (with_reducible refine LeO.ite ?_ ?_)
      | (with_reducible refine LeO.bind ?_ (fun _ => ?_))
      | exact ih0 _ _ _
      | exact LeO.none _
      | refine LeO.ite ?_ ?_
      | refine LeO.bind ?_ (fun _ => ?_)
set_option maxHeartbeats 8000000 in
set_option maxRecDepth 100000 in
theorem awardingbodyref06_Ints.calls (k : Nat) (A0 : Option Addr) (c0 : Nat) (l0 : List Int) (A1 : Option Addr) (c1 : Nat) (l1 : List Int) (r : Bool) (w : World) (hr0 : Kd.C (Kd.int .i64) w A0 l0.length l0) (hc0 : l0.length ≤ c0) (hr1 : Kd.C (Kd.int .i64) w A1 l1.length l1) (hc1 : l1.length ≤ c1) (h : awardingbodyref06_Ints.f k l0 l1 = some r) :
    Calls Try.prog 32 #[.slice A0 l0.length c0, .slice A1 l1.length c1] w fun e w' => e = .returned (.bool r) ∧ Drawn0 w w' := by
 have HR0 := za hr0
 have HC0 := za hc0
 clear hr0 hc0
 have HR1 := za hr1
 have HC1 := za hc1
 clear hr1 hc1
 have H : (if (l0.length : Int) = (l1.length : Int) then (awardingbodyref06_Ints.l0 k l0 l1 0) else (some false)) = some r := h
 clear h
 by_cases c3 : (l0.length : Int) = (l1.length : Int)
 ·rw [if_pos c3] at H
  have c3b0 : ((l0.length : Int) == (l1.length : Int)) = true := beq_iff_eq.mpr c3
  have c3b1 : ((l0.length : Int) != (l1.length : Int)) = false := bne_eq_false_iff_eq.mpr c3
  have c3b2 : (l0.length == l1.length) = true := by first | simpa using c3 | (simp at c3 ⊢; omega)
  clear c3
  have H' := za H
  clear H
  go_enter Try.func32, Try.ntmps32
  go_wp2
  repeat (go_quiet (fail); try go_wp2)
  go_loopg [5] k (fun kq v5 w' => ∃ (x5_1 : Int), v5 = .int .i64 x5_1 ∧ Aside0 (awardingbodyref06_Ints.l0 kq l0 l1 x5_1 = some r) ∧ Aside0 (kq ≤ k) ∧ Drawn0 w w')
  case atStart => exact ⟨(0), (by first | rfl | (simp; done) | (simp [*]; done)), H', ⟨Nat.le_refl _⟩, by repeat (first | exact Drawn0.refl _ | apply Drawn0.step)⟩
  case round =>
   clear H'
   try clear c1
   try clear p2
   try clear c3
   try clear c3b0
   try clear c3b1
   try clear c3b2
   obtain ⟨x5_1, rfl, HA, HK1, ⟨m1, rfl⟩⟩ := hrel
   cases gk with
   | zero => exact absurd HA.out (by simp [awardingbodyref06_Ints.l0])
   | succ k1 =>
    have H := HA.out
    clear HA
    simp only [awardingbodyref06_Ints.l0] at H
    by_cases c4 : x5_1 < (l0.length : Int)
    ·rw [if_pos c4] at H
     have c4b0 : decide (x5_1 < (l0.length : Int)) = true := decide_eq_true c4
     clear c4
     by_cases c5 : 0 ≤ x5_1
     ·rw [if_pos c5] at H
      have c5b0 : decide (0 ≤ x5_1) = true := decide_eq_true c5
      clear c5
      by_cases c6 : x5_1 < (l1.length : Int)
      ·rw [if_pos c6] at H
       have c6b0 : decide (x5_1 < (l1.length : Int)) = true := decide_eq_true c6
       clear c6
       by_cases c7 : (rd l0 x5_1) = (rd l1 x5_1)
       ·rw [if_pos c7] at H
        have c7b0 : ((rd l0 x5_1) == (rd l1 x5_1)) = true := beq_iff_eq.mpr c7
        have c7b1 : ((rd l0 x5_1) != (rd l1 x5_1)) = false := bne_eq_false_iff_eq.mpr c7
        clear c7
        have H' := za H
        clear H
        have p160 : 0 ≤ (x5_1 : Int) := of_decide_eq_true (by first | (with_reducible assumption) | assumption)
        have q160 : x5_1 < (l0.length : Int) := of_decide_eq_true (by first | (with_reducible assumption) | assumption)
        obtain ⟨ad160, e160, hx160_0⟩ := Kd.at_int HR0.out x5_1 p160 q160
        cases e160
        replace p160 := eq_true p160
        replace q160 := eq_true q160
        have p161 : 0 ≤ (x5_1 : Int) := of_decide_eq_true (by first | (with_reducible assumption) | assumption)
        have q161 : x5_1 < (l1.length : Int) := of_decide_eq_true (by first | (with_reducible assumption) | assumption)
        obtain ⟨ad161, e161, hx161_0⟩ := Kd.at_int HR1.out x5_1 p161 q161
        cases e161
        replace p161 := eq_true p161
        replace q161 := eq_true q161
        go_wp2
        repeat (go_quiet (fail); try go_wp2)
        go_roundg k1
        case measure => have := HK1.out; omega
        case rel => exact ⟨(wrap64 (x5_1 + 1)), (by first | rfl | (simp; done) | (simp [*]; done)), H', ⟨by have := HK1.out; omega⟩, by repeat (first | exact Drawn0.refl _ | apply Drawn0.step)⟩
       ·rw [if_neg c7] at H
        have c7b0 : ((rd l0 x5_1) == (rd l1 x5_1)) = false := beq_eq_false_iff_ne.mpr c7
        have c7b1 : ((rd l0 x5_1) != (rd l1 x5_1)) = true := bne_iff_ne.mpr c7
        obtain rfl := Option.some.inj H
        have p160 : 0 ≤ (x5_1 : Int) := of_decide_eq_true (by first | (with_reducible assumption) | assumption)
        have q160 : x5_1 < (l0.length : Int) := of_decide_eq_true (by first | (with_reducible assumption) | assumption)
        obtain ⟨ad160, e160, hx160_0⟩ := Kd.at_int HR0.out x5_1 p160 q160
        cases e160
        replace p160 := eq_true p160
        replace q160 := eq_true q160
        have p161 : 0 ≤ (x5_1 : Int) := of_decide_eq_true (by first | (with_reducible assumption) | assumption)
        have q161 : x5_1 < (l1.length : Int) := of_decide_eq_true (by first | (with_reducible assumption) | assumption)
        obtain ⟨ad161, e161, hx161_0⟩ := Kd.at_int HR1.out x5_1 p161 q161
        cases e161
        replace p161 := eq_true p161
        replace q161 := eq_true q161
        go_wp2
        repeat (go_quiet (fail); try go_wp2)
        go_ret
        exact ⟨by first | rfl | (simp; done) | (simp [*]; done), by repeat (first | exact Drawn0.refl _ | apply Drawn0.step)⟩
      ·rw [if_neg c6] at H
       exact absurd H (by simp)
     ·rw [if_neg c5] at H
      exact absurd H (by simp)
    ·rw [if_neg c4] at H
     have c4b0 : decide (x5_1 < (l0.length : Int)) = false := decide_eq_false c4
     clear c4
     obtain rfl := Option.some.inj H
     go_wp2
     repeat (go_quiet (fail); try go_wp2)
     go_ret
     exact ⟨by first | rfl | (simp; done) | (simp [*]; done), by repeat (first | exact Drawn0.refl _ | apply Drawn0.step)⟩
 ·rw [if_neg c3] at H
  have c3b0 : ((l0.length : Int) == (l1.length : Int)) = false := beq_eq_false_iff_ne.mpr c3
  have c3b1 : ((l0.length : Int) != (l1.length : Int)) = true := bne_iff_ne.mpr c3
  have c3b2 : (l0.length == l1.length) = false := by first | simpa using c3 | (simp at c3 ⊢; omega)
  obtain rfl := Option.some.inj H
  go_enter Try.func32, Try.ntmps32
  go_wp2
  repeat (go_quiet (fail); try go_wp2)
  go_ret
  exact ⟨by first | rfl | (simp; done) | (simp [*]; done), by repeat (first | exact Drawn0.refl _ | apply Drawn0.step)⟩

end Go.Proofs.Ytdmlbgdefapcjaa.Print
