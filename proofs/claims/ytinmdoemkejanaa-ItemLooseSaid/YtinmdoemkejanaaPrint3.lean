-- Printed by a program of this session (wip/own_print.py) out of the translation; Lean checks it.
import Derived.Test.YtinmdoemkejanaaShort
import Derived.Test.YtinmdoemkejanaaPrint0
import Derived.Test.YtinmdoemkejanaaPrint2
namespace Go.Proofs.Ytinmdoemkejanaa.Print
open Go.RowKit Go.Proofs.YtinmdoemkejanaaW.PrintWords Go.Proofs.YtinmdoemkejanaaW.PrintLast Go.Proofs.YtinmdoemkejanaaW.PrintMore
attribute [local go_sem] max2_int min2_int max_two min_two max_three min_three max_four min_four   -- for this text's walks alone
set_option linter.unusedVariables false
set_option linter.unusedSimpArgs false

/-! ### item_bad: function 45 -/
def item_bad.f (k : Nat) (a0_0 : Int) (a0_1 : Int) (a0_2 : Int) (a0_3 : Int) (a0_4 : Int) (a0_5 : Int) : Option (Bool) := (item_ValidPart.f k a0_0 a0_1 a0_2 a0_3 a0_4 a0_5).bind fun t109 => (some (!t109))
theorem item_bad.mono : ∀ a0 a1 a2 a3 a4 a5 k, LeO (item_bad.f k a0 a1 a2 a3 a4 a5) (item_bad.f (k + 1) a0 a1 a2 a3 a4 a5) := by
  intro a0 a1 a2 a3 a4 a5 k
  unfold item_bad.f
  repeat' first
      | (with_reducible exact item_ValidPart.mono _ _ _ _ _ _ _)
      | (with_reducible exact LeO.refl _)
      | (with_reducible exact LeO.none _)
      | (with_reducible refine LeO.ite ?_ ?_)
      | (with_reducible refine LeO.bind ?_ (fun _ => ?_))
      | exact item_ValidPart.mono _ _ _ _ _ _ _
      | exact LeO.none _
      | refine LeO.ite ?_ ?_
      | refine LeO.bind ?_ (fun _ => ?_)
set_option maxHeartbeats 8000000 in
set_option maxRecDepth 100000 in
theorem item_bad.calls (k : Nat) (a0_0 : Int) (a0_1 : Int) (a0_2 : Int) (a0_3 : Int) (a0_4 : Int) (a0_5 : Int) (r : Bool) (w : World) (h : item_bad.f k a0_0 a0_1 a0_2 a0_3 a0_4 a0_5 = some r) :
    Calls Try.prog 45 #[.agg #[.int .i64 a0_0, .int .i64 a0_1, .int .i64 a0_2, .int .i64 a0_3, .int .i64 a0_4, .int .i64 a0_5]] w fun e w' => e = .returned (.bool r) ∧ Below w.heap.size w w' := by
 have hu23 := Try.underlying23
 have HB := za (Below.refl w.heap.size w)
 have H : ((item_ValidPart.f k a0_0 a0_1 a0_2 a0_3 a0_4 a0_5).bind fun t109 => (some (!t109))) = some r := h
 clear h
 replace H := Option.bind_eq_some_iff.mp H
 obtain ⟨t109, A20, H⟩ := H
 replace H : (some (!t109)) = some r := H
 have A2 := za A20
 clear A20
 obtain rfl := Option.some.inj H
 go_enter Try.func45, Try.ntmps45
 go_wp2_with (first | ((with_reducible refine gate_dst (N := 1) rfl ?_); refine zE 1 #[.int .i64 a0_0, .int .i64 a0_1, .int .i64 a0_2, .int .i64 a0_3, .int .i64 a0_4, .int .i64 a0_5] 23 ?_; intro gb108 hg w3 hbox hb; have BK108 := za (hbox); have GW108 := zg HB hg; have GE108 := zg HB hg; replace HB := zs HB hb; clear hb hbox hg; obtain ⟨hcz4_0, hcz4_1, hcz4_2, hcz4_3, hcz4_4, hcz4_5, hfz4_0, hfz4_1, hfz4_2, hfz4_3, hfz4_4, hfz4_5⟩ := z6 BK108) | ((with_reducible refine gate_callee (f := 12) rfl ?_); refine zL (some 4) Try.func12 #[.agg #[.int .i64 a0_0, .int .i64 a0_1, .int .i64 a0_2, .int .i64 a0_3, .int .i64 a0_4, .int .i64 a0_5]] ?_; (with_reducible refine (item_ValidPart.calls k a0_0 a0_1 a0_2 a0_3 a0_4 a0_5 t109 _ A2.out).mono ?_); rintro e w5 ⟨rfl, hb⟩; refine ⟨_, rfl, ?_⟩; replace BK108 := zb BK108 hb; replace HB := zs HB hb; (try clear hb); (try clear hb2); (try clear hk); (try clear hi)))
 go_ret
 exact ⟨zf, zm HB⟩

/-! ### item_ascending: function 46 -/
def item_ascending.l0 : Nat → List Int → Int → Int → Option (Bool)
  | 0, _, _, _ => none
  | k + 1, x0, x5, x6 => if x6 < x5 then (if x6 > 0 then (if 0 ≤ (wrap64 (x6 - 1)) then (if (wrap64 (x6 - 1)) < (x0.length : Int) then (if 0 ≤ x6 then (if x6 < (x0.length : Int) then (if (rd x0 (wrap64 (x6 - 1))) ≥ (rd x0 x6) then (some false) else (item_ascending.l0 k x0 x5 (wrap64 (x6 + 1)))) else (none)) else (none)) else (none)) else (none)) else (item_ascending.l0 k x0 x5 (wrap64 (x6 + 1)))) else (some true)
def item_ascending.f (k : Nat) (l0 : List Int) : Option (Bool) := item_ascending.l0 k l0 (l0.length : Int) 0
theorem item_ascending.mono_l : ∀ k, (∀ y0 y1 y2, LeO (item_ascending.l0 k y0 y1 y2) (item_ascending.l0 (k + 1) y0 y1 y2))
  | 0 => fun _ _ _ r h => by simp [item_ascending.l0] at h
  | k + 1 => by
    have ih0 := item_ascending.mono_l k
    · intro y0 y1 y2
      unfold item_ascending.l0
      repeat' first
      | (with_reducible exact ih0 _ _ _)
      | (with_reducible exact LeO.refl _)
      | (with_reducible exact LeO.none _)
      | (with_reducible refine LeO.ite ?_ ?_)
      | (with_reducible refine LeO.bind ?_ (fun _ => ?_))
      | exact ih0 _ _ _
      | exact LeO.none _
      | refine LeO.ite ?_ ?_
      | refine LeO.bind ?_ (fun _ => ?_)
theorem item_ascending.mono : ∀ a0 k, LeO (item_ascending.f k a0) (item_ascending.f (k + 1) a0) := by
  intro a0 k
  have ih0 := item_ascending.mono_l k
  unfold item_ascending.f
  repeat' first
      | (with_reducible exact ih0 _ _ _)
      | (with_reducible exact LeO.refl _)
      | (with_reducible exact LeO.none _)
      | (with_reducible refine LeO.ite ?_ ?_)
      | (with_reducible refine LeO.bind ?_ (fun _ => ?_))
      | exact ih0 _ _ _
      | exact LeO.none _
      | refine LeO.ite ?_ ?_
      | refine LeO.bind ?_ (fun _ => ?_)
set_option maxHeartbeats 8000000 in
set_option maxRecDepth 100000 in
theorem item_ascending.calls (k : Nat) (A0 : Option Addr) (c0 : Nat) (l0 : List Int) (r : Bool) (w : World) (hr0 : Kd.C (Kd.int .i64) w A0 l0.length l0) (hc0 : l0.length ≤ c0) (h : item_ascending.f k l0 = some r) :
    Calls Try.prog 46 #[.slice A0 l0.length c0] w fun e w' => e = .returned (.bool r) ∧ Drawn0 w w' := by
 have HR0 := za hr0
 have HC0 := za hc0
 clear hr0 hc0
 have H : (item_ascending.l0 k l0 (l0.length : Int) 0) = some r := h
 clear h
 have H' := za H
 clear H
 go_enter Try.func46, Try.ntmps46
 go_wp2
 repeat (go_quiet (fail); try go_wp2)
 go_loopg [6] k (fun kq v6 w' => ∃ (x6_1 : Int), v6 = .int .i64 x6_1 ∧ Aside0 (item_ascending.l0 kq l0 (l0.length : Int) x6_1 = some r) ∧ Aside0 (kq ≤ k) ∧ Drawn0 w w')
 case atStart => exact ⟨(0), (by first | rfl | (simp; done) | (simp [*]; done)), H', ⟨Nat.le_refl _⟩, by repeat (first | exact Drawn0.refl _ | apply Drawn0.step)⟩
 case round =>
  clear H'
  obtain ⟨x6_1, rfl, HA, HK1, ⟨m1, rfl⟩⟩ := hrel
  cases gk with
  | zero => exact absurd HA.out (by simp [item_ascending.l0])
  | succ k1 =>
   have H := HA.out
   clear HA
   simp only [item_ascending.l0] at H
   by_cases c2 : x6_1 < (l0.length : Int)
   ·rw [if_pos c2] at H
    have c2b0 : decide (x6_1 < (l0.length : Int)) = true := decide_eq_true c2
    clear c2
    by_cases c3 : x6_1 > 0
    ·rw [if_pos c3] at H
     have c3b0 : decide (0 < x6_1) = true := decide_eq_true c3
     clear c3
     obtain ⟨ji4, hji4⟩ : ∃ j_ : Int, (wrap64 (x6_1 - 1)) = j_ := ⟨_, rfl⟩
     replace H : (if 0 ≤ (ji4) then (if (ji4) < (l0.length : Int) then (if 0 ≤ x6_1 then (if x6_1 < (l0.length : Int) then (if (rd l0 (ji4)) ≥ (rd l0 x6_1) then (some false) else (item_ascending.l0 k1 l0 (l0.length : Int) (wrap64 (x6_1 + 1)))) else (none)) else (none)) else (none)) else (none)) = some r := by first | (rw [hji4] at H; exact H) | (simp only [hji4] at H ⊢; exact H)
     have hji4w : (IntKind.i64.wrap (x6_1 - 1)) = ji4 := (i64_w _).trans hji4
     by_cases c5 : 0 ≤ (ji4)
     ·rw [if_pos c5] at H
      have c5b0 : decide (0 ≤ (ji4)) = true := decide_eq_true c5
      clear c5
      by_cases c6 : (ji4) < (l0.length : Int)
      ·rw [if_pos c6] at H
       have c6b0 : decide ((ji4) < (l0.length : Int)) = true := decide_eq_true c6
       clear c6
       by_cases c7 : 0 ≤ x6_1
       ·rw [if_pos c7] at H
        have c7b0 : decide (0 ≤ x6_1) = true := decide_eq_true c7
        clear c7
        by_cases c8 : x6_1 < (l0.length : Int)
        ·rw [if_pos c8] at H
         have c8b0 : decide (x6_1 < (l0.length : Int)) = true := decide_eq_true c8
         clear c8
         by_cases c9 : (rd l0 (ji4)) ≥ (rd l0 x6_1)
         ·rw [if_pos c9] at H
          have c9b0 : decide ((rd l0 x6_1) ≤ (rd l0 (ji4))) = true := decide_eq_true c9
          clear c9
          obtain rfl := Option.some.inj H
          have p110 : 0 ≤ ((ji4) : Int) := of_decide_eq_true (by first | (with_reducible assumption) | assumption)
          have q110 : (ji4) < (l0.length : Int) := of_decide_eq_true (by first | (with_reducible assumption) | assumption)
          obtain ⟨ad110, e110, hx110_0⟩ := Kd.at_int HR0.out (ji4) p110 q110
          cases e110
          replace p110 := eq_true p110
          replace q110 := eq_true q110
          have p111 : 0 ≤ (x6_1 : Int) := of_decide_eq_true (by first | (with_reducible assumption) | assumption)
          have q111 : x6_1 < (l0.length : Int) := of_decide_eq_true (by first | (with_reducible assumption) | assumption)
          obtain ⟨ad111, e111, hx111_0⟩ := Kd.at_int HR0.out x6_1 p111 q111
          obtain rfl : ad110 = ad111 := (by injection e111)
          replace p111 := eq_true p111
          replace q111 := eq_true q111
          go_wp2
          repeat (go_quiet (fail); try go_wp2)
          go_ret
          exact ⟨by first | rfl | (simp; done) | (simp only [← hji4] <;> (first | rfl | simp)) | (simp [*]; done), by repeat (first | exact Drawn0.refl _ | apply Drawn0.step)⟩
         ·rw [if_neg c9] at H
          have c9b0 : decide ((rd l0 x6_1) ≤ (rd l0 (ji4))) = false := decide_eq_false c9
          clear c9
          have H' := za H
          clear H
          have p110 : 0 ≤ ((ji4) : Int) := of_decide_eq_true (by first | (with_reducible assumption) | assumption)
          have q110 : (ji4) < (l0.length : Int) := of_decide_eq_true (by first | (with_reducible assumption) | assumption)
          obtain ⟨ad110, e110, hx110_0⟩ := Kd.at_int HR0.out (ji4) p110 q110
          cases e110
          replace p110 := eq_true p110
          replace q110 := eq_true q110
          have p111 : 0 ≤ (x6_1 : Int) := of_decide_eq_true (by first | (with_reducible assumption) | assumption)
          have q111 : x6_1 < (l0.length : Int) := of_decide_eq_true (by first | (with_reducible assumption) | assumption)
          obtain ⟨ad111, e111, hx111_0⟩ := Kd.at_int HR0.out x6_1 p111 q111
          obtain rfl : ad110 = ad111 := (by injection e111)
          replace p111 := eq_true p111
          replace q111 := eq_true q111
          go_wp2
          repeat (go_quiet (fail); try go_wp2)
          go_roundg k1
          case measure => have := HK1.out; omega
          case rel => exact ⟨(wrap64 (x6_1 + 1)), (by first | rfl | (simp; done) | (simp [*]; done)), H', ⟨by have := HK1.out; omega⟩, by repeat (first | exact Drawn0.refl _ | apply Drawn0.step)⟩
        ·rw [if_neg c8] at H
         exact absurd H (by simp)
       ·rw [if_neg c7] at H
        exact absurd H (by simp)
      ·rw [if_neg c6] at H
       exact absurd H (by simp)
     ·rw [if_neg c5] at H
      exact absurd H (by simp)
    ·rw [if_neg c3] at H
     have c3b0 : decide (0 < x6_1) = false := decide_eq_false c3
     clear c3
     have H' := za H
     clear H
     go_wp2
     repeat (go_quiet (fail); try go_wp2)
     go_roundg k1
     case measure => have := HK1.out; omega
     case rel => exact ⟨(wrap64 (x6_1 + 1)), (by first | rfl | (simp; done) | (simp [*]; done)), H', ⟨by have := HK1.out; omega⟩, by repeat (first | exact Drawn0.refl _ | apply Drawn0.step)⟩
   ·rw [if_neg c2] at H
    have c2b0 : decide (x6_1 < (l0.length : Int)) = false := decide_eq_false c2
    clear c2
    obtain rfl := Option.some.inj H
    go_wp2
    repeat (go_quiet (fail); try go_wp2)
    go_ret
    exact ⟨by first | rfl | (simp; done) | (simp [*]; done), by repeat (first | exact Drawn0.refl _ | apply Drawn0.step)⟩

-- NOT PRINTED: function 55 (slices_IndexFunc_int_int)

-- NOT PRINTED: function 47 (slices_ContainsFunc_int_int)

/-! ### item_Check_2: function 48 (a closure: the item lies in block gq_) -/
def item_Check_2.f (a0 : Int) (a1_0 : Int) : Option Bool := (item_in.f a0 0 9999).bind fun t => (if t = true then (some (a0 == a1_0)) else (some true))
set_option maxHeartbeats 8000000 in
set_option maxRecDepth 100000 in
theorem item_Check_2.calls (a0 : Int) (a1_0 : Int) (r : Bool) (w : World) (h : item_Check_2.f a0 a1_0 = some r) {gq_ : Nat} (hq_ : Aside0 (w.cell? ⟨gq_, 0, none⟩ = some (.int .i64 a1_0))) :
    Calls Try.prog 48 #[.int .i64 a0, .pointer (some ⟨gq_, 0, none⟩)] w fun e w' => e = .returned (.bool r) ∧ Below w.heap.size w w' := by
  have H : ((item_in.f a0 0 9999).bind fun t => (if t = true then (some (a0 == a1_0)) else (some true))) = some r := h
  clear h
  replace H := Option.bind_eq_some_iff.mp H
  obtain ⟨t1, A10, H⟩ := H
  have A1 := za A10
  clear A10
  have hc1 := hq_.out
  clear hq_
  by_cases c4 : t1 = true
  · subst c4
    have H1 : (some (a0 == a1_0)) = some r := by rw [if_pos rfl] at H; exact H
    clear H
    obtain rfl := Option.some.inj H1
    clear H1
    go_enter Try.func48, Try.ntmps48
    go_wp2_with (first | (go_at_call 36; (with_reducible refine (item_in.calls a0 0 9999 true _ A1.out).mono ?_); rintro e w' ⟨rfl, ⟨nd, rfl⟩⟩))
    go_ret
    exact ⟨by first | rfl | (simp; done) | (simp [*]; done), by repeat (first | exact Below.refl _ _ | apply pw_below_drewN | apply below_drew1)⟩
  · replace c4 := Bool.eq_false_iff.mpr c4
    subst c4
    have H1 : (some true) = some r := by rw [if_neg (show ¬ (false = true) by decide)] at H; exact H
    clear H
    obtain rfl := Option.some.inj H1
    clear H1
    go_enter Try.func48, Try.ntmps48
    go_wp2_with (first | (go_at_call 36; (with_reducible refine (item_in.calls a0 0 9999 false _ A1.out).mono ?_); rintro e w' ⟨rfl, ⟨nd, rfl⟩⟩))
    go_ret
    exact ⟨by first | rfl | (simp; done) | (simp [*]; done), by repeat (first | exact Below.refl _ _ | apply pw_below_drewN | apply below_drew1)⟩

/-! ### slices_IndexFunc_byte_byte_Check_1_s53: function 53 -/
def slices_IndexFunc_byte_byte_Check_1_s53.l0 : Nat → List Int → Int → Int → Option (Int)
  | 0, _, _, _ => none
  | k + 1, x0, x7, x8 => if x8 < x7 then (if 0 ≤ x8 then (if x8 < (x0.length : Int) then ((item_Check_1.f (rd x0 x8)).bind fun t113 => (if t113 = true then (some x8) else (slices_IndexFunc_byte_byte_Check_1_s53.l0 k x0 x7 (wrap64 (x8 + 1))))) else (none)) else (none)) else (some (-1))
def slices_IndexFunc_byte_byte_Check_1_s53.f (k : Nat) (l0 : List Int)  : Option (Int) := slices_IndexFunc_byte_byte_Check_1_s53.l0 k l0 (l0.length : Int) 0
theorem slices_IndexFunc_byte_byte_Check_1_s53.mono_l : ∀ k, (∀ y0 y1 y2, LeO (slices_IndexFunc_byte_byte_Check_1_s53.l0 k y0 y1 y2) (slices_IndexFunc_byte_byte_Check_1_s53.l0 (k + 1) y0 y1 y2))
  | 0 => fun _ _ _ r h => by simp [slices_IndexFunc_byte_byte_Check_1_s53.l0] at h
  | k + 1 => by
    have ih0 := slices_IndexFunc_byte_byte_Check_1_s53.mono_l k
    · intro y0 y1 y2
      unfold slices_IndexFunc_byte_byte_Check_1_s53.l0
      repeat' first
      | (with_reducible exact ih0 _ _ _)
      | (with_reducible exact LeO.refl _)
      | (with_reducible exact LeO.none _)
      | (with_reducible refine LeO.ite ?_ ?_)
      | (with_reducible refine LeO.bind ?_ (fun _ => ?_))
      | exact ih0 _ _ _
      | exact LeO.none _
      | refine LeO.ite ?_ ?_
      | refine LeO.bind ?_ (fun _ => ?_)
theorem slices_IndexFunc_byte_byte_Check_1_s53.mono : ∀ a0 k, LeO (slices_IndexFunc_byte_byte_Check_1_s53.f k a0) (slices_IndexFunc_byte_byte_Check_1_s53.f (k + 1) a0) := by
  intro a0 k
  have ih0 := slices_IndexFunc_byte_byte_Check_1_s53.mono_l k
  unfold slices_IndexFunc_byte_byte_Check_1_s53.f
  repeat' first
      | (with_reducible exact ih0 _ _ _)
      | (with_reducible exact LeO.refl _)
      | (with_reducible exact LeO.none _)
      | (with_reducible refine LeO.ite ?_ ?_)
      | (with_reducible refine LeO.bind ?_ (fun _ => ?_))
      | exact ih0 _ _ _
      | exact LeO.none _
      | refine LeO.ite ?_ ?_
      | refine LeO.bind ?_ (fun _ => ?_)
set_option maxHeartbeats 8000000 in
set_option maxRecDepth 100000 in
theorem slices_IndexFunc_byte_byte_Check_1_s53.calls (k : Nat) (A0 : Option Addr) (c0 : Nat) (l0 : List Int)  (r : Int) (w : World) (hr0 : Kd.C (Kd.int .u8) w A0 l0.length l0) (hc0 : l0.length ≤ c0) (h : slices_IndexFunc_byte_byte_Check_1_s53.f k l0 = some r) :
    Calls Try.prog 53 #[.slice A0 l0.length c0, .func (.func 43) #[] #[]] w fun e w' => e = .returned (.int .i64 r) ∧ Drawn0 w w' := by
 have HR0 := za hr0
 have HC0 := za hc0
 clear hr0 hc0
 have H : (slices_IndexFunc_byte_byte_Check_1_s53.l0 k l0 (l0.length : Int) 0) = some r := h
 clear h
 have H' := za H
 clear H
 go_enter Try.func53, Try.ntmps53
 go_wp2
 go_loopg [8] k (fun kq v8 w' => ∃ (x8_1 : Int), v8 = .int .i64 x8_1 ∧ Aside0 (slices_IndexFunc_byte_byte_Check_1_s53.l0 kq l0 (l0.length : Int) x8_1 = some r) ∧ Aside0 (kq ≤ k) ∧ Drawn0 w w')
 case atStart => exact ⟨(0), (by first | rfl | (simp; done) | (simp [*]; done)), H', ⟨Nat.le_refl _⟩, by repeat (first | exact Drawn0.refl _ | apply Drawn0.step)⟩
 case round =>
  clear H'
  try clear p2
  obtain ⟨x8_1, rfl, HA, HK1, ⟨m1, rfl⟩⟩ := hrel
  cases gk with
  | zero => exact absurd HA.out (by simp [slices_IndexFunc_byte_byte_Check_1_s53.l0])
  | succ k1 =>
   have H := HA.out
   clear HA
   simp only [slices_IndexFunc_byte_byte_Check_1_s53.l0] at H
   by_cases c3 : x8_1 < (l0.length : Int)
   ·rw [if_pos c3] at H
    have c3b0 : decide (x8_1 < (l0.length : Int)) = true := decide_eq_true c3
    clear c3
    by_cases c4 : 0 ≤ x8_1
    ·rw [if_pos c4] at H
     have c4b0 : decide (0 ≤ x8_1) = true := decide_eq_true c4
     clear c4
     by_cases c5 : x8_1 < (l0.length : Int)
     ·rw [if_pos c5] at H
      have c5b0 : decide (x8_1 < (l0.length : Int)) = true := decide_eq_true c5
      clear c5
      replace H := Option.bind_eq_some_iff.mp H
      obtain ⟨t113, A60, H⟩ := H
      replace H : (if t113 = true then (some x8_1) else (slices_IndexFunc_byte_byte_Check_1_s53.l0 k1 l0 (l0.length : Int) (wrap64 (x8_1 + 1)))) = some r := H
      have A6 := za A60
      clear A60
      by_cases c7 : t113 = true
      ·subst c7
       have H1 : (some x8_1) = some r := by rw [if_pos rfl] at H; exact H
       clear H
       have H := H1
       clear H1
       obtain rfl := Option.some.inj H
       have p112 : 0 ≤ (x8_1 : Int) := of_decide_eq_true (by first | (with_reducible assumption) | assumption)
       have q112 : x8_1 < (l0.length : Int) := of_decide_eq_true (by first | (with_reducible assumption) | assumption)
       obtain ⟨ad112, e112, hx112_0⟩ := Kd.at_int HR0.out x8_1 p112 q112
       cases e112
       replace p112 := eq_true p112
       replace q112 := eq_true q112
       go_wp2_with (first | (go_at_call 43; (with_reducible refine (item_Check_1.calls (rd l0 x8_1) true _ A6.out).mono ?_); rintro e w' ⟨rfl, ⟨nd, rfl⟩⟩))
       go_ret
       exact ⟨by first | rfl | (simp; done) | (simp [*]; done), by repeat (first | exact Drawn0.refl _ | apply Drawn0.step)⟩
      ·replace c7 := Bool.eq_false_iff.mpr c7
       subst c7
       have H1 : (slices_IndexFunc_byte_byte_Check_1_s53.l0 k1 l0 (l0.length : Int) (wrap64 (x8_1 + 1))) = some r := by rw [if_neg (show ¬ (false = true) by decide)] at H; exact H
       clear H
       have H := H1
       clear H1
       have H' := za H
       clear H
       have p112 : 0 ≤ (x8_1 : Int) := of_decide_eq_true (by first | (with_reducible assumption) | assumption)
       have q112 : x8_1 < (l0.length : Int) := of_decide_eq_true (by first | (with_reducible assumption) | assumption)
       obtain ⟨ad112, e112, hx112_0⟩ := Kd.at_int HR0.out x8_1 p112 q112
       cases e112
       replace p112 := eq_true p112
       replace q112 := eq_true q112
       go_wp2_with (first | (go_at_call 43; (with_reducible refine (item_Check_1.calls (rd l0 x8_1) false _ A6.out).mono ?_); rintro e w' ⟨rfl, ⟨nd, rfl⟩⟩))
       go_roundg k1
       case measure => have := HK1.out; omega
       case rel => exact ⟨(wrap64 (x8_1 + 1)), (by first | rfl | (simp; done) | (simp [*]; done)), H', ⟨by have := HK1.out; omega⟩, by repeat (first | exact Drawn0.refl _ | apply Drawn0.step)⟩
     ·rw [if_neg c5] at H
      exact absurd H (by simp)
    ·rw [if_neg c4] at H
     exact absurd H (by simp)
   ·rw [if_neg c3] at H
    have c3b0 : decide (x8_1 < (l0.length : Int)) = false := decide_eq_false c3
    clear c3
    obtain rfl := Option.some.inj H
    go_wp2
    go_ret
    exact ⟨by first | rfl | (simp; done) | (simp [*]; done), by repeat (first | exact Drawn0.refl _ | apply Drawn0.step)⟩

/-! ### slices_ContainsFunc_byte_byte_Check_1_s42: function 42 -/
def slices_ContainsFunc_byte_byte_Check_1_s42.f (k : Nat) (l0 : List Int)  : Option (Bool) := (slices_IndexFunc_byte_byte_Check_1_s53.f k l0).bind fun t114 => (some (decide (t114 ≥ 0)))
theorem slices_ContainsFunc_byte_byte_Check_1_s42.mono : ∀ a0 k, LeO (slices_ContainsFunc_byte_byte_Check_1_s42.f k a0) (slices_ContainsFunc_byte_byte_Check_1_s42.f (k + 1) a0) := by
  intro a0 k
  unfold slices_ContainsFunc_byte_byte_Check_1_s42.f
  repeat' first
      | (with_reducible exact slices_IndexFunc_byte_byte_Check_1_s53.mono _ _)
      | (with_reducible exact LeO.refl _)
      | (with_reducible exact LeO.none _)
      | (with_reducible refine LeO.ite ?_ ?_)
      | (with_reducible refine LeO.bind ?_ (fun _ => ?_))
      | exact slices_IndexFunc_byte_byte_Check_1_s53.mono _ _
      | exact LeO.none _
      | refine LeO.ite ?_ ?_
      | refine LeO.bind ?_ (fun _ => ?_)
set_option maxHeartbeats 8000000 in
set_option maxRecDepth 100000 in
theorem slices_ContainsFunc_byte_byte_Check_1_s42.calls (k : Nat) (A0 : Option Addr) (c0 : Nat) (l0 : List Int)  (r : Bool) (w : World) (hr0 : Kd.C (Kd.int .u8) w A0 l0.length l0) (hc0 : l0.length ≤ c0) (h : slices_ContainsFunc_byte_byte_Check_1_s42.f k l0 = some r) :
    Calls Try.prog 42 #[.slice A0 l0.length c0, .func (.func 43) #[] #[]] w fun e w' => e = .returned (.bool r) ∧ Drawn0 w w' := by
 have HR0 := za hr0
 have HC0 := za hc0
 clear hr0 hc0
 have H : ((slices_IndexFunc_byte_byte_Check_1_s53.f k l0).bind fun t114 => (some (decide (t114 ≥ 0)))) = some r := h
 clear h
 replace H := Option.bind_eq_some_iff.mp H
 obtain ⟨t114, A30, H⟩ := H
 replace H : (some (decide (t114 ≥ 0))) = some r := H
 have A3 := za A30
 clear A30
 obtain rfl := Option.some.inj H
 go_enter Try.func42, Try.ntmps42
 go_wp2_with (first | (go_at_call 53; (with_reducible refine (slices_IndexFunc_byte_byte_Check_1_s53.calls k _ _ l0 t114 _ ?side1 ?side2 A3.out).mono ?_); (case side1 => repeat (first | exact HR0.out | (with_reducible refine Kd.C_alloc ?_ _) | (with_reducible refine Kd.C_drewN ?_ _) | (with_reducible refine Kd.C_drew ?_))); (case side2 => exact HC0.out); rintro e w' ⟨rfl, ⟨nd, rfl⟩⟩))
 go_ret
 exact ⟨by first | rfl | (simp; done) | (simp [*]; done), by repeat (first | exact Drawn0.refl _ | apply Drawn0.step)⟩

/-! ### contains_in_string: []byte(s) is made and handed to function 42 -/
def contains_in_string.f (k : Nat) (a0 : ByteArray) : Option Bool := if a0.size < 140737488355328 then slices_ContainsFunc_byte_byte_Check_1_s42.f k (bytesOf a0) else none
theorem contains_in_string.mono : ∀ a0 k, LeO (contains_in_string.f k a0) (contains_in_string.f (k + 1) a0) := by
  intro a0 k
  unfold contains_in_string.f
  exact LeO.ite (slices_ContainsFunc_byte_byte_Check_1_s42.mono _ _) (LeO.none _)
/-- A string is made into bytes, and function f is called with them and with fv. -/
def ConvCalls (P : Program) (src dst : TypeId) (f : FuncId) (fv : Value) (s : ByteArray) (w : World) (post : Ending → World → Prop) : Prop :=
  ∃ A n c w1, (convert src dst (.string s)).run P w = .ok (.slice A n c) w1 ∧ Calls P f #[.slice A n c, fv] w1 post
theorem ConvCalls.mono {P : Program} {src dst : TypeId} {f : FuncId} {fv : Value} {s : ByteArray} {w : World} {p q : Ending → World → Prop} (h : ConvCalls P src dst f fv s w p) (hq : ∀ e w', p e w' → q e w') : ConvCalls P src dst f fv s w q := by
  obtain ⟨A, n, c, w1, h1, h2⟩ := h
  exact ⟨A, n, c, w1, h1, h2.mono hq⟩
theorem conv_step {P : Program} {ops : Array Oper} {rest : List Oper} {o1 o2 : Oper} {a : Act} {Q : Exit → Act → World → Prop} {w : World} {src dst : TypeId} {f g : FuncId} {fn : Func} {ts : Array TypeId} {x : Operand} {s : ByteArray} (N : Tmp)
    (hd : o1.dst = some N) (hg : o1.guard = none) (hx : a.eval x = .string s) (ho1 : o1.op = .convert src dst x) (ho2 : o2.op = .call { callee := .value (.func f), args := #[.tmp N, .func g], argTypes := ts })
    (he : ∀ v, (a.put (some N) v).eval (.tmp N) = v) (hw : ∀ v, Region.wanted o2 (yielded ops (a.put (some N) v).tmps) = true) (hf : P.funcs[f]? = some fn) (hname : (fn.name == "runtime.NumGoroutine") = false) (hb : fn.body.isSome = true)
    (h : ConvCalls P src dst f (.func (.func g) #[] #[]) s w fun e w' => ∃ v, e = .returned v ∧ ∀ u, wpList P ops Q rest ((a.put (some N) u).put o2.dst v) w') : wpList P ops Q (o1 :: o2 :: rest) a w := by
  obtain ⟨A, n, c, w1, hc, hcall⟩ := h
  refine Kd.event_run hg (v := .slice A n c) (w1 := w1) ?_ ?_
  · unfold execOp
    simp [ho1, hx, hc, Result.andThen]
  · rw [hd]
    refine gate_guard (hw _) ?_
    refine goesL_ _ rfl rfl hf hname hb #[.slice A n c, .func (.func g) #[] #[]] ho2 ?_ (hcall.mono fun e w' hh => ?_)
    · simp only [List.map_toArray, List.map_cons, List.map_nil, he]
      rfl
    · obtain ⟨v, rfl, hk⟩ := hh
      exact ⟨v, rfl, hk _⟩
theorem contains_in_string.calls (k : Nat) (a0 : ByteArray) (r : Bool) (w : World) (h : contains_in_string.f k a0 = some r) :
    ConvCalls Try.prog 9 61 42 (.func (.func 43) #[] #[]) a0 w fun e w' => e = .returned (.bool r) ∧ Below w.heap.size w w' := by
  unfold contains_in_string.f at h
  by_cases hs : a0.size < 140737488355328
  · rw [if_pos hs] at h
    refine ⟨_, _, _, _, print_bytes (P := Try.prog) 9 61 5 Try.underlying9 Try.underlying61 Try.underlying5 a0 w, ?_⟩
    have hr := bytes_reads w 5 a0 (by omega)
    have hcap : (bytesOf a0).length ≤ grownCap w a0.size 0 5 := by rw [bytesOf_length]; exact grownCap_ge w a0.size 0 5
    have hb : Below w.heap.size w (Lib.bytesWorld w 5 a0) := bytes_below (Below.refl _ _) (Nat.le_refl _) 5 a0
    have hl := bytesOf_length a0
    rw [← hl] at hr hcap ⊢
    exact (slices_ContainsFunc_byte_byte_Check_1_s42.calls k _ _ (bytesOf a0) r _ (Kd.C_of_reads (d := (0 : Int)) (h1 := fun _ => rfl) hr) hcap h).mono (fun e w' hh => ⟨hh.1, below_then hb hb.size hh.2.below⟩)
  · rw [if_neg hs] at h
    cases h

-- (the same over a string stands above)
/-! ### api_Part_bad_s54: function 54 -/
def api_Part_bad_s54.l0 : Nat → List (S23) → Int → Int → Option (Int)
  | 0, _, _, _ => none
  | k + 1, x0, x7, x8 => if x8 < x7 then (if 0 ≤ x8 then (if x8 < (x0.length : Int) then ((item_bad.f k ((rd_T23 x0 x8).f0) ((rd_T23 x0 x8).f1) ((rd_T23 x0 x8).f2) ((rd_T23 x0 x8).f3) ((rd_T23 x0 x8).f4) ((rd_T23 x0 x8).f5)).bind fun t116 => (if t116 = true then (some x8) else (api_Part_bad_s54.l0 k x0 x7 (wrap64 (x8 + 1))))) else (none)) else (none)) else (some (-1))
def api_Part_bad_s54.f (k : Nat) (l0 : List (S23))  : Option (Int) := api_Part_bad_s54.l0 k l0 (l0.length : Int) 0
theorem api_Part_bad_s54.mono_l : ∀ k, (∀ y0 y1 y2, LeO (api_Part_bad_s54.l0 k y0 y1 y2) (api_Part_bad_s54.l0 (k + 1) y0 y1 y2))
  | 0 => fun _ _ _ r h => by simp [api_Part_bad_s54.l0] at h
  | k + 1 => by
    have ih0 := api_Part_bad_s54.mono_l k
    · intro y0 y1 y2
      unfold api_Part_bad_s54.l0
      repeat' first
      | (with_reducible exact ih0 _ _ _)
      | (with_reducible exact item_bad.mono _ _ _ _ _ _ _)
      | (with_reducible exact LeO.refl _)
      | (with_reducible exact LeO.none _)
      | (with_reducible refine LeO.ite ?_ ?_)
      | (with_reducible refine LeO.bind ?_ (fun _ => ?_))
      | exact ih0 _ _ _
      | exact item_bad.mono _ _ _ _ _ _ _
      | exact LeO.none _
      | refine LeO.ite ?_ ?_
      | refine LeO.bind ?_ (fun _ => ?_)
theorem api_Part_bad_s54.mono : ∀ a0 k, LeO (api_Part_bad_s54.f k a0) (api_Part_bad_s54.f (k + 1) a0) := by
  intro a0 k
  have ih0 := api_Part_bad_s54.mono_l k
  unfold api_Part_bad_s54.f
  repeat' first
      | (with_reducible exact ih0 _ _ _)
      | (with_reducible exact item_bad.mono _ _ _ _ _ _ _)
      | (with_reducible exact LeO.refl _)
      | (with_reducible exact LeO.none _)
      | (with_reducible refine LeO.ite ?_ ?_)
      | (with_reducible refine LeO.bind ?_ (fun _ => ?_))
      | exact ih0 _ _ _
      | exact item_bad.mono _ _ _ _ _ _ _
      | exact LeO.none _
      | refine LeO.ite ?_ ?_
      | refine LeO.bind ?_ (fun _ => ?_)
set_option maxHeartbeats 8000000 in
set_option maxRecDepth 100000 in
theorem api_Part_bad_s54.calls (k : Nat) (A0 : Option Addr) (c0 : Nat) (l0 : List (S23))  (r : Int) (w : World) (hr0 : Kd.C k23 w A0 l0.length l0) (hc0 : l0.length ≤ c0) (h : api_Part_bad_s54.f k l0 = some r) :
    Calls Try.prog 54 #[.slice A0 l0.length c0, .func (.func 45) #[] #[]] w fun e w' => e = .returned (.int .i64 r) ∧ Below w.heap.size w w' := by
 have hu23 := Try.underlying23
 have HR0 := za hr0
 have HC0 := za hc0
 clear hr0 hc0
 have HB := za (Below.refl w.heap.size w)
 have H : (api_Part_bad_s54.l0 k l0 (l0.length : Int) 0) = some r := h
 clear h
 have H' := za H
 clear H
 go_enter Try.func54, Try.ntmps54
 go_wp2
 go_loopg [8] k (fun kq v8 w' => ∃ (x8_1 : Int), v8 = .int .i64 x8_1 ∧ Aside0 (api_Part_bad_s54.l0 kq l0 (l0.length : Int) x8_1 = some r) ∧ Aside0 (kq ≤ k) ∧ Aside0 (Below w.heap.size w w'))
 case atStart => exact ⟨(0), (by first | rfl | (simp; done) | (simp [*]; done)), H', ⟨Nat.le_refl _⟩, ⟨zm HB⟩⟩
 case round =>
  clear H'
  try clear p2
  obtain ⟨x8_1, rfl, HA, HK1, HB⟩ := hrel
  cases gk with
  | zero => exact absurd HA.out (by simp [api_Part_bad_s54.l0])
  | succ k1 =>
   have H := HA.out
   clear HA
   simp only [api_Part_bad_s54.l0] at H
   by_cases c3 : x8_1 < (l0.length : Int)
   ·rw [if_pos c3] at H
    have c3b0 : decide (x8_1 < (l0.length : Int)) = true := decide_eq_true c3
    clear c3
    by_cases c4 : 0 ≤ x8_1
    ·rw [if_pos c4] at H
     have c4b0 : decide (0 ≤ x8_1) = true := decide_eq_true c4
     clear c4
     by_cases c5 : x8_1 < (l0.length : Int)
     ·rw [if_pos c5] at H
      have c5b0 : decide (x8_1 < (l0.length : Int)) = true := decide_eq_true c5
      clear c5
      replace H := Option.bind_eq_some_iff.mp H
      obtain ⟨t116, A60, H⟩ := H
      replace H : (if t116 = true then (some x8_1) else (api_Part_bad_s54.l0 k1 l0 (l0.length : Int) (wrap64 (x8_1 + 1)))) = some r := H
      have A6 := za A60
      clear A60
      by_cases c7 : t116 = true
      ·subst c7
       have H1 : (some x8_1) = some r := by rw [if_pos rfl] at H; exact H
       clear H
       have H := H1
       clear H1
       obtain rfl := Option.some.inj H
       have p115 : 0 ≤ (x8_1 : Int) := of_decide_eq_true (by first | (with_reducible assumption) | assumption)
       have q115 : x8_1 < (l0.length : Int) := of_decide_eq_true (by first | (with_reducible assumption) | assumption)
       obtain ⟨ad115, e115, hx115_0, hx115_1, hx115_2, hx115_3, hx115_4, hx115_5⟩ := at_T23 HR0.out x8_1 p115 q115
       cases e115
       replace hx115_0 := zx HB hx115_0
       replace hx115_1 := zx HB hx115_1
       replace hx115_2 := zx HB hx115_2
       replace hx115_3 := zx HB hx115_3
       replace hx115_4 := zx HB hx115_4
       replace hx115_5 := zx HB hx115_5
       replace p115 := eq_true p115
       replace q115 := eq_true q115
       go_wp2_with (first | (go_at_call 45; (with_reducible refine (item_bad.calls k1 ((rd_T23 l0 x8_1).f0) ((rd_T23 l0 x8_1).f1) ((rd_T23 l0 x8_1).f2) ((rd_T23 l0 x8_1).f3) ((rd_T23 l0 x8_1).f4) ((rd_T23 l0 x8_1).f5) true _ A6.out).mono ?_); rintro e w8 ⟨rfl, hb⟩; replace HB := zs HB hb; (try clear hb); (try clear hb2); (try clear hk); (try clear hi)))
       go_ret
       exact ⟨zf, zm HB⟩
      ·replace c7 := Bool.eq_false_iff.mpr c7
       subst c7
       have H1 : (api_Part_bad_s54.l0 k1 l0 (l0.length : Int) (wrap64 (x8_1 + 1))) = some r := by rw [if_neg (show ¬ (false = true) by decide)] at H; exact H
       clear H
       have H := H1
       clear H1
       have H' := za H
       clear H
       have p115 : 0 ≤ (x8_1 : Int) := of_decide_eq_true (by first | (with_reducible assumption) | assumption)
       have q115 : x8_1 < (l0.length : Int) := of_decide_eq_true (by first | (with_reducible assumption) | assumption)
       obtain ⟨ad115, e115, hx115_0, hx115_1, hx115_2, hx115_3, hx115_4, hx115_5⟩ := at_T23 HR0.out x8_1 p115 q115
       cases e115
       replace hx115_0 := zx HB hx115_0
       replace hx115_1 := zx HB hx115_1
       replace hx115_2 := zx HB hx115_2
       replace hx115_3 := zx HB hx115_3
       replace hx115_4 := zx HB hx115_4
       replace hx115_5 := zx HB hx115_5
       replace p115 := eq_true p115
       replace q115 := eq_true q115
       go_wp2_with (first | (go_at_call 45; (with_reducible refine (item_bad.calls k1 ((rd_T23 l0 x8_1).f0) ((rd_T23 l0 x8_1).f1) ((rd_T23 l0 x8_1).f2) ((rd_T23 l0 x8_1).f3) ((rd_T23 l0 x8_1).f4) ((rd_T23 l0 x8_1).f5) false _ A6.out).mono ?_); rintro e w9 ⟨rfl, hb⟩; replace HB := zs HB hb; (try clear hb); (try clear hb2); (try clear hk); (try clear hi)))
       go_roundg k1
       case measure => have := HK1.out; omega
       case rel => exact ⟨(wrap64 (x8_1 + 1)), (by first | rfl | (simp; done) | (simp [*]; done)), H', ⟨by have := HK1.out; omega⟩, ⟨zm HB⟩⟩
     ·rw [if_neg c5] at H
      exact absurd H (by simp)
    ·rw [if_neg c4] at H
     exact absurd H (by simp)
   ·rw [if_neg c3] at H
    have c3b0 : decide (x8_1 < (l0.length : Int)) = false := decide_eq_false c3
    clear c3
    obtain rfl := Option.some.inj H
    go_wp2
    go_ret
    exact ⟨zf, zm HB⟩

/-! ### api_Part_bad_s44: function 44 -/
def api_Part_bad_s44.f (k : Nat) (l0 : List (S23))  : Option (Bool) := (api_Part_bad_s54.f k l0).bind fun t117 => (some (decide (t117 ≥ 0)))
theorem api_Part_bad_s44.mono : ∀ a0 k, LeO (api_Part_bad_s44.f k a0) (api_Part_bad_s44.f (k + 1) a0) := by
  intro a0 k
  unfold api_Part_bad_s44.f
  repeat' first
      | (with_reducible exact api_Part_bad_s54.mono _ _)
      | (with_reducible exact LeO.refl _)
      | (with_reducible exact LeO.none _)
      | (with_reducible refine LeO.ite ?_ ?_)
      | (with_reducible refine LeO.bind ?_ (fun _ => ?_))
      | exact api_Part_bad_s54.mono _ _
      | exact LeO.none _
      | refine LeO.ite ?_ ?_
      | refine LeO.bind ?_ (fun _ => ?_)
set_option maxHeartbeats 8000000 in
set_option maxRecDepth 100000 in
theorem api_Part_bad_s44.calls (k : Nat) (A0 : Option Addr) (c0 : Nat) (l0 : List (S23))  (r : Bool) (w : World) (hr0 : Kd.C k23 w A0 l0.length l0) (hc0 : l0.length ≤ c0) (h : api_Part_bad_s44.f k l0 = some r) :
    Calls Try.prog 44 #[.slice A0 l0.length c0, .func (.func 45) #[] #[]] w fun e w' => e = .returned (.bool r) ∧ Below w.heap.size w w' := by
 have HR0 := za hr0
 have HC0 := za hc0
 clear hr0 hc0
 have HB := za (Below.refl w.heap.size w)
 have H : ((api_Part_bad_s54.f k l0).bind fun t117 => (some (decide (t117 ≥ 0)))) = some r := h
 clear h
 replace H := Option.bind_eq_some_iff.mp H
 obtain ⟨t117, A30, H⟩ := H
 replace H : (some (decide (t117 ≥ 0))) = some r := H
 have A3 := za A30
 clear A30
 obtain rfl := Option.some.inj H
 go_enter Try.func44, Try.ntmps44
 go_wp2_with (first | (go_at_call 54; (with_reducible refine (api_Part_bad_s54.calls k _ _ l0 t117 _ ?side1 ?side2 A3.out).mono ?_); (case side1 => repeat (first | exact HR0.out | (with_reducible refine Kd.C_alloc ?_ _) | (with_reducible refine Kd.C_drewN ?_ _) | (with_reducible refine Kd.C_drew ?_))); (case side2 => exact HC0.out); rintro e w4 ⟨rfl, hb⟩; replace HB := zs HB hb; (try clear hb); (try clear hb2); (try clear hk); (try clear hi)))
 go_ret
 exact ⟨zf, zm HB⟩

/-! ### slices_IndexFunc_int_int_Check_2_s55: function 55 -/
def slices_IndexFunc_int_int_Check_2_s55.l0 : Nat → List Int → Int → Int → Int → Option (Int)
  | 0, _, _, _, _ => none
  | k + 1, x0, x1, x7, x8 => if x8 < x7 then (if 0 ≤ x8 then (if x8 < (x0.length : Int) then ((item_Check_2.f (rd x0 x8) x1).bind fun t119 => (if t119 = true then (some x8) else (slices_IndexFunc_int_int_Check_2_s55.l0 k x0 x1 x7 (wrap64 (x8 + 1))))) else (none)) else (none)) else (some (-1))
def slices_IndexFunc_int_int_Check_2_s55.f (k : Nat) (l0 : List Int) (a1_0 : Int) : Option (Int) := slices_IndexFunc_int_int_Check_2_s55.l0 k l0 a1_0 (l0.length : Int) 0
theorem slices_IndexFunc_int_int_Check_2_s55.mono_l : ∀ k, (∀ y0 y1 y2 y3, LeO (slices_IndexFunc_int_int_Check_2_s55.l0 k y0 y1 y2 y3) (slices_IndexFunc_int_int_Check_2_s55.l0 (k + 1) y0 y1 y2 y3))
  | 0 => fun _ _ _ _ r h => by simp [slices_IndexFunc_int_int_Check_2_s55.l0] at h
  | k + 1 => by
    have ih0 := slices_IndexFunc_int_int_Check_2_s55.mono_l k
    · intro y0 y1 y2 y3
      unfold slices_IndexFunc_int_int_Check_2_s55.l0
      repeat' first
      | (with_reducible exact ih0 _ _ _ _)
      | (with_reducible exact LeO.refl _)
      | (with_reducible exact LeO.none _)
      | (with_reducible refine LeO.ite ?_ ?_)
      | (with_reducible refine LeO.bind ?_ (fun _ => ?_))
      | exact ih0 _ _ _ _
      | exact LeO.none _
      | refine LeO.ite ?_ ?_
      | refine LeO.bind ?_ (fun _ => ?_)
theorem slices_IndexFunc_int_int_Check_2_s55.mono : ∀ a0 a1 k, LeO (slices_IndexFunc_int_int_Check_2_s55.f k a0 a1) (slices_IndexFunc_int_int_Check_2_s55.f (k + 1) a0 a1) := by
  intro a0 a1 k
  have ih0 := slices_IndexFunc_int_int_Check_2_s55.mono_l k
  unfold slices_IndexFunc_int_int_Check_2_s55.f
  repeat' first
      | (with_reducible exact ih0 _ _ _ _)
      | (with_reducible exact LeO.refl _)
      | (with_reducible exact LeO.none _)
      | (with_reducible refine LeO.ite ?_ ?_)
      | (with_reducible refine LeO.bind ?_ (fun _ => ?_))
      | exact ih0 _ _ _ _
      | exact LeO.none _
      | refine LeO.ite ?_ ?_
      | refine LeO.bind ?_ (fun _ => ?_)
set_option maxHeartbeats 8000000 in
set_option maxRecDepth 100000 in
theorem slices_IndexFunc_int_int_Check_2_s55.calls (k : Nat) (A0 : Option Addr) (c0 : Nat) (l0 : List Int) (a1_0 : Int) (r : Int) (w : World) (hr0 : Kd.C (Kd.int .i64) w A0 l0.length l0) (hc0 : l0.length ≤ c0) (h : slices_IndexFunc_int_int_Check_2_s55.f k l0 a1_0 = some r) {gq_ : Nat} (hq_ : Aside0 (w.cell? ⟨gq_, 0, none⟩ = some (.int .i64 a1_0))) :
    Calls Try.prog 55 #[.slice A0 l0.length c0, .func (.func 48) #[] #[.pointer (some ⟨gq_, 0, none⟩)]] w fun e w' => e = .returned (.int .i64 r) ∧ Below w.heap.size w w' := by
 have HR0 := za hr0
 have HC0 := za hc0
 clear hr0 hc0
 have HB := za (Below.refl w.heap.size w)
 have H : (slices_IndexFunc_int_int_Check_2_s55.l0 k l0 a1_0 (l0.length : Int) 0) = some r := h
 clear h
 have H' := za H
 clear H
 go_enter Try.func55, Try.ntmps55
 go_wp2
 go_loopg [8] k (fun kq v8 w' => ∃ (x8_1 : Int), v8 = .int .i64 x8_1 ∧ Aside0 (slices_IndexFunc_int_int_Check_2_s55.l0 kq l0 a1_0 (l0.length : Int) x8_1 = some r) ∧ Aside0 (kq ≤ k) ∧ Aside0 (Below w.heap.size w w'))
 case atStart => exact ⟨(0), (by first | rfl | (simp; done) | (simp [*]; done)), H', ⟨Nat.le_refl _⟩, ⟨zm HB⟩⟩
 case round =>
  clear H'
  try clear p2
  obtain ⟨x8_1, rfl, HA, HK1, HB⟩ := hrel
  cases gk with
  | zero => exact absurd HA.out (by simp [slices_IndexFunc_int_int_Check_2_s55.l0])
  | succ k1 =>
   have H := HA.out
   clear HA
   simp only [slices_IndexFunc_int_int_Check_2_s55.l0] at H
   by_cases c3 : x8_1 < (l0.length : Int)
   ·rw [if_pos c3] at H
    have c3b0 : decide (x8_1 < (l0.length : Int)) = true := decide_eq_true c3
    clear c3
    by_cases c4 : 0 ≤ x8_1
    ·rw [if_pos c4] at H
     have c4b0 : decide (0 ≤ x8_1) = true := decide_eq_true c4
     clear c4
     by_cases c5 : x8_1 < (l0.length : Int)
     ·rw [if_pos c5] at H
      have c5b0 : decide (x8_1 < (l0.length : Int)) = true := decide_eq_true c5
      clear c5
      replace H := Option.bind_eq_some_iff.mp H
      obtain ⟨t119, A60, H⟩ := H
      replace H : (if t119 = true then (some x8_1) else (slices_IndexFunc_int_int_Check_2_s55.l0 k1 l0 a1_0 (l0.length : Int) (wrap64 (x8_1 + 1)))) = some r := H
      have A6 := za A60
      clear A60
      by_cases c7 : t119 = true
      ·subst c7
       have H1 : (some x8_1) = some r := by rw [if_pos rfl] at H; exact H
       clear H
       have H := H1
       clear H1
       obtain rfl := Option.some.inj H
       have p118 : 0 ≤ (x8_1 : Int) := of_decide_eq_true (by first | (with_reducible assumption) | assumption)
       have q118 : x8_1 < (l0.length : Int) := of_decide_eq_true (by first | (with_reducible assumption) | assumption)
       obtain ⟨ad118, e118, hx118_0⟩ := Kd.at_int HR0.out x8_1 p118 q118
       cases e118
       replace hx118_0 := zx HB hx118_0
       replace p118 := eq_true p118
       replace q118 := eq_true q118
       go_wp2_with (first | (go_at_call 48; (with_reducible refine (item_Check_2.calls (rd l0 x8_1) a1_0 true _ A6.out ?sideq).mono ?_); (case sideq => first | assumption | (with_unfolding_all assumption) | exact za (by assumption) | exact za (by with_unfolding_all assumption) | exact za (pw_cell_below HB.out hq_.out) | exact za (pw_cell_below (zm HB) hq_.out)); rintro e w8 ⟨rfl, hb⟩; replace HB := zs HB hb; (try clear hb); (try clear hb2); (try clear hk); (try clear hi)))
       go_ret
       exact ⟨zf, zm HB⟩
      ·replace c7 := Bool.eq_false_iff.mpr c7
       subst c7
       have H1 : (slices_IndexFunc_int_int_Check_2_s55.l0 k1 l0 a1_0 (l0.length : Int) (wrap64 (x8_1 + 1))) = some r := by rw [if_neg (show ¬ (false = true) by decide)] at H; exact H
       clear H
       have H := H1
       clear H1
       have H' := za H
       clear H
       have p118 : 0 ≤ (x8_1 : Int) := of_decide_eq_true (by first | (with_reducible assumption) | assumption)
       have q118 : x8_1 < (l0.length : Int) := of_decide_eq_true (by first | (with_reducible assumption) | assumption)
       obtain ⟨ad118, e118, hx118_0⟩ := Kd.at_int HR0.out x8_1 p118 q118
       cases e118
       replace hx118_0 := zx HB hx118_0
       replace p118 := eq_true p118
       replace q118 := eq_true q118
       go_wp2_with (first | (go_at_call 48; (with_reducible refine (item_Check_2.calls (rd l0 x8_1) a1_0 false _ A6.out ?sideq).mono ?_); (case sideq => first | assumption | (with_unfolding_all assumption) | exact za (by assumption) | exact za (by with_unfolding_all assumption) | exact za (pw_cell_below HB.out hq_.out) | exact za (pw_cell_below (zm HB) hq_.out)); rintro e w9 ⟨rfl, hb⟩; replace HB := zs HB hb; (try clear hb); (try clear hb2); (try clear hk); (try clear hi)))
       go_roundg k1
       case measure => have := HK1.out; omega
       case rel => exact ⟨(wrap64 (x8_1 + 1)), (by first | rfl | (simp; done) | (simp [*]; done)), H', ⟨by have := HK1.out; omega⟩, ⟨zm HB⟩⟩
     ·rw [if_neg c5] at H
      exact absurd H (by simp)
    ·rw [if_neg c4] at H
     exact absurd H (by simp)
   ·rw [if_neg c3] at H
    have c3b0 : decide (x8_1 < (l0.length : Int)) = false := decide_eq_false c3
    clear c3
    obtain rfl := Option.some.inj H
    go_wp2
    go_ret
    exact ⟨zf, zm HB⟩

/-! ### slices_ContainsFunc_int_int_Check_2_s47: function 47 -/
def slices_ContainsFunc_int_int_Check_2_s47.f (k : Nat) (l0 : List Int) (a1_0 : Int) : Option (Bool) := (slices_IndexFunc_int_int_Check_2_s55.f k l0 a1_0).bind fun t120 => (some (decide (t120 ≥ 0)))
theorem slices_ContainsFunc_int_int_Check_2_s47.mono : ∀ a0 a1 k, LeO (slices_ContainsFunc_int_int_Check_2_s47.f k a0 a1) (slices_ContainsFunc_int_int_Check_2_s47.f (k + 1) a0 a1) := by
  intro a0 a1 k
  unfold slices_ContainsFunc_int_int_Check_2_s47.f
  repeat' first
      | (with_reducible exact slices_IndexFunc_int_int_Check_2_s55.mono _ _ _)
      | (with_reducible exact LeO.refl _)
      | (with_reducible exact LeO.none _)
      | (with_reducible refine LeO.ite ?_ ?_)
      | (with_reducible refine LeO.bind ?_ (fun _ => ?_))
      | exact slices_IndexFunc_int_int_Check_2_s55.mono _ _ _
      | exact LeO.none _
      | refine LeO.ite ?_ ?_
      | refine LeO.bind ?_ (fun _ => ?_)
set_option maxHeartbeats 8000000 in
set_option maxRecDepth 100000 in
theorem slices_ContainsFunc_int_int_Check_2_s47.calls (k : Nat) (A0 : Option Addr) (c0 : Nat) (l0 : List Int) (a1_0 : Int) (r : Bool) (w : World) (hr0 : Kd.C (Kd.int .i64) w A0 l0.length l0) (hc0 : l0.length ≤ c0) (h : slices_ContainsFunc_int_int_Check_2_s47.f k l0 a1_0 = some r) {gq_ : Nat} (hq_ : Aside0 (w.cell? ⟨gq_, 0, none⟩ = some (.int .i64 a1_0))) :
    Calls Try.prog 47 #[.slice A0 l0.length c0, .func (.func 48) #[] #[.pointer (some ⟨gq_, 0, none⟩)]] w fun e w' => e = .returned (.bool r) ∧ Below w.heap.size w w' := by
 have HR0 := za hr0
 have HC0 := za hc0
 clear hr0 hc0
 have HB := za (Below.refl w.heap.size w)
 have H : ((slices_IndexFunc_int_int_Check_2_s55.f k l0 a1_0).bind fun t120 => (some (decide (t120 ≥ 0)))) = some r := h
 clear h
 replace H := Option.bind_eq_some_iff.mp H
 obtain ⟨t120, A30, H⟩ := H
 replace H : (some (decide (t120 ≥ 0))) = some r := H
 have A3 := za A30
 clear A30
 obtain rfl := Option.some.inj H
 go_enter Try.func47, Try.ntmps47
 go_wp2_with (first | (go_at_call 55; (with_reducible refine (slices_IndexFunc_int_int_Check_2_s55.calls k _ _ l0 a1_0 t120 _ ?side1 ?side2 A3.out ?sideq).mono ?_); (case side1 => repeat (first | exact HR0.out | (with_reducible refine Kd.C_alloc ?_ _) | (with_reducible refine Kd.C_drewN ?_ _) | (with_reducible refine Kd.C_drew ?_))); (case side2 => exact HC0.out); (case sideq => first | assumption | (with_unfolding_all assumption) | exact za (by assumption) | exact za (by with_unfolding_all assumption) | exact za (pw_cell_below HB.out hq_.out) | exact za (pw_cell_below (zm HB) hq_.out)); rintro e w4 ⟨rfl, hb⟩; replace HB := zs HB hb; (try clear hb); (try clear hb2); (try clear hk); (try clear hi)))
 go_ret
 exact ⟨zf, zm HB⟩

end Go.Proofs.Ytinmdoemkejanaa.Print
