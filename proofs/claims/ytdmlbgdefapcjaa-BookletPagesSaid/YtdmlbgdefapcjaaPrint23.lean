-- Printed by a program of this session (wip/own_print.py) out of the translation; Lean checks it.
import Derived.Test.YtdmlbgdefapcjaaShort
import Derived.Test.YtdmlbgdefapcjaaPrint0
namespace Go.Proofs.Ytdmlbgdefapcjaa.Print
open Go.RowKit Go.Proofs.YtdmlbgdefapcjaaW.PrintWords Go.Proofs.YtdmlbgdefapcjaaW.PrintLast Go.Proofs.YtdmlbgdefapcjaaW.PrintMore
attribute [local go_sem] max2_int min2_int max_two min_two max_three min_three max_four min_four   -- for this text's walks alone
set_option linter.unusedVariables false
set_option linter.unusedSimpArgs false

/-! ### awardingbodyref06_Has: function 44 -/
def awardingbodyref06_Has.l0 : Nat → List Int → Int → Int → Option (Bool)
  | 0, _, _, _ => none
  | k + 1, x0, x1, x5 => if x5 < (x0.length : Int) then (if 0 ≤ x5 then (if (rd x0 x5) = x1 then (some true) else (awardingbodyref06_Has.l0 k x0 x1 (wrap64 (x5 + 1)))) else (none)) else (some false)
def awardingbodyref06_Has.f (k : Nat) (l0 : List Int) (a1 : Int) : Option (Bool) := awardingbodyref06_Has.l0 k l0 a1 0
theorem awardingbodyref06_Has.mono_l : ∀ k, (∀ y0 y1 y2, LeO (awardingbodyref06_Has.l0 k y0 y1 y2) (awardingbodyref06_Has.l0 (k + 1) y0 y1 y2))
  | 0 => fun _ _ _ r h => by simp [awardingbodyref06_Has.l0] at h
  | k + 1 => by
    have ih0 := awardingbodyref06_Has.mono_l k
    · intro y0 y1 y2
      unfold awardingbodyref06_Has.l0
      repeat' first
      | (with_reducible exact ih0 _ _ _)
      | (with_reducible exact LeO.refl _)
      | (with_reducible exact LeO.none _)
      | (with_reducible refine LeO.ite ?_ ?_)
      | (with_reducible refine LeO.bind ?_ (fun _ => ?_))
      | exact ih0 _ _ _
      | exact LeO.none _
      | refine LeO.ite ?_ ?_
      | refine LeO.bind ?_ (fun _ => ?_)
theorem awardingbodyref06_Has.mono : ∀ a0 a1 k, LeO (awardingbodyref06_Has.f k a0 a1) (awardingbodyref06_Has.f (k + 1) a0 a1) := by
  intro a0 a1 k
  have ih0 := awardingbodyref06_Has.mono_l k
  unfold awardingbodyref06_Has.f
  repeat' first
      | (with_reducible exact ih0 _ _ _)
      | (with_reducible exact LeO.refl _)
      | (with_reducible exact LeO.none _)
      | (with_reducible refine LeO.ite ?_ ?_)
      | (with_reducible refine LeO.bind ?_ (fun _ => ?_))
      | exact ih0 _ _ _
      | exact LeO.none _
      | refine LeO.ite ?_ ?_
      | refine LeO.bind ?_ (fun _ => ?_)
set_option maxHeartbeats 8000000 in
set_option maxRecDepth 100000 in
theorem awardingbodyref06_Has.calls (k : Nat) (A0 : Option Addr) (c0 : Nat) (l0 : List Int) (a1 : Int) (r : Bool) (w : World) (hr0 : Kd.C (Kd.int .i64) w A0 l0.length l0) (hc0 : l0.length ≤ c0) (h : awardingbodyref06_Has.f k l0 a1 = some r) :
    Calls Try.prog 44 #[.slice A0 l0.length c0, .int .i64 a1] w fun e w' => e = .returned (.bool r) ∧ Drawn0 w w' := by
 have HR0 := za hr0
 have HC0 := za hc0
 clear hr0 hc0
 have H : (awardingbodyref06_Has.l0 k l0 a1 0) = some r := h
 clear h
 have H' := za H
 clear H
 go_enter Try.func44, Try.ntmps44
 go_wp2
 go_loopg [5] k (fun kq v5 w' => ∃ (x5_1 : Int), v5 = .int .i64 x5_1 ∧ Aside0 (awardingbodyref06_Has.l0 kq l0 a1 x5_1 = some r) ∧ Aside0 (kq ≤ k) ∧ Drawn0 w w')
 case atStart => exact ⟨(0), (by first | rfl | (simp; done) | (simp [*]; done)), H', ⟨Nat.le_refl _⟩, by repeat (first | exact Drawn0.refl _ | apply Drawn0.step)⟩
 case round =>
  clear H'
  try clear p2
  obtain ⟨x5_1, rfl, HA, HK1, ⟨m1, rfl⟩⟩ := hrel
  cases gk with
  | zero => exact absurd HA.out (by simp [awardingbodyref06_Has.l0])
  | succ k1 =>
   have H := HA.out
   clear HA
   simp only [awardingbodyref06_Has.l0] at H
   by_cases c3 : x5_1 < (l0.length : Int)
   ·rw [if_pos c3] at H
    have c3b0 : decide (x5_1 < (l0.length : Int)) = true := decide_eq_true c3
    clear c3
    by_cases c4 : 0 ≤ x5_1
    ·rw [if_pos c4] at H
     have c4b0 : decide (0 ≤ x5_1) = true := decide_eq_true c4
     clear c4
     by_cases c5 : (rd l0 x5_1) = a1
     ·rw [if_pos c5] at H
      have c5b0 : ((rd l0 x5_1) == a1) = true := beq_iff_eq.mpr c5
      have c5b1 : ((rd l0 x5_1) != a1) = false := bne_eq_false_iff_eq.mpr c5
      clear c5
      obtain rfl := Option.some.inj H
      have p507 : 0 ≤ (x5_1 : Int) := of_decide_eq_true (by first | (with_reducible assumption) | assumption)
      have q507 : x5_1 < (l0.length : Int) := of_decide_eq_true (by first | (with_reducible assumption) | assumption)
      obtain ⟨ad507, e507, hx507_0⟩ := Kd.at_int HR0.out x5_1 p507 q507
      cases e507
      replace p507 := eq_true p507
      replace q507 := eq_true q507
      go_wp2
      go_ret
      exact ⟨by first | rfl | (simp; done) | (simp [*]; done), by repeat (first | exact Drawn0.refl _ | apply Drawn0.step)⟩
     ·rw [if_neg c5] at H
      have c5b0 : ((rd l0 x5_1) == a1) = false := beq_eq_false_iff_ne.mpr c5
      have c5b1 : ((rd l0 x5_1) != a1) = true := bne_iff_ne.mpr c5
      have H' := za H
      clear H
      have p507 : 0 ≤ (x5_1 : Int) := of_decide_eq_true (by first | (with_reducible assumption) | assumption)
      have q507 : x5_1 < (l0.length : Int) := of_decide_eq_true (by first | (with_reducible assumption) | assumption)
      obtain ⟨ad507, e507, hx507_0⟩ := Kd.at_int HR0.out x5_1 p507 q507
      cases e507
      replace p507 := eq_true p507
      replace q507 := eq_true q507
      go_wp2
      go_roundg k1
      case measure => have := HK1.out; omega
      case rel => exact ⟨(wrap64 (x5_1 + 1)), (by first | rfl | (simp; done) | (simp [*]; done)), H', ⟨by have := HK1.out; omega⟩, by repeat (first | exact Drawn0.refl _ | apply Drawn0.step)⟩
    ·rw [if_neg c4] at H
     exact absurd H (by simp)
   ·rw [if_neg c3] at H
    have c3b0 : decide (x5_1 < (l0.length : Int)) = false := decide_eq_false c3
    clear c3
    obtain rfl := Option.some.inj H
    go_wp2
    go_ret
    exact ⟨by first | rfl | (simp; done) | (simp [*]; done), by repeat (first | exact Drawn0.refl _ | apply Drawn0.step)⟩

/-! ### awardingbodyref12_PageOf: function 26 -/
def awardingbodyref12_PageOf.l0 : Nat → Int → Int → List (List Int) → Option (Int)
  | 0, _, _, _ => none
  | k + 1, x1, x5, x509000 => if x5 < (x509000.length : Int) then (if 0 ≤ x5 then ((awardingbodyref06_Has.f k (rd_L2 x509000 x5) x1).bind fun t510 => (if t510 = true then (some x5) else (awardingbodyref12_PageOf.l0 k x1 (wrap64 (x5 + 1)) x509000))) else (none)) else (some (-1))
def awardingbodyref12_PageOf.f (k : Nat) (l0_0 : List (List Int)) (a1 : Int) : Option (Int) := awardingbodyref12_PageOf.l0 k a1 0 l0_0
theorem awardingbodyref12_PageOf.mono_l : ∀ k, (∀ y0 y1 y2, LeO (awardingbodyref12_PageOf.l0 k y0 y1 y2) (awardingbodyref12_PageOf.l0 (k + 1) y0 y1 y2))
  | 0 => fun _ _ _ r h => by simp [awardingbodyref12_PageOf.l0] at h
  | k + 1 => by
    have ih0 := awardingbodyref12_PageOf.mono_l k
    · intro y0 y1 y2
      unfold awardingbodyref12_PageOf.l0
      repeat' first
      | (with_reducible exact ih0 _ _ _)
      | (with_reducible exact awardingbodyref06_Has.mono _ _ _)
      | (with_reducible exact LeO.refl _)
      | (with_reducible exact LeO.none _)
      | (with_reducible refine LeO.ite ?_ ?_)
      | (with_reducible refine LeO.bind ?_ (fun _ => ?_))
      | exact ih0 _ _ _
      | exact awardingbodyref06_Has.mono _ _ _
      | exact LeO.none _
      | refine LeO.ite ?_ ?_
      | refine LeO.bind ?_ (fun _ => ?_)
theorem awardingbodyref12_PageOf.mono : ∀ a0 a1 k, LeO (awardingbodyref12_PageOf.f k a0 a1) (awardingbodyref12_PageOf.f (k + 1) a0 a1) := by
  intro a0 a1 k
  have ih0 := awardingbodyref12_PageOf.mono_l k
  unfold awardingbodyref12_PageOf.f
  repeat' first
      | (with_reducible exact ih0 _ _ _)
      | (with_reducible exact awardingbodyref06_Has.mono _ _ _)
      | (with_reducible exact LeO.refl _)
      | (with_reducible exact LeO.none _)
      | (with_reducible refine LeO.ite ?_ ?_)
      | (with_reducible refine LeO.bind ?_ (fun _ => ?_))
      | exact ih0 _ _ _
      | exact awardingbodyref06_Has.mono _ _ _
      | exact LeO.none _
      | refine LeO.ite ?_ ?_
      | refine LeO.bind ?_ (fun _ => ?_)
set_option maxHeartbeats 8000000 in
set_option maxRecDepth 100000 in
theorem awardingbodyref12_PageOf.calls (k : Nat) (A0_0 : Option Addr) (c0_0 : Nat) (l0_0 : List (List Int)) (a1 : Int) (r : Int) (w : World) (hr0_0 : Kd.C (Kd.slice 3 (Kd.int .i64)) w A0_0 l0_0.length l0_0) (hc0_0 : l0_0.length ≤ c0_0) (h : awardingbodyref12_PageOf.f k l0_0 a1 = some r) :
    Calls Try.prog 26 #[.agg #[.slice A0_0 l0_0.length c0_0], .int .i64 a1] w fun e w' => e = .returned (.int .i64 r) ∧ Below w.heap.size w w' := by
 have hu38 := Try.underlying38
 have HR0_0 := za hr0_0
 have HC0_0 := za hc0_0
 clear hr0_0 hc0_0
 have HB := za (Below.refl w.heap.size w)
 have H : (awardingbodyref12_PageOf.l0 k a1 0 l0_0) = some r := h
 clear h
 have H' := za H
 clear H
 go_enter Try.func26, Try.ntmps26
 go_wp2_with (first | ((with_reducible refine gate_dst (N := 2) rfl ?_); refine zE 2 #[.slice A0_0 l0_0.length c0_0] 38 ?_; intro gb508 hg w3 hbox hb; have BK508 := za (hbox); have GW508 := zg HB hg; have GE508 := zg HB hg; replace HB := zs HB hb; clear hb hbox hg))
 go_loopg [5] k (fun kq v5 w' => ∃ (x5_1 : Int), v5 = .int .i64 x5_1 ∧ Aside0 (awardingbodyref12_PageOf.l0 kq a1 x5_1 l0_0 = some r) ∧ Aside0 (kq ≤ k) ∧ Aside0 (w'.heap[gb508]? = some (.cells #[(.slice A0_0 l0_0.length c0_0)] 38 (0, 0))) ∧ Aside0 (Below w.heap.size w w'))
 case atStart => exact ⟨(0), (by first | rfl | (simp; done) | (simp [*]; done)), H', ⟨Nat.le_refl _⟩, ⟨by (with_reducible repeat (first | refine blk_drewN ?_ _ | refine blk_drew ?_ | refine blk_alloc ?_ _)); exact BK508.out⟩, ⟨zm HB⟩⟩
 case round =>
  clear H'
  try clear c2
  try clear p2
  obtain ⟨x5_1, rfl, HA, HK1, BK508, HB⟩ := hrel
  cases gk with
  | zero => exact absurd HA.out (by simp [awardingbodyref12_PageOf.l0])
  | succ k1 =>
   have H := HA.out
   clear HA
   simp only [awardingbodyref12_PageOf.l0] at H
   by_cases c4 : x5_1 < (l0_0.length : Int)
   ·rw [if_pos c4] at H
    have c4b0 : decide (x5_1 < (l0_0.length : Int)) = true := decide_eq_true c4
    clear c4
    by_cases c5 : 0 ≤ x5_1
    ·rw [if_pos c5] at H
     have c5b0 : decide (0 ≤ x5_1) = true := decide_eq_true c5
     clear c5
     replace H := Option.bind_eq_some_iff.mp H
     obtain ⟨t510, A60, H⟩ := H
     replace H : (if t510 = true then (some x5_1) else (awardingbodyref12_PageOf.l0 k1 a1 (wrap64 (x5_1 + 1)) l0_0)) = some r := H
     have A6 := za A60
     clear A60
     by_cases c7 : t510 = true
     ·subst c7
      have H1 : (some x5_1) = some r := by rw [if_pos rfl] at H; exact H
      clear H
      have H := H1
      clear H1
      obtain rfl := Option.some.inj H
      obtain ⟨hcz8_0, hfz8_0⟩ := z1 BK508
      have p509 : 0 ≤ (x5_1 : Int) := of_decide_eq_true (by first | (with_reducible assumption) | assumption)
      have q509 : x5_1 < (l0_0.length : Int) := of_decide_eq_true (by first | (with_reducible assumption) | assumption)
      obtain ⟨ad509, A509_0, c509_0, e509, hx509_0, hl509_0, hi509_0⟩ := at_L2 HR0_0.out x5_1 p509 q509
      cases e509
      replace hx509_0 := zx HB hx509_0
      have HR509_0 := za hi509_0
      have HC509_0 := za hl509_0
      clear hi509_0 hl509_0
      replace p509 := eq_true p509
      replace q509 := eq_true q509
      go_wp2_with (first | ((with_reducible refine gate_callee (f := 44) rfl ?_); refine zL (some 19) Try.func44 #[.slice A509_0 (rd_L2 l0_0 x5_1).length c509_0, .int .i64 a1] ?_; (with_reducible refine (awardingbodyref06_Has.calls k1 _ _ (rd_L2 l0_0 x5_1) a1 true _ ?side1 ?side2 A6.out).mono ?_); (case side1 => exact zC HR509_0 HB); (case side2 => exact HC509_0.out); rintro e w' ⟨rfl, ⟨nd, rfl⟩⟩; refine ⟨_, rfl, ?_⟩))
      go_ret
      exact ⟨zf, zm HB⟩
     ·replace c7 := Bool.eq_false_iff.mpr c7
      subst c7
      have H1 : (awardingbodyref12_PageOf.l0 k1 a1 (wrap64 (x5_1 + 1)) l0_0) = some r := by rw [if_neg (show ¬ (false = true) by decide)] at H; exact H
      clear H
      have H := H1
      clear H1
      have H' := za H
      clear H
      obtain ⟨hcz9_0, hfz9_0⟩ := z1 BK508
      have p509 : 0 ≤ (x5_1 : Int) := of_decide_eq_true (by first | (with_reducible assumption) | assumption)
      have q509 : x5_1 < (l0_0.length : Int) := of_decide_eq_true (by first | (with_reducible assumption) | assumption)
      obtain ⟨ad509, A509_0, c509_0, e509, hx509_0, hl509_0, hi509_0⟩ := at_L2 HR0_0.out x5_1 p509 q509
      cases e509
      replace hx509_0 := zx HB hx509_0
      have HR509_0 := za hi509_0
      have HC509_0 := za hl509_0
      clear hi509_0 hl509_0
      replace p509 := eq_true p509
      replace q509 := eq_true q509
      go_wp2_with (first | ((with_reducible refine gate_callee (f := 44) rfl ?_); refine zL (some 19) Try.func44 #[.slice A509_0 (rd_L2 l0_0 x5_1).length c509_0, .int .i64 a1] ?_; (with_reducible refine (awardingbodyref06_Has.calls k1 _ _ (rd_L2 l0_0 x5_1) a1 false _ ?side1 ?side2 A6.out).mono ?_); (case side1 => exact zC HR509_0 HB); (case side2 => exact HC509_0.out); rintro e w' ⟨rfl, ⟨nd, rfl⟩⟩; refine ⟨_, rfl, ?_⟩))
      go_roundg k1
      case measure => have := HK1.out; omega
      case rel => exact ⟨(wrap64 (x5_1 + 1)), (by first | rfl | (simp; done) | (simp [*]; done)), H', ⟨by have := HK1.out; omega⟩, ⟨by (with_reducible repeat (first | refine blk_drewN ?_ _ | refine blk_drew ?_ | refine blk_alloc ?_ _)); exact BK508.out⟩, ⟨zm HB⟩⟩
    ·rw [if_neg c5] at H
     exact absurd H (by simp)
   ·rw [if_neg c4] at H
    have c4b0 : decide (x5_1 < (l0_0.length : Int)) = false := decide_eq_false c4
    clear c4
    obtain rfl := Option.some.inj H
    obtain ⟨hcz10_0, hfz10_0⟩ := z1 BK508
    go_wp2
    go_ret
    exact ⟨zf, zm HB⟩

end Go.Proofs.Ytdmlbgdefapcjaa.Print
