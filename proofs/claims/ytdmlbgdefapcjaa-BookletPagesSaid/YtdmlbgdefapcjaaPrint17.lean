-- Printed by a program of this session (wip/own_print.py) out of the translation; Lean checks it.
import Derived.Test.YtdmlbgdefapcjaaShort
import Derived.Test.YtdmlbgdefapcjaaPrint0
import Derived.Test.YtdmlbgdefapcjaaPrint7
namespace Go.Proofs.Ytdmlbgdefapcjaa.Print
open Go.RowKit Go.Proofs.YtdmlbgdefapcjaaW.PrintWords Go.Proofs.YtdmlbgdefapcjaaW.PrintLast Go.Proofs.YtdmlbgdefapcjaaW.PrintMore
attribute [local go_sem] max2_int min2_int max_two min_two max_three min_three max_four min_four   -- for this text's walks alone
set_option linter.unusedVariables false
set_option linter.unusedSimpArgs false

/-! ### awardingbodylaw12_same: function 20 -/
def awardingbodylaw12_same.l0 : Nat → Int → List (List Int) → List (List Int) → Option (Bool)
  | 0, _, _, _ => none
  | k + 1, x5, x356000, x357000 => if x5 < (x356000.length : Int) then (if 0 ≤ x5 then (if x5 < (x357000.length : Int) then ((awardingbodyref06_Ints.f k (rd_L2 x356000 x5) (rd_L2 x357000 x5)).bind fun t359 => (if t359 = true then (awardingbodylaw12_same.l0 k (wrap64 (x5 + 1)) x356000 x357000) else (some false))) else (none)) else (none)) else (some true)
def awardingbodylaw12_same.f (k : Nat) (l0_0 : List (List Int)) (l1_0 : List (List Int)) : Option (Bool) := if (l0_0.length : Int) = (l1_0.length : Int) then (awardingbodylaw12_same.l0 k 0 l0_0 l1_0) else (some false)
theorem awardingbodylaw12_same.mono_l : ∀ k, (∀ y0 y1 y2, LeO (awardingbodylaw12_same.l0 k y0 y1 y2) (awardingbodylaw12_same.l0 (k + 1) y0 y1 y2))
  | 0 => fun _ _ _ r h => by simp [awardingbodylaw12_same.l0] at h
  | k + 1 => by
    have ih0 := awardingbodylaw12_same.mono_l k
    · intro y0 y1 y2
      unfold awardingbodylaw12_same.l0
      repeat' first
      | (with_reducible exact ih0 _ _ _)
      | (with_reducible exact awardingbodyref06_Ints.mono _ _ _)
      | (with_reducible exact LeO.refl _)
      | (with_reducible exact LeO.none _)
      | (with_reducible refine LeO.ite ?_ ?_)
      | (with_reducible refine LeO.bind ?_ (fun _ => ?_))
      | exact ih0 _ _ _
      | exact awardingbodyref06_Ints.mono _ _ _
      | exact LeO.none _
      | refine LeO.ite ?_ ?_
      | refine LeO.bind ?_ (fun _ => ?_)
theorem awardingbodylaw12_same.mono : ∀ a0 a1 k, LeO (awardingbodylaw12_same.f k a0 a1) (awardingbodylaw12_same.f (k + 1) a0 a1) := by
  intro a0 a1 k
  have ih0 := awardingbodylaw12_same.mono_l k
  unfold awardingbodylaw12_same.f
  repeat' first
      | (with_reducible exact ih0 _ _ _)
      | (with_reducible exact awardingbodyref06_Ints.mono _ _ _)
      | (with_reducible exact LeO.refl _)
      | (with_reducible exact LeO.none _)
      | (with_reducible refine LeO.ite ?_ ?_)
      | (with_reducible refine LeO.bind ?_ (fun _ => ?_))
      | exact ih0 _ _ _
      | exact awardingbodyref06_Ints.mono _ _ _
      | exact LeO.none _
      | refine LeO.ite ?_ ?_
      | refine LeO.bind ?_ (fun _ => ?_)
set_option maxHeartbeats 8000000 in
set_option maxRecDepth 100000 in
theorem awardingbodylaw12_same.calls (k : Nat) (A0_0 : Option Addr) (c0_0 : Nat) (l0_0 : List (List Int)) (A1_0 : Option Addr) (c1_0 : Nat) (l1_0 : List (List Int)) (r : Bool) (w : World) (hr0_0 : Kd.C (Kd.slice 3 (Kd.int .i64)) w A0_0 l0_0.length l0_0) (hc0_0 : l0_0.length ≤ c0_0) (hr1_0 : Kd.C (Kd.slice 3 (Kd.int .i64)) w A1_0 l1_0.length l1_0) (hc1_0 : l1_0.length ≤ c1_0) (h : awardingbodylaw12_same.f k l0_0 l1_0 = some r) :
    Calls Try.prog 20 #[.agg #[.slice A0_0 l0_0.length c0_0], .agg #[.slice A1_0 l1_0.length c1_0]] w fun e w' => e = .returned (.bool r) ∧ Below w.heap.size w w' := by
 have hu38 := Try.underlying38
 have HR0_0 := za hr0_0
 have HC0_0 := za hc0_0
 clear hr0_0 hc0_0
 have HR1_0 := za hr1_0
 have HC1_0 := za hc1_0
 clear hr1_0 hc1_0
 have HB := za (Below.refl w.heap.size w)
 have H : (if (l0_0.length : Int) = (l1_0.length : Int) then (awardingbodylaw12_same.l0 k 0 l0_0 l1_0) else (some false)) = some r := h
 clear h
 by_cases c3 : (l0_0.length : Int) = (l1_0.length : Int)
 ·rw [if_pos c3] at H
  have c3b0 : ((l0_0.length : Int) == (l1_0.length : Int)) = true := beq_iff_eq.mpr c3
  have c3b1 : ((l0_0.length : Int) != (l1_0.length : Int)) = false := bne_eq_false_iff_eq.mpr c3
  have c3b2 : (l0_0.length == l1_0.length) = true := by first | simpa using c3 | (simp at c3 ⊢; omega)
  clear c3
  have H' := za H
  clear H
  go_enter Try.func20, Try.ntmps20
  go_wp2_with (first | ((with_reducible refine gate_dst (N := 2) rfl ?_); refine zE 2 #[.slice A0_0 l0_0.length c0_0] 38 ?_; intro gb355 hg w4 hbox hb; have BK355 := za (hbox); have GW355 := zg HB hg; have GE355 := zg HB hg; replace HB := zs HB hb; clear hb hbox hg) | ((with_reducible refine gate_dst (N := 3) rfl ?_); refine zE 3 #[.slice A1_0 l1_0.length c1_0] 38 ?_; intro gb356 hg w5 hbox hb; have BK356 := za (hbox); have GW356 := zg HB hg; have GE356 := zg HB hg; have NB355_356 := zl BK355 hg; have NB356_355 := zr BK355 hg; replace BK355 := zb BK355 hb; replace HB := zs HB hb; clear hb hbox hg; have hnb6 := NB355_356.out; have hnc6 := NB356_355.out; obtain ⟨hcz7_0, hfz7_0⟩ := z1 BK355; obtain ⟨hcz8_0, hfz8_0⟩ := z1 BK356))
  repeat (go_quiet (first | ((with_reducible refine gate_dst (N := 2) rfl ?_); refine zE 2 #[.slice A0_0 l0_0.length c0_0] 38 ?_; intro gb355 hg w4 hbox hb; have BK355 := za (hbox); have GW355 := zg HB hg; have GE355 := zg HB hg; replace HB := zs HB hb; clear hb hbox hg) | ((with_reducible refine gate_dst (N := 3) rfl ?_); refine zE 3 #[.slice A1_0 l1_0.length c1_0] 38 ?_; intro gb356 hg w5 hbox hb; have BK356 := za (hbox); have GW356 := zg HB hg; have GE356 := zg HB hg; have NB355_356 := zl BK355 hg; have NB356_355 := zr BK355 hg; replace BK355 := zb BK355 hb; replace HB := zs HB hb; clear hb hbox hg; have hnb6 := NB355_356.out; have hnc6 := NB356_355.out; obtain ⟨hcz7_0, hfz7_0⟩ := z1 BK355; obtain ⟨hcz8_0, hfz8_0⟩ := z1 BK356)); try go_wp2_with (first | ((with_reducible refine gate_dst (N := 2) rfl ?_); refine zE 2 #[.slice A0_0 l0_0.length c0_0] 38 ?_; intro gb355 hg w4 hbox hb; have BK355 := za (hbox); have GW355 := zg HB hg; have GE355 := zg HB hg; replace HB := zs HB hb; clear hb hbox hg) | ((with_reducible refine gate_dst (N := 3) rfl ?_); refine zE 3 #[.slice A1_0 l1_0.length c1_0] 38 ?_; intro gb356 hg w5 hbox hb; have BK356 := za (hbox); have GW356 := zg HB hg; have GE356 := zg HB hg; have NB355_356 := zl BK355 hg; have NB356_355 := zr BK355 hg; replace BK355 := zb BK355 hb; replace HB := zs HB hb; clear hb hbox hg; have hnb6 := NB355_356.out; have hnc6 := NB356_355.out; obtain ⟨hcz7_0, hfz7_0⟩ := z1 BK355; obtain ⟨hcz8_0, hfz8_0⟩ := z1 BK356)))
  go_loopg [5] k (fun kq v5 w' => ∃ (x5_1 : Int), v5 = .int .i64 x5_1 ∧ Aside0 (awardingbodylaw12_same.l0 kq x5_1 l0_0 l1_0 = some r) ∧ Aside0 (kq ≤ k) ∧ Aside0 (w'.heap[gb355]? = some (.cells #[(.slice A0_0 l0_0.length c0_0)] 38 (0, 0))) ∧ Aside0 (w'.heap[gb356]? = some (.cells #[(.slice A1_0 l1_0.length c1_0)] 38 (0, 0))) ∧ Aside0 (Below w.heap.size w w'))
  case atStart => exact ⟨(0), (by first | rfl | (simp; done) | (simp [*]; done)), H', ⟨Nat.le_refl _⟩, ⟨by (with_reducible repeat (first | refine blk_drewN ?_ _ | refine blk_drew ?_ | refine blk_alloc ?_ _)); exact BK355.out⟩, ⟨by (with_reducible repeat (first | refine blk_drewN ?_ _ | refine blk_drew ?_ | refine blk_alloc ?_ _)); exact BK356.out⟩, ⟨zm HB⟩⟩
  case round =>
   clear H'
   try clear c1
   try clear c2
   try clear p2
   try clear c3
   try clear c3b0
   try clear c3b1
   try clear c3b2
   try clear c6
   try clear hcz7_0
   try clear hcz8_0
   try clear hfz7_0
   try clear hfz8_0
   obtain ⟨x5_1, rfl, HA, HK1, BK355, BK356, HB⟩ := hrel
   cases gk with
   | zero => exact absurd HA.out (by simp [awardingbodylaw12_same.l0])
   | succ k1 =>
    have H := HA.out
    clear HA
    simp only [awardingbodylaw12_same.l0] at H
    by_cases c9 : x5_1 < (l0_0.length : Int)
    ·rw [if_pos c9] at H
     have c9b0 : decide (x5_1 < (l0_0.length : Int)) = true := decide_eq_true c9
     clear c9
     by_cases c10 : 0 ≤ x5_1
     ·rw [if_pos c10] at H
      have c10b0 : decide (0 ≤ x5_1) = true := decide_eq_true c10
      clear c10
      by_cases c11 : x5_1 < (l1_0.length : Int)
      ·rw [if_pos c11] at H
       have c11b0 : decide (x5_1 < (l1_0.length : Int)) = true := decide_eq_true c11
       clear c11
       replace H := Option.bind_eq_some_iff.mp H
       obtain ⟨t359, A120, H⟩ := H
       replace H : (if t359 = true then (awardingbodylaw12_same.l0 k1 (wrap64 (x5_1 + 1)) l0_0 l1_0) else (some false)) = some r := H
       have A12 := za A120
       clear A120
       by_cases c13 : t359 = true
       ·subst c13
        have H1 : (awardingbodylaw12_same.l0 k1 (wrap64 (x5_1 + 1)) l0_0 l1_0) = some r := by rw [if_pos rfl] at H; exact H
        clear H
        have H := H1
        clear H1
        have H' := za H
        clear H
        have hnb14 := NB355_356.out
        have hnc14 := NB356_355.out
        obtain ⟨hcz15_0, hfz15_0⟩ := z1 BK355
        have p357 : 0 ≤ (x5_1 : Int) := of_decide_eq_true (by first | (with_reducible assumption) | assumption)
        have q357 : x5_1 < (l0_0.length : Int) := of_decide_eq_true (by first | (with_reducible assumption) | assumption)
        obtain ⟨ad357, A357_0, c357_0, e357, hx357_0, hl357_0, hi357_0⟩ := at_L2 HR0_0.out x5_1 p357 q357
        cases e357
        replace hx357_0 := zx HB hx357_0
        have HR357_0 := za hi357_0
        have HC357_0 := za hl357_0
        clear hi357_0 hl357_0
        replace p357 := eq_true p357
        replace q357 := eq_true q357
        obtain ⟨hcz16_0, hfz16_0⟩ := z1 BK356
        have p358 : 0 ≤ (x5_1 : Int) := of_decide_eq_true (by first | (with_reducible assumption) | assumption)
        have q358 : x5_1 < (l1_0.length : Int) := of_decide_eq_true (by first | (with_reducible assumption) | assumption)
        obtain ⟨ad358, A358_0, c358_0, e358, hx358_0, hl358_0, hi358_0⟩ := at_L2 HR1_0.out x5_1 p358 q358
        cases e358
        replace hx358_0 := zx HB hx358_0
        have HR358_0 := za hi358_0
        have HC358_0 := za hl358_0
        clear hi358_0 hl358_0
        replace p358 := eq_true p358
        replace q358 := eq_true q358
        go_wp2_with (first | (go_at_call 32; (with_reducible refine (awardingbodyref06_Ints.calls k1 _ _ (rd_L2 l0_0 x5_1) _ _ (rd_L2 l1_0 x5_1) true _ ?side1 ?side2 ?side3 ?side4 A12.out).mono ?_); (case side1 => exact zC HR357_0 HB); (case side2 => exact HC357_0.out); (case side3 => exact zC HR358_0 HB); (case side4 => exact HC358_0.out); rintro e w' ⟨rfl, ⟨nd, rfl⟩⟩; (try first | exact ⟨rfl, _, World.drewN_drewN _ _ _⟩ | exact ⟨rfl, _, Eq.trans (World.drewN_drewN _ _ _) (congrArg (World.drewN _) (Nat.add_assoc _ _ _))⟩)))
        repeat (go_quiet (first | (go_at_call 32; (with_reducible refine (awardingbodyref06_Ints.calls k1 _ _ (rd_L2 l0_0 x5_1) _ _ (rd_L2 l1_0 x5_1) true _ ?side1 ?side2 ?side3 ?side4 A12.out).mono ?_); (case side1 => exact zC HR357_0 HB); (case side2 => exact HC357_0.out); (case side3 => exact zC HR358_0 HB); (case side4 => exact HC358_0.out); rintro e w' ⟨rfl, ⟨nd, rfl⟩⟩; (try first | exact ⟨rfl, _, World.drewN_drewN _ _ _⟩ | exact ⟨rfl, _, Eq.trans (World.drewN_drewN _ _ _) (congrArg (World.drewN _) (Nat.add_assoc _ _ _))⟩))); try go_wp2_with (first | (go_at_call 32; (with_reducible refine (awardingbodyref06_Ints.calls k1 _ _ (rd_L2 l0_0 x5_1) _ _ (rd_L2 l1_0 x5_1) true _ ?side1 ?side2 ?side3 ?side4 A12.out).mono ?_); (case side1 => exact zC HR357_0 HB); (case side2 => exact HC357_0.out); (case side3 => exact zC HR358_0 HB); (case side4 => exact HC358_0.out); rintro e w' ⟨rfl, ⟨nd, rfl⟩⟩; (try first | exact ⟨rfl, _, World.drewN_drewN _ _ _⟩ | exact ⟨rfl, _, Eq.trans (World.drewN_drewN _ _ _) (congrArg (World.drewN _) (Nat.add_assoc _ _ _))⟩))))
        go_roundg k1
        case measure => have := HK1.out; omega
        case rel => exact ⟨(wrap64 (x5_1 + 1)), (by first | rfl | (simp; done) | (simp [*]; done)), H', ⟨by have := HK1.out; omega⟩, ⟨by (with_reducible repeat (first | refine blk_drewN ?_ _ | refine blk_drew ?_ | refine blk_alloc ?_ _)); exact BK355.out⟩, ⟨by (with_reducible repeat (first | refine blk_drewN ?_ _ | refine blk_drew ?_ | refine blk_alloc ?_ _)); exact BK356.out⟩, ⟨zm HB⟩⟩
       ·replace c13 := Bool.eq_false_iff.mpr c13
        subst c13
        have H1 : (some false) = some r := by rw [if_neg (show ¬ (false = true) by decide)] at H; exact H
        clear H
        have H := H1
        clear H1
        obtain rfl := Option.some.inj H
        have hnb17 := NB355_356.out
        have hnc17 := NB356_355.out
        obtain ⟨hcz18_0, hfz18_0⟩ := z1 BK355
        have p357 : 0 ≤ (x5_1 : Int) := of_decide_eq_true (by first | (with_reducible assumption) | assumption)
        have q357 : x5_1 < (l0_0.length : Int) := of_decide_eq_true (by first | (with_reducible assumption) | assumption)
        obtain ⟨ad357, A357_0, c357_0, e357, hx357_0, hl357_0, hi357_0⟩ := at_L2 HR0_0.out x5_1 p357 q357
        cases e357
        replace hx357_0 := zx HB hx357_0
        have HR357_0 := za hi357_0
        have HC357_0 := za hl357_0
        clear hi357_0 hl357_0
        replace p357 := eq_true p357
        replace q357 := eq_true q357
        obtain ⟨hcz19_0, hfz19_0⟩ := z1 BK356
        have p358 : 0 ≤ (x5_1 : Int) := of_decide_eq_true (by first | (with_reducible assumption) | assumption)
        have q358 : x5_1 < (l1_0.length : Int) := of_decide_eq_true (by first | (with_reducible assumption) | assumption)
        obtain ⟨ad358, A358_0, c358_0, e358, hx358_0, hl358_0, hi358_0⟩ := at_L2 HR1_0.out x5_1 p358 q358
        cases e358
        replace hx358_0 := zx HB hx358_0
        have HR358_0 := za hi358_0
        have HC358_0 := za hl358_0
        clear hi358_0 hl358_0
        replace p358 := eq_true p358
        replace q358 := eq_true q358
        go_wp2_with (first | (go_at_call 32; (with_reducible refine (awardingbodyref06_Ints.calls k1 _ _ (rd_L2 l0_0 x5_1) _ _ (rd_L2 l1_0 x5_1) false _ ?side1 ?side2 ?side3 ?side4 A12.out).mono ?_); (case side1 => exact zC HR357_0 HB); (case side2 => exact HC357_0.out); (case side3 => exact zC HR358_0 HB); (case side4 => exact HC358_0.out); rintro e w' ⟨rfl, ⟨nd, rfl⟩⟩; (try first | exact ⟨rfl, _, World.drewN_drewN _ _ _⟩ | exact ⟨rfl, _, Eq.trans (World.drewN_drewN _ _ _) (congrArg (World.drewN _) (Nat.add_assoc _ _ _))⟩)))
        repeat (go_quiet (first | (go_at_call 32; (with_reducible refine (awardingbodyref06_Ints.calls k1 _ _ (rd_L2 l0_0 x5_1) _ _ (rd_L2 l1_0 x5_1) false _ ?side1 ?side2 ?side3 ?side4 A12.out).mono ?_); (case side1 => exact zC HR357_0 HB); (case side2 => exact HC357_0.out); (case side3 => exact zC HR358_0 HB); (case side4 => exact HC358_0.out); rintro e w' ⟨rfl, ⟨nd, rfl⟩⟩; (try first | exact ⟨rfl, _, World.drewN_drewN _ _ _⟩ | exact ⟨rfl, _, Eq.trans (World.drewN_drewN _ _ _) (congrArg (World.drewN _) (Nat.add_assoc _ _ _))⟩))); try go_wp2_with (first | (go_at_call 32; (with_reducible refine (awardingbodyref06_Ints.calls k1 _ _ (rd_L2 l0_0 x5_1) _ _ (rd_L2 l1_0 x5_1) false _ ?side1 ?side2 ?side3 ?side4 A12.out).mono ?_); (case side1 => exact zC HR357_0 HB); (case side2 => exact HC357_0.out); (case side3 => exact zC HR358_0 HB); (case side4 => exact HC358_0.out); rintro e w' ⟨rfl, ⟨nd, rfl⟩⟩; (try first | exact ⟨rfl, _, World.drewN_drewN _ _ _⟩ | exact ⟨rfl, _, Eq.trans (World.drewN_drewN _ _ _) (congrArg (World.drewN _) (Nat.add_assoc _ _ _))⟩))))
        go_ret
        exact ⟨zf, zm HB⟩
      ·rw [if_neg c11] at H
       exact absurd H (by simp)
     ·rw [if_neg c10] at H
      exact absurd H (by simp)
    ·rw [if_neg c9] at H
     have c9b0 : decide (x5_1 < (l0_0.length : Int)) = false := decide_eq_false c9
     clear c9
     obtain rfl := Option.some.inj H
     have hnb20 := NB355_356.out
     have hnc20 := NB356_355.out
     obtain ⟨hcz21_0, hfz21_0⟩ := z1 BK355
     go_wp2
     repeat (go_quiet (fail); try go_wp2)
     go_ret
     exact ⟨zf, zm HB⟩
 ·rw [if_neg c3] at H
  have c3b0 : ((l0_0.length : Int) == (l1_0.length : Int)) = false := beq_eq_false_iff_ne.mpr c3
  have c3b1 : ((l0_0.length : Int) != (l1_0.length : Int)) = true := bne_iff_ne.mpr c3
  have c3b2 : (l0_0.length == l1_0.length) = false := by first | simpa using c3 | (simp at c3 ⊢; omega)
  obtain rfl := Option.some.inj H
  go_enter Try.func20, Try.ntmps20
  go_wp2_with (first | ((with_reducible refine gate_dst (N := 2) rfl ?_); refine zE 2 #[.slice A0_0 l0_0.length c0_0] 38 ?_; intro gb355 hg w22 hbox hb; have BK355 := za (hbox); have GW355 := zg HB hg; have GE355 := zg HB hg; replace HB := zs HB hb; clear hb hbox hg) | ((with_reducible refine gate_dst (N := 3) rfl ?_); refine zE 3 #[.slice A1_0 l1_0.length c1_0] 38 ?_; intro gb356 hg w23 hbox hb; have BK356 := za (hbox); have GW356 := zg HB hg; have GE356 := zg HB hg; have NB355_356 := zl BK355 hg; have NB356_355 := zr BK355 hg; replace BK355 := zb BK355 hb; replace HB := zs HB hb; clear hb hbox hg; have hnb24 := NB355_356.out; have hnc24 := NB356_355.out; obtain ⟨hcz25_0, hfz25_0⟩ := z1 BK355; obtain ⟨hcz26_0, hfz26_0⟩ := z1 BK356))
  repeat (go_quiet (first | ((with_reducible refine gate_dst (N := 2) rfl ?_); refine zE 2 #[.slice A0_0 l0_0.length c0_0] 38 ?_; intro gb355 hg w22 hbox hb; have BK355 := za (hbox); have GW355 := zg HB hg; have GE355 := zg HB hg; replace HB := zs HB hb; clear hb hbox hg) | ((with_reducible refine gate_dst (N := 3) rfl ?_); refine zE 3 #[.slice A1_0 l1_0.length c1_0] 38 ?_; intro gb356 hg w23 hbox hb; have BK356 := za (hbox); have GW356 := zg HB hg; have GE356 := zg HB hg; have NB355_356 := zl BK355 hg; have NB356_355 := zr BK355 hg; replace BK355 := zb BK355 hb; replace HB := zs HB hb; clear hb hbox hg; have hnb24 := NB355_356.out; have hnc24 := NB356_355.out; obtain ⟨hcz25_0, hfz25_0⟩ := z1 BK355; obtain ⟨hcz26_0, hfz26_0⟩ := z1 BK356)); try go_wp2_with (first | ((with_reducible refine gate_dst (N := 2) rfl ?_); refine zE 2 #[.slice A0_0 l0_0.length c0_0] 38 ?_; intro gb355 hg w22 hbox hb; have BK355 := za (hbox); have GW355 := zg HB hg; have GE355 := zg HB hg; replace HB := zs HB hb; clear hb hbox hg) | ((with_reducible refine gate_dst (N := 3) rfl ?_); refine zE 3 #[.slice A1_0 l1_0.length c1_0] 38 ?_; intro gb356 hg w23 hbox hb; have BK356 := za (hbox); have GW356 := zg HB hg; have GE356 := zg HB hg; have NB355_356 := zl BK355 hg; have NB356_355 := zr BK355 hg; replace BK355 := zb BK355 hb; replace HB := zs HB hb; clear hb hbox hg; have hnb24 := NB355_356.out; have hnc24 := NB356_355.out; obtain ⟨hcz25_0, hfz25_0⟩ := z1 BK355; obtain ⟨hcz26_0, hfz26_0⟩ := z1 BK356)))
  go_ret
  exact ⟨zf, zm HB⟩

end Go.Proofs.Ytdmlbgdefapcjaa.Print
