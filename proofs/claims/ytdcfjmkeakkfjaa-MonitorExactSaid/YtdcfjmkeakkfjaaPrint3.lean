-- Printed by a program of this session (wip/own_print.py) out of the translation; Lean checks it.
import Derived.Test.YtdcfjmkeakkfjaaShort
import Derived.Test.YtdcfjmkeakkfjaaPrint0
import Derived.Test.YtdcfjmkeakkfjaaPrint2
namespace Go.Proofs.Ytdcfjmkeakkfjaa.Print
open Go.RowKit Go.Proofs.YtdcfjmkeakkfjaaW.PrintWords Go.Proofs.YtdcfjmkeakkfjaaW.PrintLast Go.Proofs.YtdcfjmkeakkfjaaW.PrintMore
attribute [local go_sem] max2_int min2_int max_two min_two max_three min_three max_four min_four   -- for this text's walks alone
set_option linter.unusedVariables false
set_option linter.unusedSimpArgs false

/-! ### awardingbodyref27_Step: function 24 -/
def awardingbodyref27_Step.f (k : Nat) (a0_0 : Int) (a0_1 : Int) (a0_2 : Int) (a0_3 : Int) (l1_0 : List Bool) (a1_1 : Bool) (a2 : Bool) : Option (List Bool × Bool × Int) := (awardingbodyref27_Valid.f k a0_0 a0_1 a0_2 a0_3 l1_0 a1_1).bind fun t214 => (if t214 = true then (if a1_1 = true then (some (([] : List Bool), false, 8)) else (if ([] : List Bool).length + l1_0.length < 140737488355328 then ((some (([] : List Bool) ++ l1_0 : List Bool)).bind fun y215 => (if y215.length < 140737488355328 then ((some (y215 ++ [a2] : List Bool)).bind fun y218 => (if (y218.length : Int) > a0_2 then (if 1 ≤ (y218.length : Int) then ((some (y218.drop (1 : Int).toNat : List Bool)).bind fun y221 => ((awardingbodyref27_fails.f k y221).bind fun t224 => (some (y221, decide (t224 ≥ a0_3), 0)))) else (none)) else ((awardingbodyref27_fails.f k y218).bind fun t225 => (some (y218, decide (t225 ≥ a0_3), 0))))) else (none))) else (none))) else (some (([] : List Bool), false, 1)))
theorem awardingbodyref27_Step.mono : ∀ a0 a1 a2 a3 a4 a5 a6 k, LeO (awardingbodyref27_Step.f k a0 a1 a2 a3 a4 a5 a6) (awardingbodyref27_Step.f (k + 1) a0 a1 a2 a3 a4 a5 a6) := by
  intro a0 a1 a2 a3 a4 a5 a6 k
  unfold awardingbodyref27_Step.f
  repeat' first
      | (with_reducible exact awardingbodyref27_Valid.mono _ _ _ _ _ _ _)
      | (with_reducible exact awardingbodyref27_fails.mono _ _)
      | (with_reducible exact LeO.refl _)
      | (with_reducible exact LeO.none _)
      | (with_reducible refine LeO.ite ?_ ?_)
      | (with_reducible refine LeO.bind ?_ (fun _ => ?_))
      | exact awardingbodyref27_Valid.mono _ _ _ _ _ _ _
      | exact awardingbodyref27_fails.mono _ _
      | exact LeO.none _
      | refine LeO.ite ?_ ?_
      | refine LeO.bind ?_ (fun _ => ?_)
def awardingbodyref27_Step.T8 : Bool × List (List Nat × List Nat) := (true, [([], []), ([], []), ([1], [1]), ([], []), ([3], [3]), ([2, 4], [2, 4]), ([0, 5], [0, 5]), ([6, 2, 0, 1, 2, 3, 4, 5, 6], [6]), ([7, 0, 1, 2, 3, 4, 5, 6, 7], [])])
def awardingbodyref27_Step.B8 : List Nat := [0, 0, 2, 0, 8, 30, 63, 127, 255]
theorem awardingbodyref27_Step.tab8 : rtab .any (opsOf Try.f24 8) = awardingbodyref27_Step.T8 := by kernel_rfl
theorem awardingbodyref27_Step.bits8 : waitsOk awardingbodyref27_Step.T8.2 awardingbodyref27_Step.B8 = true := by kernel_rfl
set_option maxHeartbeats 8000000 in
set_option maxRecDepth 100000 in
theorem awardingbodyref27_Step.calls (k : Nat) (a0_0 : Int) (a0_1 : Int) (a0_2 : Int) (a0_3 : Int) (A1_0 : Option Addr) (c1_0 : Nat) (l1_0 : List Bool) (a1_1 : Bool) (a2 : Bool) (r1 : List Bool) (r2 : Bool) (r3 : Int) (w : World) (hr1_0 : Kd.C Kd.bool w A1_0 l1_0.length l1_0) (hc1_0 : l1_0.length ≤ c1_0) (h : awardingbodyref27_Step.f k a0_0 a0_1 a0_2 a0_3 l1_0 a1_1 a2 = some (r1, r2, r3)) :
    Calls Try.prog 24 #[.agg #[.int .i64 a0_0, .int .i64 a0_1, .int .i64 a0_2, .int .i64 a0_3], .agg #[.slice A1_0 l1_0.length c1_0, .bool a1_1], .bool a2] w fun e w' => ∃ v0_ : Value, e = .returned (.tuple #[.agg #[v0_, .bool r2], .int .i64 r3]) ∧ Kd.Q Kd.bool 4 w' w.heap.size (fun _ => True) v0_ r1 ∧ Below w.heap.size w w' := by
 have hu24 := Try.underlying24
 have hu27 := Try.underlying27
 have HR1_0 := za hr1_0
 have HC1_0 := za hc1_0
 clear hr1_0 hc1_0
 have HB := za (Below.refl w.heap.size w)
 have H : ((awardingbodyref27_Valid.f k a0_0 a0_1 a0_2 a0_3 l1_0 a1_1).bind fun t214 => (if t214 = true then (if a1_1 = true then (some (([] : List Bool), false, 8)) else (if ([] : List Bool).length + l1_0.length < 140737488355328 then ((some (([] : List Bool) ++ l1_0 : List Bool)).bind fun y215 => (if y215.length < 140737488355328 then ((some (y215 ++ [a2] : List Bool)).bind fun y218 => (if (y218.length : Int) > a0_2 then (if 1 ≤ (y218.length : Int) then ((some (y218.drop (1 : Int).toNat : List Bool)).bind fun y221 => ((awardingbodyref27_fails.f k y221).bind fun t224 => (some (y221, decide (t224 ≥ a0_3), 0)))) else (none)) else ((awardingbodyref27_fails.f k y218).bind fun t225 => (some (y218, decide (t225 ≥ a0_3), 0))))) else (none))) else (none))) else (some (([] : List Bool), false, 1)))) = some (r1, r2, r3) := h
 clear h
 replace H := Option.bind_eq_some_iff.mp H
 obtain ⟨t214, A40, H⟩ := H
 replace H : (if t214 = true then (if a1_1 = true then (some (([] : List Bool), false, 8)) else (if ([] : List Bool).length + l1_0.length < 140737488355328 then ((some (([] : List Bool) ++ l1_0 : List Bool)).bind fun y215 => (if y215.length < 140737488355328 then ((some (y215 ++ [a2] : List Bool)).bind fun y218 => (if (y218.length : Int) > a0_2 then (if 1 ≤ (y218.length : Int) then ((some (y218.drop (1 : Int).toNat : List Bool)).bind fun y221 => ((awardingbodyref27_fails.f k y221).bind fun t224 => (some (y221, decide (t224 ≥ a0_3), 0)))) else (none)) else ((awardingbodyref27_fails.f k y218).bind fun t225 => (some (y218, decide (t225 ≥ a0_3), 0))))) else (none))) else (none))) else (some (([] : List Bool), false, 1))) = some (r1, r2, r3) := H
 have A4 := za A40
 clear A40
 by_cases c5 : t214 = true
 ·subst c5
  have H1 : (if a1_1 = true then (some (([] : List Bool), false, 8)) else (if ([] : List Bool).length + l1_0.length < 140737488355328 then ((some (([] : List Bool) ++ l1_0 : List Bool)).bind fun y215 => (if y215.length < 140737488355328 then ((some (y215 ++ [a2] : List Bool)).bind fun y218 => (if (y218.length : Int) > a0_2 then (if 1 ≤ (y218.length : Int) then ((some (y218.drop (1 : Int).toNat : List Bool)).bind fun y221 => ((awardingbodyref27_fails.f k y221).bind fun t224 => (some (y221, decide (t224 ≥ a0_3), 0)))) else (none)) else ((awardingbodyref27_fails.f k y218).bind fun t225 => (some (y218, decide (t225 ≥ a0_3), 0))))) else (none))) else (none))) = some (r1, r2, r3) := by rw [if_pos rfl] at H; exact H
  clear H
  have H := H1
  clear H1
  by_cases c6 : a1_1 = true
  ·subst c6
   have H1 : (some (([] : List Bool), false, 8)) = some (r1, r2, r3) := by rw [if_pos rfl] at H; exact H
   clear H
   have H := H1
   clear H1
   simp only [Option.some.injEq, Prod.mk.injEq] at H
   obtain ⟨rfl, rfl, rfl⟩ := H
   go_enter Try.func24, Try.ntmps24
   go_wp2_with (first | ((with_reducible refine gate_dst (N := 3) rfl ?_); refine zE 3 #[.int .i64 a0_0, .int .i64 a0_1, .int .i64 a0_2, .int .i64 a0_3] 24 ?_; intro gb211 hg w7 hbox hb; have BK211 := za (hbox); have GW211 := zg HB hg; have GE211 := zg HB hg; replace HB := zs HB hb; clear hb hbox hg) | ((with_reducible refine gate_dst (N := 4) rfl ?_); refine zE 4 #[.slice A1_0 l1_0.length c1_0, .bool true] 27 ?_; intro gb212 hg w8 hbox hb; have BK212 := za (hbox); have GW212 := zg HB hg; have GE212 := zg HB hg; have NB211_212 := zl BK211 hg; have NB212_211 := zr BK211 hg; replace BK211 := zb BK211 hb; replace HB := zs HB hb; clear hb hbox hg) | ((with_reducible refine gate_dst (N := 6) rfl ?_); refine zE 6 #[.slice none 0 0, .bool false] 27 ?_; intro gb213 hg w9 hbox hb; have BK213 := za (hbox); have GW213 := zg HB hg; have GE213 := zg HB hg; have NB211_213 := zl BK211 hg; have NB213_211 := zr BK211 hg; have NB212_213 := zl BK212 hg; have NB213_212 := zr BK212 hg; replace BK211 := zb BK211 hb; replace BK212 := zb BK212 hb; replace HB := zs HB hb; clear hb hbox hg; have hnb10 := NB211_212.out; have hnc10 := NB212_211.out; have hnb11 := NB211_213.out; have hnc11 := NB213_211.out; obtain ⟨hcz12_0, hcz12_1, hcz12_2, hcz12_3, hfz12_0, hfz12_1, hfz12_2, hfz12_3⟩ := z4 BK211; have hnb13 := NB212_213.out; have hnc13 := NB213_212.out; obtain ⟨hcz14_0, hcz14_1, hfz14_0, hfz14_1⟩ := z2 BK212) | ((with_reducible refine gate_callee (f := 19) rfl ?_); refine zL (some 11) Try.func19 #[.agg #[.int .i64 a0_0, .int .i64 a0_1, .int .i64 a0_2, .int .i64 a0_3], .agg #[.slice A1_0 l1_0.length c1_0, .bool true]] ?_; (with_reducible refine (awardingbodyref27_Valid.calls k a0_0 a0_1 a0_2 a0_3 _ _ l1_0 true true _ ?side1 ?side2 A4.out).mono ?_); (case side1 => exact zC HR1_0 HB); (case side2 => exact HC1_0.out); rintro e w15 ⟨rfl, hb⟩; refine ⟨_, rfl, ?_⟩; replace BK211 := zb BK211 hb; replace BK212 := zb BK212 hb; replace BK213 := zb BK213 hb; replace HB := zs HB hb; (try clear hb); (try clear hb2); (try clear hk); (try clear hi); obtain ⟨hcz16_0, hcz16_1, hfz16_0, hfz16_1⟩ := z2 BK212; obtain ⟨hcz17_0, hcz17_1, hfz17_0, hfz17_1⟩ := z2 BK213))
   refine bodyPost_ret (results_ct rfl _ _ gb213 27 #[.slice none 0 0, .bool false] (0, 0) _ rfl (by (with_reducible repeat (first | refine blk_drewN ?_ _ | refine blk_drew ?_ | refine blk_alloc ?_ _)); refine blk_put (cs := #[.slice none 0 0, .bool false]) ?_ 1 _ rfl; (with_reducible repeat (first | refine blk_drewN ?_ _ | refine blk_drew ?_ | refine blk_alloc ?_ _)); refine blk_put (cs := #[.slice none 0 0, .bool false]) ?_ 0 _ rfl; (with_reducible repeat (first | refine blk_drewN ?_ _ | refine blk_drew ?_ | refine blk_alloc ?_ _)); exact BK213.out) Try.underlying27 rfl (by kernel_rfl)) rfl ?_
   exact ⟨_, zf, Kd.Q_of_R (by first | exact Kd.R_nil _ _ _ _ _ | exact Kd.N_nil _ _ _ _ _ | exact Kd.V_nil _ _ _ _ _ | exact Kd.Q_nil _ _ _ _ _ | exact Kd.S_nil _ _ _ _ _), zm HB⟩
  ·replace c6 := Bool.eq_false_iff.mpr c6
   subst c6
   have H1 : (if ([] : List Bool).length + l1_0.length < 140737488355328 then ((some (([] : List Bool) ++ l1_0 : List Bool)).bind fun y215 => (if y215.length < 140737488355328 then ((some (y215 ++ [a2] : List Bool)).bind fun y218 => (if (y218.length : Int) > a0_2 then (if 1 ≤ (y218.length : Int) then ((some (y218.drop (1 : Int).toNat : List Bool)).bind fun y221 => ((awardingbodyref27_fails.f k y221).bind fun t224 => (some (y221, decide (t224 ≥ a0_3), 0)))) else (none)) else ((awardingbodyref27_fails.f k y218).bind fun t225 => (some (y218, decide (t225 ≥ a0_3), 0))))) else (none))) else (none)) = some (r1, r2, r3) := by rw [if_neg (show ¬ (false = true) by decide)] at H; exact H
   clear H
   have H := H1
   clear H1
   by_cases c18 : ([] : List Bool).length + l1_0.length < 140737488355328
   ·rw [if_pos c18] at H
    have LMc18 := za c18
    clear c18
    obtain ⟨y215, hy215⟩ : ∃ y_ : List Bool, y_ = (([] : List Bool) ++ l1_0) := ⟨_, rfl⟩
    replace H : (if y215.length < 140737488355328 then ((some (y215 ++ [a2] : List Bool)).bind fun y218 => (if (y218.length : Int) > a0_2 then (if 1 ≤ (y218.length : Int) then ((some (y218.drop (1 : Int).toNat : List Bool)).bind fun y221 => ((awardingbodyref27_fails.f k y221).bind fun t224 => (some (y221, decide (t224 ≥ a0_3), 0)))) else (none)) else ((awardingbodyref27_fails.f k y218).bind fun t225 => (some (y218, decide (t225 ≥ a0_3), 0))))) else (none)) = some (r1, r2, r3) := by first | (rw [hy215]; with_reducible exact H) | (have H2_ := (Option.bind_some _ _).symm.trans H; rw [hy215]; with_reducible exact H2_) | (have H2_ := (Option.bind_some _ _).symm.trans H; with_reducible exact H2_) | with_reducible exact H | (rw [hy215]; exact H) | exact H
    have Ny215 := za hy215
    clear hy215
    by_cases c19 : y215.length < 140737488355328
    ·rw [if_pos c19] at H
     have LMc19 := za c19
     clear c19
     obtain ⟨y218, hy218⟩ : ∃ y_ : List Bool, y_ = (y215 ++ [a2]) := ⟨_, rfl⟩
     replace H : (if (y218.length : Int) > a0_2 then (if 1 ≤ (y218.length : Int) then ((some (y218.drop (1 : Int).toNat : List Bool)).bind fun y221 => ((awardingbodyref27_fails.f k y221).bind fun t224 => (some (y221, decide (t224 ≥ a0_3), 0)))) else (none)) else ((awardingbodyref27_fails.f k y218).bind fun t225 => (some (y218, decide (t225 ≥ a0_3), 0)))) = some (r1, r2, r3) := by first | (rw [hy218]; with_reducible exact H) | (have H2_ := (Option.bind_some _ _).symm.trans H; rw [hy218]; with_reducible exact H2_) | (have H2_ := (Option.bind_some _ _).symm.trans H; with_reducible exact H2_) | with_reducible exact H | (rw [hy218]; exact H) | exact H
     have Ny218 := za hy218
     clear hy218
     by_cases c20 : (y218.length : Int) > a0_2
     ·rw [if_pos c20] at H
      have c20b0 : decide (a0_2 < (y218.length : Int)) = true := decide_eq_true c20
      clear c20
      by_cases c21 : 1 ≤ (y218.length : Int)
      ·rw [if_pos c21] at H
       have c21b0 := eq_true c21
       have c21b1 : decide (1 ≤ (y218.length : Int)) = true := decide_eq_true c21
       clear c21
       obtain ⟨y221, hy221⟩ : ∃ y_ : List Bool, y_ = (y218.drop (1 : Int).toNat) := ⟨_, rfl⟩
       replace H : ((awardingbodyref27_fails.f k y221).bind fun t224 => (some (y221, decide (t224 ≥ a0_3), 0))) = some (r1, r2, r3) := by first | (rw [hy221]; with_reducible exact H) | (have H2_ := (Option.bind_some _ _).symm.trans H; rw [hy221]; with_reducible exact H2_) | (have H2_ := (Option.bind_some _ _).symm.trans H; with_reducible exact H2_) | with_reducible exact H | (rw [hy221]; exact H) | exact H
       have Ny221 := za hy221
       clear hy221
       replace H := Option.bind_eq_some_iff.mp H
       obtain ⟨t224, A220, H⟩ := H
       replace H : (some (y221, decide (t224 ≥ a0_3), 0)) = some (r1, r2, r3) := H
       have A22 := za A220
       clear A220
       simp only [Option.some.injEq, Prod.mk.injEq] at H
       obtain ⟨rfl, rfl, rfl⟩ := H
       go_enter Try.func24, Try.ntmps24
       try go_wp2_with (first | ((with_reducible refine gate_dst (N := 3) rfl ?_); refine zE 3 #[.int .i64 a0_0, .int .i64 a0_1, .int .i64 a0_2, .int .i64 a0_3] 24 ?_; intro gb211 hg w23 hbox hb; have BK211 := za (hbox); have GW211 := zg HB hg; have GE211 := zg HB hg; replace HB := zs HB hb; clear hb hbox hg) | ((with_reducible refine gate_dst (N := 4) rfl ?_); refine zE 4 #[.slice A1_0 l1_0.length c1_0, .bool false] 27 ?_; intro gb212 hg w24 hbox hb; have BK212 := za (hbox); have GW212 := zg HB hg; have GE212 := zg HB hg; have NB211_212 := zl BK211 hg; have NB212_211 := zr BK211 hg; replace BK211 := zb BK211 hb; replace HB := zs HB hb; clear hb hbox hg) | ((with_reducible refine gate_dst (N := 6) rfl ?_); refine zE 6 #[.slice none 0 0, .bool false] 27 ?_; intro gb213 hg w25 hbox hb; have BK213 := za (hbox); have GW213 := zg HB hg; have GE213 := zg HB hg; have NB211_213 := zl BK211 hg; have NB213_211 := zr BK211 hg; have NB212_213 := zl BK212 hg; have NB213_212 := zr BK212 hg; replace BK211 := zb BK211 hb; replace BK212 := zb BK212 hb; replace HB := zs HB hb; clear hb hbox hg; have hnb26 := NB211_212.out; have hnc26 := NB212_211.out; have hnb27 := NB211_213.out; have hnc27 := NB213_211.out; obtain ⟨hcz28_0, hcz28_1, hcz28_2, hcz28_3, hfz28_0, hfz28_1, hfz28_2, hfz28_3⟩ := z4 BK211; have hnb29 := NB212_213.out; have hnc29 := NB213_212.out; obtain ⟨hcz30_0, hcz30_1, hfz30_0, hfz30_1⟩ := z2 BK212) | ((with_reducible refine gate_callee (f := 19) rfl ?_); refine zL (some 11) Try.func19 #[.agg #[.int .i64 a0_0, .int .i64 a0_1, .int .i64 a0_2, .int .i64 a0_3], .agg #[.slice A1_0 l1_0.length c1_0, .bool false]] ?_; (with_reducible refine (awardingbodyref27_Valid.calls k a0_0 a0_1 a0_2 a0_3 _ _ l1_0 false true _ ?side1 ?side2 A4.out).mono ?_); (case side1 => exact zC HR1_0 HB); (case side2 => exact HC1_0.out); rintro e w31 ⟨rfl, hb⟩; refine ⟨_, rfl, ?_⟩; replace BK211 := zb BK211 hb; replace BK212 := zb BK212 hb; replace BK213 := zb BK213 hb; replace HB := zs HB hb; (try clear hb); (try clear hb2); (try clear hk); (try clear hi); obtain ⟨hcz32_0, hcz32_1, hfz32_0, hfz32_1⟩ := z2 BK212) | ((with_reducible refine gate_builtin (b := .append) (xs := #[.const (.slice none 0 0), .tmp 18]) rfl ?_); at_builtin; refine Kd.R_append_rows Kd.bool (w0 := w) w.heap.size rfl (.const (.slice none 0 0)) (.tmp 18) 25 4 (.bool false) 1 rfl Try.underlying25 info4 rfl (by decide) (by omega) (.slice none 0 0) ([] : List Bool) l1_0 _ _ _ (fun _ => True) (fun _ => False) rfl rfl ?aO ?aR (fun _ _ h => h) (fun _ h => h.elim) ?aF ?aB ?aS ?aL ?_; (case aR => exact zC HR1_0 HB); (case aB => exact (zm HB)); (case aF => exact (fun _ _ => trivial)); (case aO => exact ((Kd.R_nil _ _ _ _ (fun _ => True)))); (case aS => exact (below_size (zm HB))); (case aL => have := LMc18.out; omega); intro v216 w33 ho hb hg hat; rw [← Ny215.out] at ho; have HO217 := za (ho); replace BK211 := (zw BK211 hg (by simp [Value.ownBlock])); replace BK212 := (zw BK212 hg (by simp [Value.ownBlock])); replace BK213 := (zw BK213 hg (by simp [Value.ownBlock])); replace HB := za (hb); clear ho hb hg hat) | ((with_reducible refine gate_builtin (b := .append) (xs := #[.tmp 19, .tmp 21]) rfl ?_); at_builtin; refine Kd.R_append Kd.bool (w0 := w) w.heap.size rfl (.tmp 19) (.tmp 21) 25 4 (.bool false) 1 rfl Try.underlying25 info4 rfl (by decide) (by omega) v216 y215 a2 [.bool a2] (fun _ => True) (fun _ => False) rfl rfl ?aP (fun _ hk => hk.elim) ?aF ?aO ?aB ?aS ?aL ?_; (case aP => exact rfl); (case aB => exact (zm HB)); (case aF => exact (fun _ _ => trivial)); (case aO => exact (by (with_reducible repeat (first | apply Kd.R_alloc | apply Kd.R_drewN | apply Kd.R_drew)); exact HO217.out)); (case aS => exact (below_size (zm HB))); (case aL => have := LMc19.out; omega); intro v219 w34 ho hb hg hat; rw [← Ny218.out] at ho; have HO220 := za (ho); replace BK211 := (zw BK211 hg (Kd.R_ne HO217.out BK211.out (by decide))); replace BK212 := (zw BK212 hg (Kd.R_ne HO217.out BK212.out (by decide))); replace BK213 := (zw BK213 hg (Kd.R_ne HO217.out BK213.out (by decide))); replace HB := za (hb); clear HO217 ho hb hg hat; obtain ⟨Ao35, co35, eo35⟩ := Kd.R_slice HO220.out; subst eo35; obtain ⟨hcz36_0, hcz36_1, hcz36_2, hcz36_3, hfz36_0, hfz36_1, hfz36_2, hfz36_3⟩ := z4 BK211; have q37 : (1 : Int) ≤ ((y218.length : Int) : Int) := of_decide_eq_true (by first | (with_reducible assumption) | assumption); obtain ⟨i037, hi037, _, hsz37, _⟩ := info_parts info4; have hcut37 := cut_from (P := Try.prog) 25 4 .i64 Try.underlying25 hi037 1 hsz37 Ao35 y218.length co35 1 (by omega) q37; have hr37 := Kd.Q_drop (k := (1 : Int).toNat) (Kd.Q_of_R HO220.out) (by omega); obtain ⟨A37, hA37⟩ : ∃ A1, A1 = (if co35 = (1 : Int).toNat then Ao35 else (Ao35 : Option Addr).map (·.add ((1 : Int).toNat * 1))) := ⟨_, rfl⟩; obtain ⟨c37, hc37⟩ : ∃ c1, c1 = co35 - (1 : Int).toNat := ⟨_, rfl⟩; have hy37 : y221.length = y218.length - (1 : Int).toNat := (by rw [Ny221.out, List.length_drop]); rw [← Ny221.out] at hr37; rw [← hy37, ← hA37, ← hc37] at hcut37; replace hr37 : Kd.Q Kd.bool 4 w34 w.heap.size (fun _ => True) (.slice A37 y221.length c37) y221 := (by rw [hA37, hc37, hy37]; exact hr37); have HE37 : Aside0 ((Value.slice A37 y221.length c37).ownBlock = (.slice Ao35 y218.length co35 : Value).ownBlock) := ⟨by rw [hA37]; split <;> (cases (Ao35 : Option Addr) <;> first | rfl | (show some (Addr.add _ _).block = some _; unfold Addr.add; split <;> rfl))⟩; clear hy37 hi037 hsz37 HO220 hA37 hc37; have HO223 := za hr37; clear hr37; replace q37 := eq_true q37))
       replace HO223 := za (Kd.Q_drew HO223.out)
       replace BK211 := za (blk_drew BK211.out)
       replace BK212 := za (blk_drew BK212.out)
       replace BK213 := za (blk_drew BK213.out)
       replace HB := za (below_drew1 HB.out)
       refine start_ (n := 9) (S := fun w' => w'.cell? ⟨gb211, 0, none⟩ = some (.int .i64 a0_0) ∧ w'.cell? ⟨gb211, 1, none⟩ = some (.int .i64 a0_1) ∧ w'.cell? ⟨gb211, 2, none⟩ = some (.int .i64 a0_2) ∧ w'.cell? ⟨gb211, 3, none⟩ = some (.int .i64 a0_3)) (ds := []) #[false, false, false, false, false, false, false, false, false] (by kernel_rfl) rfl rfl ⟨(blk_cell BK211.out 0).trans rfl, (blk_cell BK211.out 1).trans rfl, (blk_cell BK211.out 2).trans rfl, (blk_cell BK211.out 3).trans rfl⟩ (fun hHeld => ?_); refine with_tabW awardingbodyref27_Step.tab8 awardingbodyref27_Step.bits8 (fun HT_ HW_ => ?_)
       generalize w34.drew = w38 at HO223 BK211 BK212 BK213 HB hHeld ⊢
       refine pure_ (i := 0) (N := some 30) (v := ?_) (a' := ?_) #[true, false, false, false, false, false, false, false, false] rfl rfl (any_of HT_.out (by kernel_rfl)) (fun _ _ _ h => h) (Or.inl ⟨by rfl, ?_⟩) ?_ ?_
       rotate_left
       ·intro w'
        go_simp
        with_reducible rfl
       rotate_left
       ·simp only [Act.put, List.setIfInBounds_toArray, List.set_cons_zero, List.set_cons_succ, i64_w, i32_w]
        rfl
       refine pure_ (i := 1) (N := some 31) (v := ?_) (a' := ?_) #[true, true, false, false, false, false, false, false, false] rfl rfl (any_of HT_.out (by kernel_rfl)) (fun _ _ _ h => h) (Or.inl ⟨by rfl, ?_⟩) ?_ ?_
       rotate_left
       ·intro w'
        go_simp
        with_reducible rfl
       rotate_left
       ·simp only [Act.put, List.setIfInBounds_toArray, List.set_cons_zero, List.set_cons_succ, i64_w, i32_w]
        rfl
       refine pure_ (i := 3) (N := some 33) (v := ?_) (a' := ?_) #[true, true, false, true, false, false, false, false, false] rfl rfl (any_of HT_.out (by kernel_rfl)) (fun _ _ _ h => h) (Or.inl ⟨by rfl, ?_⟩) ?_ ?_
       rotate_left
       ·intro w'
        go_simp
        with_reducible rfl
       rotate_left
       ·simp only [Act.put, List.setIfInBounds_toArray, List.set_cons_zero, List.set_cons_succ, i64_w, i32_w]
        rfl
       refine take_ (i := 4) (N := some 34) (v := ?_) (a' := ?_) #[true, true, false, true, true, false, false, false, false] rfl rfl (take_ofW HT_.out HW_.out (by kernel_rfl)) (fun _ _ _ h => h) (Or.inl ⟨by rfl, ?_⟩) hHeld ?_ ?_
       rotate_left
       ·rintro w' ⟨s0, s1, s2, s3⟩
        go_simp
        with_reducible rfl
       rotate_left
       ·simp only [Act.put, List.setIfInBounds_toArray, List.set_cons_zero, List.set_cons_succ, i64_w, i32_w]
        rfl
       refine one_ (i := 2) (N := some 32) #[true, true, true, true, true, false, false, false, false] rfl rfl (one_of HT_.out (by kernel_rfl)) (by decide) (fun K hK => ?_)
       refine goes_ Try.func31 (by kernel_rfl) rfl #[.slice A37 y221.length c37] (by rfl) rfl rfl (by (try simp only [List.map_toArray, List.map_cons, List.map_nil]); first | done | rfl | (simp only [List.length_drop, List.length_take]; rfl)) ?_
       with_reducible refine (awardingbodyref27_fails.calls k _ _ y221 t224 _ ?side1 ?side2 A22.out).mono ?_
       (case side1 => repeat (first | exact (Kd.Q_reads' HO223.out).2.2 | (with_reducible refine Kd.C_alloc ?_ _) | (with_reducible refine Kd.C_drewN ?_ _) | (with_reducible refine Kd.C_drew ?_)))
       (case side2 => exact (Kd.Q_reads' HO223.out).2.1)
       rintro e w' ⟨rfl, ⟨nd, rfl⟩⟩
       refine ⟨_, rfl, ?_⟩
       refine hK.out _ _ ⟨(blk_cell BK211.out 0).trans rfl, (blk_cell BK211.out 1).trans rfl, (blk_cell BK211.out 2).trans rfl, (blk_cell BK211.out 3).trans rfl⟩ (fun hHeld => ?_)
       clear hK K
       refine norm_ (a' := ?_) ?_ ?_
       rotate_left
       ·show Act.put _ (some 32) _ = _
        simp only [Act.put, List.setIfInBounds_toArray, List.set_cons_zero, List.set_cons_succ, i64_w, i32_w]
        rfl
       refine pure_ (i := 5) (N := some 35) (v := ?_) (a' := ?_) #[true, true, true, true, true, true, false, false, false] rfl rfl (any_of HT_.out (by kernel_rfl)) (fun _ _ _ h => h) (Or.inl ⟨by rfl, ?_⟩) ?_ ?_
       rotate_left
       ·intro w'
        go_simp
        with_reducible rfl
       rotate_left
       ·simp only [Act.put, List.setIfInBounds_toArray, List.set_cons_zero, List.set_cons_succ, i64_w, i32_w]
        rfl
       refine pure_ (i := 6) (N := some 36) (v := ?_) (a' := ?_) #[true, true, true, true, true, true, true, false, false] rfl rfl (any_of HT_.out (by kernel_rfl)) (fun _ _ _ h => h) (Or.inl ⟨by rfl, ?_⟩) ?_ ?_
       rotate_left
       ·intro w'
        go_simp
        with_reducible rfl
       rotate_left
       ·simp only [Act.put, List.setIfInBounds_toArray, List.set_cons_zero, List.set_cons_succ, i64_w, i32_w]
        rfl
       refine one_ (i := 7) (N := none) #[true, true, true, true, true, true, true, true, false] rfl rfl (one_of HT_.out (by kernel_rfl)) (by decide) (fun K hK => ?_)
       have hs39 : w38.cell? ⟨gb213, 0, none⟩ = some (.slice none 0 0) := (blk_cell BK213.out 0).trans rfl
       have hfs39 := blk_frozen BK213.out 0
       have hns39_0 := NB211_213.out
       have hns39_1 := NB212_213.out
       have hms39_0 := NB213_211.out
       have hms39_1 := NB213_212.out
       have hs40 : w38.cell? ⟨gb213, 1, none⟩ = some (.bool false) := (blk_cell BK213.out 1).trans rfl
       have hfs40 := blk_frozen BK213.out 1
       have hns40_0 := NB211_213.out
       have hns40_1 := NB212_213.out
       have hms40_0 := NB213_211.out
       have hms40_1 := NB213_212.out
       refine skip_ (w1 := ?_) (by rfl) rfl ?_ ?_
       rotate_left
       ·go_simp
        rfl
       refine hK.out _ _ ⟨((cell_far (p := ⟨gb213, _, none⟩) NB211_213.out _).trans (((cell_far (p := ⟨gb213, _, none⟩) NB211_213.out _).trans (hHeld.1)))), ((cell_far (p := ⟨gb213, _, none⟩) NB211_213.out _).trans (((cell_far (p := ⟨gb213, _, none⟩) NB211_213.out _).trans (hHeld.2.1)))), ((cell_far (p := ⟨gb213, _, none⟩) NB211_213.out _).trans (((cell_far (p := ⟨gb213, _, none⟩) NB211_213.out _).trans (hHeld.2.2.1)))), ((cell_far (p := ⟨gb213, _, none⟩) NB211_213.out _).trans (((cell_far (p := ⟨gb213, _, none⟩) NB211_213.out _).trans (hHeld.2.2.2))))⟩ (fun hHeld => ?_)
       clear hK K
       refine pure_ (i := 8) (N := some 7) (v := ?_) (a' := ?_) #[true, true, true, true, true, true, true, true, true] rfl rfl (any_of HT_.out (by kernel_rfl)) (fun _ _ _ h => h) (Or.inl ⟨by rfl, ?_⟩) ?_ ?_
       rotate_left
       ·intro w'
        go_simp
        with_reducible rfl
       rotate_left
       ·simp only [Act.put, List.setIfInBounds_toArray, List.set_cons_zero, List.set_cons_succ, i64_w, i32_w]
        rfl
       refine done_ (done_of HT_.out (by kernel_rfl)) ?_
       try go_wp2
       refine bodyPost_ret (results_ct rfl _ _ gb213 27 #[.slice A37 y221.length c37, .bool (decide (t224 ≥ a0_3))] (0, 0) _ rfl (by (with_reducible repeat (first | refine blk_drewN ?_ _ | refine blk_drew ?_ | refine blk_alloc ?_ _)); refine blk_put (cs := #[.slice A37 y221.length c37, .bool false]) ?_ 1 _ rfl; (with_reducible repeat (first | refine blk_drewN ?_ _ | refine blk_drew ?_ | refine blk_alloc ?_ _)); refine blk_put (cs := #[.slice none 0 0, .bool false]) ?_ 0 _ rfl; (with_reducible repeat (first | refine blk_drewN ?_ _ | refine blk_drew ?_ | refine blk_alloc ?_ _)); exact BK213.out) Try.underlying27 rfl (by kernel_rfl)) rfl ?_
       exact ⟨_, zf, by (with_reducible repeat (first | apply Kd.Q_alloc | apply Kd.Q_drewN | apply Kd.Q_drew)); exact Kd.Q_mono (Kd.Q_far (p := ⟨gb213, 1, none⟩) (Kd.Q_far (p := ⟨gb213, 0, none⟩) (Kd.Q_types HO223.out BK213.out (by decide)) (fun _ hk => hk.2) (.slice A37 y221.length c37)) (fun _ hk => hk.2) (.bool (decide (t224 ≥ a0_3)))) (fun _ hk => trivial), zm HB⟩
      ·rw [if_neg c21] at H
       exact absurd H (by simp)
     ·rw [if_neg c20] at H
      have c20b0 : decide (a0_2 < (y218.length : Int)) = false := decide_eq_false c20
      clear c20
      replace H := Option.bind_eq_some_iff.mp H
      obtain ⟨t225, A410, H⟩ := H
      replace H : (some (y218, decide (t225 ≥ a0_3), 0)) = some (r1, r2, r3) := H
      have A41 := za A410
      clear A410
      simp only [Option.some.injEq, Prod.mk.injEq] at H
      obtain ⟨rfl, rfl, rfl⟩ := H
      go_enter Try.func24, Try.ntmps24
      try go_wp2_with (first | ((with_reducible refine gate_dst (N := 3) rfl ?_); refine zE 3 #[.int .i64 a0_0, .int .i64 a0_1, .int .i64 a0_2, .int .i64 a0_3] 24 ?_; intro gb211 hg w42 hbox hb; have BK211 := za (hbox); have GW211 := zg HB hg; have GE211 := zg HB hg; replace HB := zs HB hb; clear hb hbox hg) | ((with_reducible refine gate_dst (N := 4) rfl ?_); refine zE 4 #[.slice A1_0 l1_0.length c1_0, .bool false] 27 ?_; intro gb212 hg w43 hbox hb; have BK212 := za (hbox); have GW212 := zg HB hg; have GE212 := zg HB hg; have NB211_212 := zl BK211 hg; have NB212_211 := zr BK211 hg; replace BK211 := zb BK211 hb; replace HB := zs HB hb; clear hb hbox hg) | ((with_reducible refine gate_dst (N := 6) rfl ?_); refine zE 6 #[.slice none 0 0, .bool false] 27 ?_; intro gb213 hg w44 hbox hb; have BK213 := za (hbox); have GW213 := zg HB hg; have GE213 := zg HB hg; have NB211_213 := zl BK211 hg; have NB213_211 := zr BK211 hg; have NB212_213 := zl BK212 hg; have NB213_212 := zr BK212 hg; replace BK211 := zb BK211 hb; replace BK212 := zb BK212 hb; replace HB := zs HB hb; clear hb hbox hg; have hnb45 := NB211_212.out; have hnc45 := NB212_211.out; have hnb46 := NB211_213.out; have hnc46 := NB213_211.out; obtain ⟨hcz47_0, hcz47_1, hcz47_2, hcz47_3, hfz47_0, hfz47_1, hfz47_2, hfz47_3⟩ := z4 BK211; have hnb48 := NB212_213.out; have hnc48 := NB213_212.out; obtain ⟨hcz49_0, hcz49_1, hfz49_0, hfz49_1⟩ := z2 BK212) | ((with_reducible refine gate_callee (f := 19) rfl ?_); refine zL (some 11) Try.func19 #[.agg #[.int .i64 a0_0, .int .i64 a0_1, .int .i64 a0_2, .int .i64 a0_3], .agg #[.slice A1_0 l1_0.length c1_0, .bool false]] ?_; (with_reducible refine (awardingbodyref27_Valid.calls k a0_0 a0_1 a0_2 a0_3 _ _ l1_0 false true _ ?side1 ?side2 A4.out).mono ?_); (case side1 => exact zC HR1_0 HB); (case side2 => exact HC1_0.out); rintro e w50 ⟨rfl, hb⟩; refine ⟨_, rfl, ?_⟩; replace BK211 := zb BK211 hb; replace BK212 := zb BK212 hb; replace BK213 := zb BK213 hb; replace HB := zs HB hb; (try clear hb); (try clear hb2); (try clear hk); (try clear hi); obtain ⟨hcz51_0, hcz51_1, hfz51_0, hfz51_1⟩ := z2 BK212) | ((with_reducible refine gate_builtin (b := .append) (xs := #[.const (.slice none 0 0), .tmp 18]) rfl ?_); at_builtin; refine Kd.R_append_rows Kd.bool (w0 := w) w.heap.size rfl (.const (.slice none 0 0)) (.tmp 18) 25 4 (.bool false) 1 rfl Try.underlying25 info4 rfl (by decide) (by omega) (.slice none 0 0) ([] : List Bool) l1_0 _ _ _ (fun _ => True) (fun _ => False) rfl rfl ?aO ?aR (fun _ _ h => h) (fun _ h => h.elim) ?aF ?aB ?aS ?aL ?_; (case aR => exact zC HR1_0 HB); (case aB => exact (zm HB)); (case aF => exact (fun _ _ => trivial)); (case aO => exact ((Kd.R_nil _ _ _ _ (fun _ => True)))); (case aS => exact (below_size (zm HB))); (case aL => have := LMc18.out; omega); intro v216 w52 ho hb hg hat; rw [← Ny215.out] at ho; have HO217 := za (ho); replace BK211 := (zw BK211 hg (by simp [Value.ownBlock])); replace BK212 := (zw BK212 hg (by simp [Value.ownBlock])); replace BK213 := (zw BK213 hg (by simp [Value.ownBlock])); replace HB := za (hb); clear ho hb hg hat) | ((with_reducible refine gate_builtin (b := .append) (xs := #[.tmp 19, .tmp 21]) rfl ?_); at_builtin; refine Kd.R_append Kd.bool (w0 := w) w.heap.size rfl (.tmp 19) (.tmp 21) 25 4 (.bool false) 1 rfl Try.underlying25 info4 rfl (by decide) (by omega) v216 y215 a2 [.bool a2] (fun _ => True) (fun _ => False) rfl rfl ?aP (fun _ hk => hk.elim) ?aF ?aO ?aB ?aS ?aL ?_; (case aP => exact rfl); (case aB => exact (zm HB)); (case aF => exact (fun _ _ => trivial)); (case aO => exact (by (with_reducible repeat (first | apply Kd.R_alloc | apply Kd.R_drewN | apply Kd.R_drew)); exact HO217.out)); (case aS => exact (below_size (zm HB))); (case aL => have := LMc19.out; omega); intro v219 w53 ho hb hg hat; rw [← Ny218.out] at ho; have HO220 := za (ho); replace BK211 := (zw BK211 hg (Kd.R_ne HO217.out BK211.out (by decide))); replace BK212 := (zw BK212 hg (Kd.R_ne HO217.out BK212.out (by decide))); replace BK213 := (zw BK213 hg (Kd.R_ne HO217.out BK213.out (by decide))); replace HB := za (hb); clear HO217 ho hb hg hat; obtain ⟨Ao54, co54, eo54⟩ := Kd.R_slice HO220.out; subst eo54; obtain ⟨hcz55_0, hcz55_1, hcz55_2, hcz55_3, hfz55_0, hfz55_1, hfz55_2, hfz55_3⟩ := z4 BK211))
      replace HO220 := za (Kd.R_drew HO220.out)
      replace BK211 := za (blk_drew BK211.out)
      replace BK212 := za (blk_drew BK212.out)
      replace BK213 := za (blk_drew BK213.out)
      replace HB := za (below_drew1 HB.out)
      refine start_ (n := 9) (S := fun w' => w'.cell? ⟨gb211, 0, none⟩ = some (.int .i64 a0_0) ∧ w'.cell? ⟨gb211, 1, none⟩ = some (.int .i64 a0_1) ∧ w'.cell? ⟨gb211, 2, none⟩ = some (.int .i64 a0_2) ∧ w'.cell? ⟨gb211, 3, none⟩ = some (.int .i64 a0_3)) (ds := []) #[false, false, false, false, false, false, false, false, false] (by kernel_rfl) rfl rfl ⟨(blk_cell BK211.out 0).trans rfl, (blk_cell BK211.out 1).trans rfl, (blk_cell BK211.out 2).trans rfl, (blk_cell BK211.out 3).trans rfl⟩ (fun hHeld => ?_); refine with_tabW awardingbodyref27_Step.tab8 awardingbodyref27_Step.bits8 (fun HT_ HW_ => ?_)
      generalize w53.drew = w56 at HO220 BK211 BK212 BK213 HB hHeld ⊢
      refine pure_ (i := 0) (N := some 30) (v := ?_) (a' := ?_) #[true, false, false, false, false, false, false, false, false] rfl rfl (any_of HT_.out (by kernel_rfl)) (fun _ _ _ h => h) (Or.inl ⟨by rfl, ?_⟩) ?_ ?_
      rotate_left
      ·intro w'
       go_simp
       with_reducible rfl
      rotate_left
      ·simp only [Act.put, List.setIfInBounds_toArray, List.set_cons_zero, List.set_cons_succ, i64_w, i32_w]
       rfl
      refine pure_ (i := 1) (N := some 31) (v := ?_) (a' := ?_) #[true, true, false, false, false, false, false, false, false] rfl rfl (any_of HT_.out (by kernel_rfl)) (fun _ _ _ h => h) (Or.inl ⟨by rfl, ?_⟩) ?_ ?_
      rotate_left
      ·intro w'
       go_simp
       with_reducible rfl
      rotate_left
      ·simp only [Act.put, List.setIfInBounds_toArray, List.set_cons_zero, List.set_cons_succ, i64_w, i32_w]
       rfl
      refine pure_ (i := 3) (N := some 33) (v := ?_) (a' := ?_) #[true, true, false, true, false, false, false, false, false] rfl rfl (any_of HT_.out (by kernel_rfl)) (fun _ _ _ h => h) (Or.inl ⟨by rfl, ?_⟩) ?_ ?_
      rotate_left
      ·intro w'
       go_simp
       with_reducible rfl
      rotate_left
      ·simp only [Act.put, List.setIfInBounds_toArray, List.set_cons_zero, List.set_cons_succ, i64_w, i32_w]
       rfl
      refine take_ (i := 4) (N := some 34) (v := ?_) (a' := ?_) #[true, true, false, true, true, false, false, false, false] rfl rfl (take_ofW HT_.out HW_.out (by kernel_rfl)) (fun _ _ _ h => h) (Or.inl ⟨by rfl, ?_⟩) hHeld ?_ ?_
      rotate_left
      ·rintro w' ⟨s0, s1, s2, s3⟩
       go_simp
       with_reducible rfl
      rotate_left
      ·simp only [Act.put, List.setIfInBounds_toArray, List.set_cons_zero, List.set_cons_succ, i64_w, i32_w]
       rfl
      refine one_ (i := 2) (N := some 32) #[true, true, true, true, true, false, false, false, false] rfl rfl (one_of HT_.out (by kernel_rfl)) (by decide) (fun K hK => ?_)
      refine goes_ Try.func31 (by kernel_rfl) rfl #[.slice Ao54 y218.length co54] (by rfl) rfl rfl (by (try simp only [List.map_toArray, List.map_cons, List.map_nil]); first | done | rfl | (simp only [List.length_drop, List.length_take]; rfl)) ?_
      with_reducible refine (awardingbodyref27_fails.calls k _ _ y218 t225 _ ?side1 ?side2 A41.out).mono ?_
      (case side1 => exact zD HO220)
      (case side2 => exact (Kd.R_reads' HO220.out).2.1)
      rintro e w' ⟨rfl, ⟨nd, rfl⟩⟩
      refine ⟨_, rfl, ?_⟩
      refine hK.out _ _ ⟨(blk_cell BK211.out 0).trans rfl, (blk_cell BK211.out 1).trans rfl, (blk_cell BK211.out 2).trans rfl, (blk_cell BK211.out 3).trans rfl⟩ (fun hHeld => ?_)
      clear hK K
      refine norm_ (a' := ?_) ?_ ?_
      rotate_left
      ·show Act.put _ (some 32) _ = _
       simp only [Act.put, List.setIfInBounds_toArray, List.set_cons_zero, List.set_cons_succ, i64_w, i32_w]
       rfl
      refine pure_ (i := 5) (N := some 35) (v := ?_) (a' := ?_) #[true, true, true, true, true, true, false, false, false] rfl rfl (any_of HT_.out (by kernel_rfl)) (fun _ _ _ h => h) (Or.inl ⟨by rfl, ?_⟩) ?_ ?_
      rotate_left
      ·intro w'
       go_simp
       with_reducible rfl
      rotate_left
      ·simp only [Act.put, List.setIfInBounds_toArray, List.set_cons_zero, List.set_cons_succ, i64_w, i32_w]
       rfl
      refine pure_ (i := 6) (N := some 36) (v := ?_) (a' := ?_) #[true, true, true, true, true, true, true, false, false] rfl rfl (any_of HT_.out (by kernel_rfl)) (fun _ _ _ h => h) (Or.inl ⟨by rfl, ?_⟩) ?_ ?_
      rotate_left
      ·intro w'
       go_simp
       with_reducible rfl
      rotate_left
      ·simp only [Act.put, List.setIfInBounds_toArray, List.set_cons_zero, List.set_cons_succ, i64_w, i32_w]
       rfl
      refine one_ (i := 7) (N := none) #[true, true, true, true, true, true, true, true, false] rfl rfl (one_of HT_.out (by kernel_rfl)) (by decide) (fun K hK => ?_)
      have hs57 : w56.cell? ⟨gb213, 0, none⟩ = some (.slice none 0 0) := (blk_cell BK213.out 0).trans rfl
      have hfs57 := blk_frozen BK213.out 0
      have hns57_0 := NB211_213.out
      have hns57_1 := NB212_213.out
      have hms57_0 := NB213_211.out
      have hms57_1 := NB213_212.out
      have hs58 : w56.cell? ⟨gb213, 1, none⟩ = some (.bool false) := (blk_cell BK213.out 1).trans rfl
      have hfs58 := blk_frozen BK213.out 1
      have hns58_0 := NB211_213.out
      have hns58_1 := NB212_213.out
      have hms58_0 := NB213_211.out
      have hms58_1 := NB213_212.out
      refine skip_ (w1 := ?_) (by rfl) rfl ?_ ?_
      rotate_left
      ·go_simp
       rfl
      refine hK.out _ _ ⟨((cell_far (p := ⟨gb213, _, none⟩) NB211_213.out _).trans (((cell_far (p := ⟨gb213, _, none⟩) NB211_213.out _).trans (hHeld.1)))), ((cell_far (p := ⟨gb213, _, none⟩) NB211_213.out _).trans (((cell_far (p := ⟨gb213, _, none⟩) NB211_213.out _).trans (hHeld.2.1)))), ((cell_far (p := ⟨gb213, _, none⟩) NB211_213.out _).trans (((cell_far (p := ⟨gb213, _, none⟩) NB211_213.out _).trans (hHeld.2.2.1)))), ((cell_far (p := ⟨gb213, _, none⟩) NB211_213.out _).trans (((cell_far (p := ⟨gb213, _, none⟩) NB211_213.out _).trans (hHeld.2.2.2))))⟩ (fun hHeld => ?_)
      clear hK K
      refine pure_ (i := 8) (N := some 7) (v := ?_) (a' := ?_) #[true, true, true, true, true, true, true, true, true] rfl rfl (any_of HT_.out (by kernel_rfl)) (fun _ _ _ h => h) (Or.inl ⟨by rfl, ?_⟩) ?_ ?_
      rotate_left
      ·intro w'
       go_simp
       with_reducible rfl
      rotate_left
      ·simp only [Act.put, List.setIfInBounds_toArray, List.set_cons_zero, List.set_cons_succ, i64_w, i32_w]
       rfl
      refine done_ (done_of HT_.out (by kernel_rfl)) ?_
      try go_wp2
      refine bodyPost_ret (results_ct rfl _ _ gb213 27 #[.slice Ao54 y218.length co54, .bool (decide (t225 ≥ a0_3))] (0, 0) _ rfl (by (with_reducible repeat (first | refine blk_drewN ?_ _ | refine blk_drew ?_ | refine blk_alloc ?_ _)); refine blk_put (cs := #[.slice Ao54 y218.length co54, .bool false]) ?_ 1 _ rfl; (with_reducible repeat (first | refine blk_drewN ?_ _ | refine blk_drew ?_ | refine blk_alloc ?_ _)); refine blk_put (cs := #[.slice none 0 0, .bool false]) ?_ 0 _ rfl; (with_reducible repeat (first | refine blk_drewN ?_ _ | refine blk_drew ?_ | refine blk_alloc ?_ _)); exact BK213.out) Try.underlying27 rfl (by kernel_rfl)) rfl ?_
      exact ⟨_, zf, Kd.Q_of_R (by (with_reducible repeat (first | apply Kd.R_alloc | apply Kd.R_drewN | apply Kd.R_drew)); exact Kd.R_mono (Kd.R_far (p := ⟨gb213, 1, none⟩) (Kd.R_far (p := ⟨gb213, 0, none⟩) (Kd.R_types HO220.out BK213.out (by decide)) (fun _ hk => hk.2) (.slice Ao54 y218.length co54)) (fun _ hk => hk.2) (.bool (decide (t225 ≥ a0_3)))) (fun _ hk => trivial)), zm HB⟩
    ·rw [if_neg c19] at H
     exact absurd H (by simp)
   ·rw [if_neg c18] at H
    exact absurd H (by simp)
 ·replace c5 := Bool.eq_false_iff.mpr c5
  subst c5
  have H1 : (some (([] : List Bool), false, 1)) = some (r1, r2, r3) := by rw [if_neg (show ¬ (false = true) by decide)] at H; exact H
  clear H
  have H := H1
  clear H1
  simp only [Option.some.injEq, Prod.mk.injEq] at H
  obtain ⟨rfl, rfl, rfl⟩ := H
  go_enter Try.func24, Try.ntmps24
  go_wp2_with (first | ((with_reducible refine gate_dst (N := 3) rfl ?_); refine zE 3 #[.int .i64 a0_0, .int .i64 a0_1, .int .i64 a0_2, .int .i64 a0_3] 24 ?_; intro gb211 hg w59 hbox hb; have BK211 := za (hbox); have GW211 := zg HB hg; have GE211 := zg HB hg; replace HB := zs HB hb; clear hb hbox hg) | ((with_reducible refine gate_dst (N := 4) rfl ?_); refine zE 4 #[.slice A1_0 l1_0.length c1_0, .bool a1_1] 27 ?_; intro gb212 hg w60 hbox hb; have BK212 := za (hbox); have GW212 := zg HB hg; have GE212 := zg HB hg; have NB211_212 := zl BK211 hg; have NB212_211 := zr BK211 hg; replace BK211 := zb BK211 hb; replace HB := zs HB hb; clear hb hbox hg) | ((with_reducible refine gate_dst (N := 6) rfl ?_); refine zE 6 #[.slice none 0 0, .bool false] 27 ?_; intro gb213 hg w61 hbox hb; have BK213 := za (hbox); have GW213 := zg HB hg; have GE213 := zg HB hg; have NB211_213 := zl BK211 hg; have NB213_211 := zr BK211 hg; have NB212_213 := zl BK212 hg; have NB213_212 := zr BK212 hg; replace BK211 := zb BK211 hb; replace BK212 := zb BK212 hb; replace HB := zs HB hb; clear hb hbox hg; have hnb62 := NB211_212.out; have hnc62 := NB212_211.out; have hnb63 := NB211_213.out; have hnc63 := NB213_211.out; obtain ⟨hcz64_0, hcz64_1, hcz64_2, hcz64_3, hfz64_0, hfz64_1, hfz64_2, hfz64_3⟩ := z4 BK211; have hnb65 := NB212_213.out; have hnc65 := NB213_212.out; obtain ⟨hcz66_0, hcz66_1, hfz66_0, hfz66_1⟩ := z2 BK212) | ((with_reducible refine gate_callee (f := 19) rfl ?_); refine zL (some 11) Try.func19 #[.agg #[.int .i64 a0_0, .int .i64 a0_1, .int .i64 a0_2, .int .i64 a0_3], .agg #[.slice A1_0 l1_0.length c1_0, .bool a1_1]] ?_; (with_reducible refine (awardingbodyref27_Valid.calls k a0_0 a0_1 a0_2 a0_3 _ _ l1_0 a1_1 false _ ?side1 ?side2 A4.out).mono ?_); (case side1 => exact zC HR1_0 HB); (case side2 => exact HC1_0.out); rintro e w67 ⟨rfl, hb⟩; refine ⟨_, rfl, ?_⟩; replace BK211 := zb BK211 hb; replace BK212 := zb BK212 hb; replace BK213 := zb BK213 hb; replace HB := zs HB hb; (try clear hb); (try clear hb2); (try clear hk); (try clear hi); obtain ⟨hcz68_0, hcz68_1, hfz68_0, hfz68_1⟩ := z2 BK213))
  refine bodyPost_ret (results_ct rfl _ _ gb213 27 #[.slice none 0 0, .bool false] (0, 0) _ rfl (by (with_reducible repeat (first | refine blk_drewN ?_ _ | refine blk_drew ?_ | refine blk_alloc ?_ _)); refine blk_put (cs := #[.slice none 0 0, .bool false]) ?_ 1 _ rfl; (with_reducible repeat (first | refine blk_drewN ?_ _ | refine blk_drew ?_ | refine blk_alloc ?_ _)); refine blk_put (cs := #[.slice none 0 0, .bool false]) ?_ 0 _ rfl; (with_reducible repeat (first | refine blk_drewN ?_ _ | refine blk_drew ?_ | refine blk_alloc ?_ _)); exact BK213.out) Try.underlying27 rfl (by kernel_rfl)) rfl ?_
  exact ⟨_, zf, Kd.Q_of_R (by first | exact Kd.R_nil _ _ _ _ _ | exact Kd.N_nil _ _ _ _ _ | exact Kd.V_nil _ _ _ _ _ | exact Kd.Q_nil _ _ _ _ _ | exact Kd.S_nil _ _ _ _ _), zm HB⟩

/-! ### awardingbodyref27_Run: function 21 -/
def awardingbodyref27_Run.l0 : Nat → List Bool → Int → Int → Int → Int → Int → Int → List Bool → Bool → Option (Int × Int × Int)
  | 0, _, _, _, _, _, _, _, _, _ => none
  | k + 1, x1, x9, x10, x227000, x227001, x227002, x227003, x229000, x229001 => if x10 < (x1.length : Int) then (if 0 ≤ x10 then ((awardingbodyref27_Step.f k x227000 x227001 x227002 x227003 x229000 x229001 (rdOf false x1 x10)).bind fun bt230 => (if bt230.2.1 = true then (some (x10, x9, 0)) else (if rdOf false x1 x10 = true then (awardingbodyref27_Run.l0 k x1 x10 (wrap64 (x10 + 1)) x227000 x227001 x227002 x227003 bt230.1 bt230.2.1) else (awardingbodyref27_Run.l0 k x1 x9 (wrap64 (x10 + 1)) x227000 x227001 x227002 x227003 bt230.1 bt230.2.1)))) else (none)) else (some ((-1), x9, 0))
def awardingbodyref27_Run.f (k : Nat) (a0_0 : Int) (a0_1 : Int) (a0_2 : Int) (a0_3 : Int) (l1 : List Bool) : Option (Int × Int × Int) := (awardingbodyref27_Check.f a0_0 a0_1 a0_2 a0_3).bind fun t227 => (if t227 = 0 then (awardingbodyref27_Run.l0 k l1 (-1) 0 a0_0 a0_1 a0_2 a0_3 ([] : List Bool) false) else (some (0, 0, t227)))
theorem awardingbodyref27_Run.mono_l : ∀ k, (∀ y0 y1 y2 y3 y4 y5 y6 y7 y8, LeO (awardingbodyref27_Run.l0 k y0 y1 y2 y3 y4 y5 y6 y7 y8) (awardingbodyref27_Run.l0 (k + 1) y0 y1 y2 y3 y4 y5 y6 y7 y8))
  | 0 => fun _ _ _ _ _ _ _ _ _ r h => by simp [awardingbodyref27_Run.l0] at h
  | k + 1 => by
    have ih0 := awardingbodyref27_Run.mono_l k
    · intro y0 y1 y2 y3 y4 y5 y6 y7 y8
      unfold awardingbodyref27_Run.l0
      repeat' first
      | (with_reducible exact ih0 _ _ _ _ _ _ _ _ _)
      | (with_reducible exact awardingbodyref27_Step.mono _ _ _ _ _ _ _ _)
      | (with_reducible exact LeO.refl _)
      | (with_reducible exact LeO.none _)
      | (with_reducible refine LeO.ite ?_ ?_)
      | (with_reducible refine LeO.bind ?_ (fun _ => ?_))
      | exact ih0 _ _ _ _ _ _ _ _ _
      | exact awardingbodyref27_Step.mono _ _ _ _ _ _ _ _
      | exact LeO.none _
      | refine LeO.ite ?_ ?_
      | refine LeO.bind ?_ (fun _ => ?_)
theorem awardingbodyref27_Run.mono : ∀ a0 a1 a2 a3 a4 k, LeO (awardingbodyref27_Run.f k a0 a1 a2 a3 a4) (awardingbodyref27_Run.f (k + 1) a0 a1 a2 a3 a4) := by
  intro a0 a1 a2 a3 a4 k
  have ih0 := awardingbodyref27_Run.mono_l k
  unfold awardingbodyref27_Run.f
  repeat' first
      | (with_reducible exact ih0 _ _ _ _ _ _ _ _ _)
      | (with_reducible exact awardingbodyref27_Step.mono _ _ _ _ _ _ _ _)
      | (with_reducible exact LeO.refl _)
      | (with_reducible exact LeO.none _)
      | (with_reducible refine LeO.ite ?_ ?_)
      | (with_reducible refine LeO.bind ?_ (fun _ => ?_))
      | exact ih0 _ _ _ _ _ _ _ _ _
      | exact awardingbodyref27_Step.mono _ _ _ _ _ _ _ _
      | exact LeO.none _
      | refine LeO.ite ?_ ?_
      | refine LeO.bind ?_ (fun _ => ?_)
def awardingbodyref27_Run.T9 : Bool × List (List Nat × List Nat) := (true, [([], []), ([], []), ([], []), ([], []), ([2, 3], [2, 3]), ([4], [4]), ([0, 1, 5], [0, 1, 5]), ([6], [6]), ([7], [7]), ([7], [7]), ([8, 6, 0, 1, 2, 3, 4, 5, 6, 7, 8], [8])])
def awardingbodyref27_Run.B9 : List Nat := [0, 0, 0, 0, 12, 28, 63, 127, 255, 255, 511]
theorem awardingbodyref27_Run.tab9 : rtab .any (opsOf Try.f21 9) = awardingbodyref27_Run.T9 := by kernel_rfl
theorem awardingbodyref27_Run.bits9 : waitsOk awardingbodyref27_Run.T9.2 awardingbodyref27_Run.B9 = true := by kernel_rfl
set_option maxHeartbeats 8000000 in
set_option maxRecDepth 100000 in
theorem awardingbodyref27_Run.calls (k : Nat) (a0_0 : Int) (a0_1 : Int) (a0_2 : Int) (a0_3 : Int) (A1 : Option Addr) (c1 : Nat) (l1 : List Bool) (r1 : Int) (r2 : Int) (r3 : Int) (w : World) (hr1 : Kd.C Kd.bool w A1 l1.length l1) (hc1 : l1.length ≤ c1) (h : awardingbodyref27_Run.f k a0_0 a0_1 a0_2 a0_3 l1 = some (r1, r2, r3)) :
    Calls Try.prog 21 #[.agg #[.int .i64 a0_0, .int .i64 a0_1, .int .i64 a0_2, .int .i64 a0_3], .slice A1 l1.length c1] w fun e w' => e = .returned (.tuple #[.int .i64 r1, .int .i64 r2, .int .i64 r3]) ∧ Below w.heap.size w w' := by
 have hu24 := Try.underlying24
 have hu27 := Try.underlying27
 have HR1 := za hr1
 have HC1 := za hc1
 clear hr1 hc1
 have HB := za (Below.refl w.heap.size w)
 have H : ((awardingbodyref27_Check.f a0_0 a0_1 a0_2 a0_3).bind fun t227 => (if t227 = 0 then (awardingbodyref27_Run.l0 k l1 (-1) 0 a0_0 a0_1 a0_2 a0_3 ([] : List Bool) false) else (some (0, 0, t227)))) = some (r1, r2, r3) := h
 clear h
 replace H := Option.bind_eq_some_iff.mp H
 obtain ⟨t227, A30, H⟩ := H
 replace H : (if t227 = 0 then (awardingbodyref27_Run.l0 k l1 (-1) 0 a0_0 a0_1 a0_2 a0_3 ([] : List Bool) false) else (some (0, 0, t227))) = some (r1, r2, r3) := H
 have A3 := za A30
 clear A30
 by_cases c4 : t227 = 0
 ·rw [if_pos c4] at H
  have c4b0 : (t227 == 0) = true := beq_iff_eq.mpr c4
  have c4b1 : (t227 != 0) = false := bne_eq_false_iff_eq.mpr c4
  clear c4
  have H' := za H
  clear H
  go_enter Try.func21, Try.ntmps21
  go_wp2_with (first | ((with_reducible refine gate_dst (N := 2) rfl ?_); refine zE 2 #[.int .i64 a0_0, .int .i64 a0_1, .int .i64 a0_2, .int .i64 a0_3] 24 ?_; intro gb226 hg w5 hbox hb; have BK226 := za (hbox); have GW226 := zg HB hg; have GE226 := zg HB hg; replace HB := zs HB hb; clear hb hbox hg; obtain ⟨hcz6_0, hcz6_1, hcz6_2, hcz6_3, hfz6_0, hfz6_1, hfz6_2, hfz6_3⟩ := z4 BK226) | ((with_reducible refine gate_callee (f := 15) rfl ?_); refine zL (some 12) Try.func15 #[.agg #[.int .i64 a0_0, .int .i64 a0_1, .int .i64 a0_2, .int .i64 a0_3]] ?_; (with_reducible refine (awardingbodyref27_Check.calls a0_0 a0_1 a0_2 a0_3 t227 _ A3.out).mono ?_); rintro e w7 ⟨rfl, hb⟩; refine ⟨_, rfl, ?_⟩; replace BK226 := zb BK226 hb; replace HB := zs HB hb; (try clear hb); (try clear hb2); (try clear hk); (try clear hi)) | ((with_reducible refine gate_dst (N := 8) rfl ?_); refine zE 8 #[.slice none 0 0, .bool false] 27 ?_; intro gb228 hg w8 hbox hb; have BK228 := za (hbox); have GW228 := zg HB hg; have GE228 := zg HB hg; have NB226_228 := zl BK226 hg; have NB228_226 := zr BK226 hg; replace BK226 := zb BK226 hb; replace HB := zs HB hb; clear hb hbox hg))
  go_loopg [9, 10] k (fun kq v9 v10 w' => ∃ (x9_1 : Int) (x10_1 : Int) (x229000_1 : List Bool) (x229001_1 : Bool) (u229000 : Value), v9 = .int .i64 x9_1 ∧ v10 = .int .i64 x10_1 ∧ Aside0 (awardingbodyref27_Run.l0 kq l1 x9_1 x10_1 a0_0 a0_1 a0_2 a0_3 x229000_1 x229001_1 = some (r1, r2, r3)) ∧ Aside0 (kq ≤ k) ∧ Aside0 (Kd.Q Kd.bool 4 w' w.heap.size (fun _ => True) u229000 x229000_1) ∧ Aside0 (w'.heap[gb226]? = some (.cells #[.int .i64 a0_0, .int .i64 a0_1, .int .i64 a0_2, .int .i64 a0_3] 24 (0, 0))) ∧ Aside0 (w'.heap[gb228]? = some (.cells #[u229000, .bool x229001_1] 27 (0, 0))) ∧ Aside0 (Below w.heap.size w w'))
  case atStart => exact ⟨((-1)), (0), (([] : List Bool)), (false), (.slice none 0 0), (by first | rfl | (simp; done) | (simp [*]; done)), (by first | rfl | (simp; done) | (simp [*]; done)), H', ⟨Nat.le_refl _⟩, ⟨Kd.Q_of_R (by first | exact Kd.R_nil _ _ _ _ _ | exact Kd.N_nil _ _ _ _ _ | exact Kd.V_nil _ _ _ _ _ | exact Kd.Q_nil _ _ _ _ _ | exact Kd.S_nil _ _ _ _ _)⟩, ⟨by (with_reducible repeat (first | refine blk_drewN ?_ _ | refine blk_drew ?_ | refine blk_alloc ?_ _)); exact BK226.out⟩, ⟨by (with_reducible repeat (first | refine blk_drewN ?_ _ | refine blk_drew ?_ | refine blk_alloc ?_ _)); exact BK228.out⟩, ⟨zm HB⟩⟩
  case round =>
   clear H'
   try clear c1
   try clear c2
   try clear p2
   try clear c4
   try clear c4b0
   try clear c4b1
   try clear hcz6_0
   try clear hcz6_1
   try clear hcz6_2
   try clear hcz6_3
   try clear hfz6_0
   try clear hfz6_1
   try clear hfz6_2
   try clear hfz6_3
   obtain ⟨x9_1, x10_1, x229000_1, x229001_1, u229000, rfl, rfl, HA, HK1, HO_229000, BK226, BK228, HB⟩ := hrel
   cases gk with
   | zero => exact absurd HA.out (by simp [awardingbodyref27_Run.l0])
   | succ k1 =>
    have H := HA.out
    clear HA
    simp only [awardingbodyref27_Run.l0] at H
    by_cases c9 : x10_1 < (l1.length : Int)
    ·rw [if_pos c9] at H
     have c9b0 : decide (x10_1 < (l1.length : Int)) = true := decide_eq_true c9
     clear c9
     by_cases c10 : 0 ≤ x10_1
     ·rw [if_pos c10] at H
      have c10b0 : decide (0 ≤ x10_1) = true := decide_eq_true c10
      clear c10
      replace H := Option.bind_eq_some_iff.mp H
      obtain ⟨⟨t230, t233, t234⟩, A110, H⟩ := H
      replace H : (if t233 = true then (some (x10_1, x9_1, 0)) else (if rdOf false l1 x10_1 = true then (awardingbodyref27_Run.l0 k1 l1 x10_1 (wrap64 (x10_1 + 1)) a0_0 a0_1 a0_2 a0_3 t230 t233) else (awardingbodyref27_Run.l0 k1 l1 x9_1 (wrap64 (x10_1 + 1)) a0_0 a0_1 a0_2 a0_3 t230 t233))) = some (r1, r2, r3) := H
      have A11 := za A110
      clear A110
      by_cases c12 : t233 = true
      ·subst c12
       have H1 : (some (x10_1, x9_1, 0)) = some (r1, r2, r3) := by rw [if_pos rfl] at H; exact H
       clear H
       have H := H1
       clear H1
       simp only [Option.some.injEq, Prod.mk.injEq] at H
       obtain ⟨rfl, rfl, rfl⟩ := H
       try go_wp2
       replace HO_229000 := za (Kd.Q_drew HO_229000.out)
       replace BK226 := za (blk_drew BK226.out)
       replace BK228 := za (blk_drew BK228.out)
       replace HB := za (below_drew1 HB.out)
       have p229 : 0 ≤ (x10_1 : Int) := of_decide_eq_true (by first | (with_reducible assumption) | assumption)
       have q229 : x10_1 < (l1.length : Int) := of_decide_eq_true (by first | (with_reducible assumption) | assumption)
       obtain ⟨ad229, e229, hx229_0⟩ := Kd.at_bool HR1.out x10_1 p229 q229
       have hw229_0 := hx229_0
       cases e229
       replace hx229_0 := zx HB hx229_0
       replace p229 := eq_true p229
       replace q229 := eq_true q229
       obtain ⟨Ao14, co14, eo14, _⟩ := Kd.Q_slice HO_229000.out
       (first | subst eo14 | (injection eo14 with f1_ f2_ f3_; have f4_ := f1_.symm; have f5_ := f3_.symm; clear f1_ f2_ f3_; subst f4_; subst f5_))
       refine start_ (n := 11) (S := fun w' => w'.cell? ⟨gb226, 0, none⟩ = some (.int .i64 a0_0) ∧ w'.cell? ⟨gb226, 1, none⟩ = some (.int .i64 a0_1) ∧ w'.cell? ⟨gb226, 2, none⟩ = some (.int .i64 a0_2) ∧ w'.cell? ⟨gb226, 3, none⟩ = some (.int .i64 a0_3) ∧ w'.cell? ⟨gb228, 0, none⟩ = some (.slice Ao14 x229000_1.length co14) ∧ w'.cell? ⟨gb228, 1, none⟩ = some (.bool x229001_1) ∧ w'.cell? (ad229.add (x10_1).toNat) = some (.bool (rdOf false l1 x10_1))) (ds := [10]) #[false, false, false, false, false, false, false, false, false, false, false] (by kernel_rfl) rfl rfl ⟨(blk_cell BK226.out 0).trans rfl, (blk_cell BK226.out 1).trans rfl, (blk_cell BK226.out 2).trans rfl, (blk_cell BK226.out 3).trans rfl, (blk_cell BK228.out 0).trans rfl, (blk_cell BK228.out 1).trans rfl, (zx HB hw229_0)⟩ (fun hHeld => ?_); refine with_tabW awardingbodyref27_Run.tab9 awardingbodyref27_Run.bits9 (fun HT_ HW_ => ?_)
       generalize wr.drew = w13 at HO_229000 BK226 BK228 HB hx229_0 hHeld ⊢
       refine pure_ (i := 2) (N := some 25) (v := ?_) (a' := ?_) #[false, false, true, false, false, false, false, false, false, false, false] rfl rfl (any_of HT_.out (by kernel_rfl)) (fun _ _ _ h => h) (Or.inl ⟨by rfl, ?_⟩) ?_ ?_
       rotate_left
       ·intro w'
        go_simp
        with_reducible rfl
       rotate_left
       ·simp only [Act.put, List.setIfInBounds_toArray, List.set_cons_zero, List.set_cons_succ, i64_w, i32_w]
        rfl
       refine pure_ (i := 3) (N := some 26) (v := ?_) (a' := ?_) #[false, false, true, true, false, false, false, false, false, false, false] rfl rfl (any_of HT_.out (by kernel_rfl)) (fun _ _ _ h => h) (Or.inl ⟨by rfl, ?_⟩) ?_ ?_
       rotate_left
       ·intro w'
        go_simp
        with_reducible rfl
       rotate_left
       ·simp only [Act.put, List.setIfInBounds_toArray, List.set_cons_zero, List.set_cons_succ, i64_w, i32_w]
        rfl
       refine pure_ (i := 4) (N := some 27) (v := ?_) (a' := ?_) #[false, false, true, true, true, false, false, false, false, false, false] rfl rfl (any_of HT_.out (by kernel_rfl)) (fun _ _ _ h => h) (Or.inl ⟨by rfl, ?_⟩) ?_ ?_
       rotate_left
       ·intro w'
        go_simp
        with_reducible rfl
       rotate_left
       ·simp only [Act.put, List.setIfInBounds_toArray, List.set_cons_zero, List.set_cons_succ, i64_w, i32_w]
        rfl
       refine take_ (i := 0) (N := some 23) (v := ?_) (a' := ?_) #[true, false, true, true, true, false, false, false, false, false, false] rfl rfl (take_ofW HT_.out HW_.out (by kernel_rfl)) (fun _ _ _ h => h) (Or.inl ⟨by rfl, ?_⟩) hHeld ?_ ?_
       rotate_left
       ·rintro w' ⟨s0, s1, s2, s3, s4, s5, s6⟩
        go_simp
        with_reducible rfl
       rotate_left
       ·simp only [Act.put, List.setIfInBounds_toArray, List.set_cons_zero, List.set_cons_succ, i64_w, i32_w]
        rfl
       refine take_ (i := 1) (N := some 24) (v := ?_) (a' := ?_) #[true, true, true, true, true, false, false, false, false, false, false] rfl rfl (take_ofW HT_.out HW_.out (by kernel_rfl)) (fun _ _ _ h => h) (Or.inl ⟨by rfl, ?_⟩) hHeld ?_ ?_
       rotate_left
       ·rintro w' ⟨s0, s1, s2, s3, s4, s5, s6⟩
        go_simp
        with_reducible rfl
       rotate_left
       ·simp only [Act.put, List.setIfInBounds_toArray, List.set_cons_zero, List.set_cons_succ, i64_w, i32_w]
        rfl
       refine take_ (i := 5) (N := some 28) (v := ?_) (a' := ?_) #[true, true, true, true, true, true, false, false, false, false, false] rfl rfl (take_ofW HT_.out HW_.out (by kernel_rfl)) (fun _ _ _ h => h) (Or.inl ⟨by rfl, ?_⟩) hHeld ?_ ?_
       rotate_left
       ·rintro w' ⟨s0, s1, s2, s3, s4, s5, s6⟩
        go_simp
        with_reducible rfl
       rotate_left
       ·simp only [Act.put, List.setIfInBounds_toArray, List.set_cons_zero, List.set_cons_succ, i64_w, i32_w]
        rfl
       refine one_ (i := 6) (N := some 29) #[true, true, true, true, true, true, true, false, false, false, false] rfl rfl (one_of HT_.out (by kernel_rfl)) (by decide) (fun K hK => ?_)
       refine goes_ Try.func24 (by kernel_rfl) rfl #[.agg #[.int .i64 a0_0, .int .i64 a0_1, .int .i64 a0_2, .int .i64 a0_3], .agg #[.slice Ao14 x229000_1.length co14, .bool x229001_1], .bool (rdOf false l1 x10_1)] (by rfl) rfl rfl (by (try simp only [List.map_toArray, List.map_cons, List.map_nil]); first | done | rfl | (simp only [List.length_drop, List.length_take]; rfl)) ?_
       with_reducible refine (awardingbodyref27_Step.calls k1 a0_0 a0_1 a0_2 a0_3 _ _ x229000_1 x229001_1 (rdOf false l1 x10_1) t230 true t234 _ ?side1 ?side2 A11.out).mono ?_
       (case side1 => repeat (first | exact (Kd.Q_reads' HO_229000.out).2.2 | (with_reducible refine Kd.C_alloc ?_ _) | (with_reducible refine Kd.C_drewN ?_ _) | (with_reducible refine Kd.C_drew ?_)))
       (case side2 => exact (Kd.Q_reads' HO_229000.out).2.1)
       rintro e w15 ⟨v231, rfl, ho0, hb⟩
       refine ⟨_, rfl, ?_⟩
       have HO232 := za (Kd.Q_lower (Kd.Q_new' ho0 (Kd.Q_lt (by (with_reducible repeat (first | apply Kd.Q_alloc | apply Kd.Q_drewN | apply Kd.Q_drew)); exact HO_229000.out))) (below_size (zm HB)))
       replace HO_229000 := za (Kd.Q_elder' (by (with_reducible repeat (first | apply Kd.Q_alloc | apply Kd.Q_drewN | apply Kd.Q_drew)); exact HO_229000.out) (Kd.Q_base ho0) hb)
       replace BK226 := zb BK226 hb
       replace BK228 := zb BK228 hb
       replace HB := zs HB hb
       (try clear hb)
       (try clear hb2)
       (try clear hk)
       (try clear hi)
       (try clear ho0)
       obtain ⟨Ao16, co16, eo16, _⟩ := Kd.Q_slice HO232.out
       (first | subst eo16 | (injection eo16 with f1_ f2_ f3_; have f4_ := f1_.symm; have f5_ := f3_.symm; clear f1_ f2_ f3_; subst f4_; subst f5_))
       refine hK.out _ _ ⟨(blk_cell BK226.out 0).trans rfl, (blk_cell BK226.out 1).trans rfl, (blk_cell BK226.out 2).trans rfl, (blk_cell BK226.out 3).trans rfl, (blk_cell BK228.out 0).trans rfl, (blk_cell BK228.out 1).trans rfl, (zx HB hw229_0)⟩ (fun hHeld => ?_)
       clear hK K
       refine norm_ (a' := ?_) ?_ ?_
       rotate_left
       ·show Act.put _ (some 29) _ = _
        simp only [Act.put, List.setIfInBounds_toArray, List.set_cons_zero, List.set_cons_succ, i64_w, i32_w]
        rfl
       refine pure_ (i := 7) (N := some 22) (v := ?_) (a' := ?_) #[true, true, true, true, true, true, true, true, false, false, false] rfl rfl (any_of HT_.out (by kernel_rfl)) (fun _ _ _ h => h) (Or.inl ⟨by rfl, ?_⟩) ?_ ?_
       rotate_left
       ·intro w'
        go_simp
        with_reducible rfl
       rotate_left
       ·simp only [Act.put, List.setIfInBounds_toArray, List.set_cons_zero, List.set_cons_succ, i64_w, i32_w]
        rfl
       refine pure_ (i := 8) (N := some 30) (v := ?_) (a' := ?_) #[true, true, true, true, true, true, true, true, true, false, false] rfl rfl (any_of HT_.out (by kernel_rfl)) (fun _ _ _ h => h) (Or.inl ⟨by rfl, ?_⟩) ?_ ?_
       rotate_left
       ·intro w'
        go_simp
        with_reducible rfl
       rotate_left
       ·simp only [Act.put, List.setIfInBounds_toArray, List.set_cons_zero, List.set_cons_succ, i64_w, i32_w]
        rfl
       refine pure_ (i := 9) (N := some 31) (v := ?_) (a' := ?_) #[true, true, true, true, true, true, true, true, true, true, false] rfl rfl (any_of HT_.out (by kernel_rfl)) (fun _ _ _ h => h) (Or.inl ⟨by rfl, ?_⟩) ?_ ?_
       rotate_left
       ·intro w'
        go_simp
        with_reducible rfl
       rotate_left
       ·simp only [Act.put, List.setIfInBounds_toArray, List.set_cons_zero, List.set_cons_succ, i64_w, i32_w]
        rfl
       refine last_ (i := 10) (N := none) #[true, true, true, true, true, true, true, true, true, true, true] rfl rfl (one_of HT_.out (by kernel_rfl)) (by decide) (fun K hK => ?_)
       have hs17 : w15.cell? ⟨gb228, 0, none⟩ = some (.slice Ao14 x229000_1.length co14) := (blk_cell BK228.out 0).trans rfl
       have hfs17 := blk_frozen BK228.out 0
       have hns17_0 := NB226_228.out
       have hms17_0 := NB228_226.out
       have hs18 : w15.cell? ⟨gb228, 1, none⟩ = some (.bool x229001_1) := (blk_cell BK228.out 1).trans rfl
       have hfs18 := blk_frozen BK228.out 1
       have hns18_0 := NB226_228.out
       have hms18_0 := NB228_226.out
       refine skip_ (w1 := ?_) (by rfl) rfl ?_ ?_
       rotate_left
       ·go_simp
        rfl
       refine hK.out _ _ ?_
       clear hK K
       refine done_ (done_of HT_.out (by kernel_rfl)) ?_
       have hnb19 := NB228_226.out
       have hnc19 := NB226_228.out
       obtain ⟨hcz20_0, hcz20_1, hfz20_0, hfz20_1⟩ := z2 BK228
       try go_wp2
       go_ret3
       exact ⟨zf, zm HB⟩
      ·replace c12 := Bool.eq_false_iff.mpr c12
       subst c12
       have H1 : (if rdOf false l1 x10_1 = true then (awardingbodyref27_Run.l0 k1 l1 x10_1 (wrap64 (x10_1 + 1)) a0_0 a0_1 a0_2 a0_3 t230 false) else (awardingbodyref27_Run.l0 k1 l1 x9_1 (wrap64 (x10_1 + 1)) a0_0 a0_1 a0_2 a0_3 t230 false)) = some (r1, r2, r3) := by rw [if_neg (show ¬ (false = true) by decide)] at H; exact H
       clear H
       have H := H1
       clear H1
       obtain ⟨bq21, hbq21⟩ : ∃ b_ : Bool, b_ = (rdOf false l1 x10_1) := ⟨_, rfl⟩
       replace H : (if bq21 = true then (awardingbodyref27_Run.l0 k1 l1 x10_1 (wrap64 (x10_1 + 1)) a0_0 a0_1 a0_2 a0_3 t230 false) else (awardingbodyref27_Run.l0 k1 l1 x9_1 (wrap64 (x10_1 + 1)) a0_0 a0_1 a0_2 a0_3 t230 false)) = some (r1, r2, r3) := by rw [← hbq21] at H; exact H
       have Nbq21 := za hbq21
       clear hbq21
       by_cases c22 : bq21 = true
       ·subst c22
        (try rw [← Nbq21.out] at A3)
        (try rw [← Nbq21.out] at A11)
        have H1 : (awardingbodyref27_Run.l0 k1 l1 x10_1 (wrap64 (x10_1 + 1)) a0_0 a0_1 a0_2 a0_3 t230 false) = some (r1, r2, r3) := by rw [if_pos rfl] at H; exact H
        clear H
        have H := H1
        clear H1
        have H' := za H
        clear H
        try go_wp2
        replace HO_229000 := za (Kd.Q_drew HO_229000.out)
        replace BK226 := za (blk_drew BK226.out)
        replace BK228 := za (blk_drew BK228.out)
        replace HB := za (below_drew1 HB.out)
        have p229 : 0 ≤ (x10_1 : Int) := of_decide_eq_true (by first | (with_reducible assumption) | assumption)
        have q229 : x10_1 < (l1.length : Int) := of_decide_eq_true (by first | (with_reducible assumption) | assumption)
        obtain ⟨ad229, e229, hx229_0⟩ := Kd.at_bool HR1.out x10_1 p229 q229
        have hw229_0 := hx229_0
        (try rw [← Nbq21.out] at hx229_0)
        (try rw [← Nbq21.out] at hw229_0)
        cases e229
        replace hx229_0 := zx HB hx229_0
        replace p229 := eq_true p229
        replace q229 := eq_true q229
        obtain ⟨Ao24, co24, eo24, _⟩ := Kd.Q_slice HO_229000.out
        (first | subst eo24 | (injection eo24 with f1_ f2_ f3_; have f4_ := f1_.symm; have f5_ := f3_.symm; clear f1_ f2_ f3_; subst f4_; subst f5_))
        refine start_ (n := 11) (S := fun w' => w'.cell? ⟨gb226, 0, none⟩ = some (.int .i64 a0_0) ∧ w'.cell? ⟨gb226, 1, none⟩ = some (.int .i64 a0_1) ∧ w'.cell? ⟨gb226, 2, none⟩ = some (.int .i64 a0_2) ∧ w'.cell? ⟨gb226, 3, none⟩ = some (.int .i64 a0_3) ∧ w'.cell? ⟨gb228, 0, none⟩ = some (.slice Ao24 x229000_1.length co24) ∧ w'.cell? ⟨gb228, 1, none⟩ = some (.bool x229001_1) ∧ w'.cell? (ad229.add (x10_1).toNat) = some (.bool true)) (ds := [10]) #[false, false, false, false, false, false, false, false, false, false, false] (by kernel_rfl) rfl rfl ⟨(blk_cell BK226.out 0).trans rfl, (blk_cell BK226.out 1).trans rfl, (blk_cell BK226.out 2).trans rfl, (blk_cell BK226.out 3).trans rfl, (blk_cell BK228.out 0).trans rfl, (blk_cell BK228.out 1).trans rfl, (zx HB hw229_0)⟩ (fun hHeld => ?_); refine with_tabW awardingbodyref27_Run.tab9 awardingbodyref27_Run.bits9 (fun HT_ HW_ => ?_)
        generalize wr.drew = w23 at HO_229000 BK226 BK228 HB hx229_0 hHeld ⊢
        refine pure_ (i := 2) (N := some 25) (v := ?_) (a' := ?_) #[false, false, true, false, false, false, false, false, false, false, false] rfl rfl (any_of HT_.out (by kernel_rfl)) (fun _ _ _ h => h) (Or.inl ⟨by rfl, ?_⟩) ?_ ?_
        rotate_left
        ·intro w'
         go_simp
         with_reducible rfl
        rotate_left
        ·simp only [Act.put, List.setIfInBounds_toArray, List.set_cons_zero, List.set_cons_succ, i64_w, i32_w]
         rfl
        refine pure_ (i := 3) (N := some 26) (v := ?_) (a' := ?_) #[false, false, true, true, false, false, false, false, false, false, false] rfl rfl (any_of HT_.out (by kernel_rfl)) (fun _ _ _ h => h) (Or.inl ⟨by rfl, ?_⟩) ?_ ?_
        rotate_left
        ·intro w'
         go_simp
         with_reducible rfl
        rotate_left
        ·simp only [Act.put, List.setIfInBounds_toArray, List.set_cons_zero, List.set_cons_succ, i64_w, i32_w]
         rfl
        refine pure_ (i := 4) (N := some 27) (v := ?_) (a' := ?_) #[false, false, true, true, true, false, false, false, false, false, false] rfl rfl (any_of HT_.out (by kernel_rfl)) (fun _ _ _ h => h) (Or.inl ⟨by rfl, ?_⟩) ?_ ?_
        rotate_left
        ·intro w'
         go_simp
         with_reducible rfl
        rotate_left
        ·simp only [Act.put, List.setIfInBounds_toArray, List.set_cons_zero, List.set_cons_succ, i64_w, i32_w]
         rfl
        refine take_ (i := 0) (N := some 23) (v := ?_) (a' := ?_) #[true, false, true, true, true, false, false, false, false, false, false] rfl rfl (take_ofW HT_.out HW_.out (by kernel_rfl)) (fun _ _ _ h => h) (Or.inl ⟨by rfl, ?_⟩) hHeld ?_ ?_
        rotate_left
        ·rintro w' ⟨s0, s1, s2, s3, s4, s5, s6⟩
         go_simp
         with_reducible rfl
        rotate_left
        ·simp only [Act.put, List.setIfInBounds_toArray, List.set_cons_zero, List.set_cons_succ, i64_w, i32_w]
         rfl
        refine take_ (i := 1) (N := some 24) (v := ?_) (a' := ?_) #[true, true, true, true, true, false, false, false, false, false, false] rfl rfl (take_ofW HT_.out HW_.out (by kernel_rfl)) (fun _ _ _ h => h) (Or.inl ⟨by rfl, ?_⟩) hHeld ?_ ?_
        rotate_left
        ·rintro w' ⟨s0, s1, s2, s3, s4, s5, s6⟩
         go_simp
         with_reducible rfl
        rotate_left
        ·simp only [Act.put, List.setIfInBounds_toArray, List.set_cons_zero, List.set_cons_succ, i64_w, i32_w]
         rfl
        refine take_ (i := 5) (N := some 28) (v := ?_) (a' := ?_) #[true, true, true, true, true, true, false, false, false, false, false] rfl rfl (take_ofW HT_.out HW_.out (by kernel_rfl)) (fun _ _ _ h => h) (Or.inl ⟨by rfl, ?_⟩) hHeld ?_ ?_
        rotate_left
        ·rintro w' ⟨s0, s1, s2, s3, s4, s5, s6⟩
         go_simp
         with_reducible rfl
        rotate_left
        ·simp only [Act.put, List.setIfInBounds_toArray, List.set_cons_zero, List.set_cons_succ, i64_w, i32_w]
         rfl
        refine one_ (i := 6) (N := some 29) #[true, true, true, true, true, true, true, false, false, false, false] rfl rfl (one_of HT_.out (by kernel_rfl)) (by decide) (fun K hK => ?_)
        refine goes_ Try.func24 (by kernel_rfl) rfl #[.agg #[.int .i64 a0_0, .int .i64 a0_1, .int .i64 a0_2, .int .i64 a0_3], .agg #[.slice Ao24 x229000_1.length co24, .bool x229001_1], .bool true] (by rfl) rfl rfl (by (try simp only [List.map_toArray, List.map_cons, List.map_nil]); first | done | rfl | (simp only [List.length_drop, List.length_take]; rfl)) ?_
        with_reducible refine (awardingbodyref27_Step.calls k1 a0_0 a0_1 a0_2 a0_3 _ _ x229000_1 x229001_1 true t230 false t234 _ ?side1 ?side2 A11.out).mono ?_
        (case side1 => repeat (first | exact (Kd.Q_reads' HO_229000.out).2.2 | (with_reducible refine Kd.C_alloc ?_ _) | (with_reducible refine Kd.C_drewN ?_ _) | (with_reducible refine Kd.C_drew ?_)))
        (case side2 => exact (Kd.Q_reads' HO_229000.out).2.1)
        rintro e w25 ⟨v231, rfl, ho0, hb⟩
        refine ⟨_, rfl, ?_⟩
        have HO232 := za (Kd.Q_lower (Kd.Q_new' ho0 (Kd.Q_lt (by (with_reducible repeat (first | apply Kd.Q_alloc | apply Kd.Q_drewN | apply Kd.Q_drew)); exact HO_229000.out))) (below_size (zm HB)))
        replace HO_229000 := za (Kd.Q_elder' (by (with_reducible repeat (first | apply Kd.Q_alloc | apply Kd.Q_drewN | apply Kd.Q_drew)); exact HO_229000.out) (Kd.Q_base ho0) hb)
        replace BK226 := zb BK226 hb
        replace BK228 := zb BK228 hb
        replace HB := zs HB hb
        (try clear hb)
        (try clear hb2)
        (try clear hk)
        (try clear hi)
        (try clear ho0)
        obtain ⟨Ao26, co26, eo26, _⟩ := Kd.Q_slice HO232.out
        (first | subst eo26 | (injection eo26 with f1_ f2_ f3_; have f4_ := f1_.symm; have f5_ := f3_.symm; clear f1_ f2_ f3_; subst f4_; subst f5_))
        refine hK.out _ _ ⟨(blk_cell BK226.out 0).trans rfl, (blk_cell BK226.out 1).trans rfl, (blk_cell BK226.out 2).trans rfl, (blk_cell BK226.out 3).trans rfl, (blk_cell BK228.out 0).trans rfl, (blk_cell BK228.out 1).trans rfl, (zx HB hw229_0)⟩ (fun hHeld => ?_)
        clear hK K
        refine norm_ (a' := ?_) ?_ ?_
        rotate_left
        ·show Act.put _ (some 29) _ = _
         simp only [Act.put, List.setIfInBounds_toArray, List.set_cons_zero, List.set_cons_succ, i64_w, i32_w]
         rfl
        refine pure_ (i := 7) (N := some 22) (v := ?_) (a' := ?_) #[true, true, true, true, true, true, true, true, false, false, false] rfl rfl (any_of HT_.out (by kernel_rfl)) (fun _ _ _ h => h) (Or.inl ⟨by rfl, ?_⟩) ?_ ?_
        rotate_left
        ·intro w'
         go_simp
         with_reducible rfl
        rotate_left
        ·simp only [Act.put, List.setIfInBounds_toArray, List.set_cons_zero, List.set_cons_succ, i64_w, i32_w]
         rfl
        refine pure_ (i := 8) (N := some 30) (v := ?_) (a' := ?_) #[true, true, true, true, true, true, true, true, true, false, false] rfl rfl (any_of HT_.out (by kernel_rfl)) (fun _ _ _ h => h) (Or.inl ⟨by rfl, ?_⟩) ?_ ?_
        rotate_left
        ·intro w'
         go_simp
         with_reducible rfl
        rotate_left
        ·simp only [Act.put, List.setIfInBounds_toArray, List.set_cons_zero, List.set_cons_succ, i64_w, i32_w]
         rfl
        refine pure_ (i := 9) (N := some 31) (v := ?_) (a' := ?_) #[true, true, true, true, true, true, true, true, true, true, false] rfl rfl (any_of HT_.out (by kernel_rfl)) (fun _ _ _ h => h) (Or.inl ⟨by rfl, ?_⟩) ?_ ?_
        rotate_left
        ·intro w'
         go_simp
         with_reducible rfl
        rotate_left
        ·simp only [Act.put, List.setIfInBounds_toArray, List.set_cons_zero, List.set_cons_succ, i64_w, i32_w]
         rfl
        refine last_ (i := 10) (N := none) #[true, true, true, true, true, true, true, true, true, true, true] rfl rfl (one_of HT_.out (by kernel_rfl)) (by decide) (fun K hK => ?_)
        have hs27 : w25.cell? ⟨gb228, 0, none⟩ = some (.slice Ao24 x229000_1.length co24) := (blk_cell BK228.out 0).trans rfl
        have hfs27 := blk_frozen BK228.out 0
        have hns27_0 := NB226_228.out
        have hms27_0 := NB228_226.out
        have hs28 : w25.cell? ⟨gb228, 1, none⟩ = some (.bool x229001_1) := (blk_cell BK228.out 1).trans rfl
        have hfs28 := blk_frozen BK228.out 1
        have hns28_0 := NB226_228.out
        have hms28_0 := NB228_226.out
        refine skip_ (w1 := ?_) (by rfl) rfl ?_ ?_
        rotate_left
        ·go_simp
         rfl
        refine hK.out _ _ ?_
        clear hK K
        refine done_ (done_of HT_.out (by kernel_rfl)) ?_
        have hnb29 := NB228_226.out
        have hnc29 := NB226_228.out
        obtain ⟨hcz30_0, hcz30_1, hfz30_0, hfz30_1⟩ := z2 BK228
        have p235 : 0 ≤ (x10_1 : Int) := of_decide_eq_true (by first | (with_reducible assumption) | assumption)
        have q235 : x10_1 < (l1.length : Int) := of_decide_eq_true (by first | (with_reducible assumption) | assumption)
        obtain ⟨ad235, e235, hx235_0⟩ := Kd.at_bool HR1.out x10_1 p235 q235
        (try rw [← Nbq21.out] at hx235_0)
        (try rw [← Nbq21.out] at hw235_0)
        obtain rfl : ad229 = ad235 := (by injection e235)
        have hn235_0 : ad229.block ≠ gb228 := Nat.ne_of_lt (Nat.lt_of_lt_of_le (by have := World.block_lt_of_cell? _ _ hx235_0; first | rwa [add_block] at this | exact this) GW228.out)
        have hn235_1 : ad229.block ≠ gb228 := Nat.ne_of_lt (Nat.lt_of_lt_of_le (by have := World.block_lt_of_cell? _ _ hx235_0; first | rwa [add_block] at this | exact this) GW228.out)
        replace hx235_0 := zx HB hx235_0
        replace hx235_0 := (cell_far (p := ⟨gb228, 0, none⟩) (by first | (rw [add_block]; exact hn235_0) | (show (Addr.add _ _).block ≠ _; rw [add_block]; exact hn235_0) | exact hn235_0) (.slice Ao26 t230.length co26)).trans hx235_0
        replace hx235_0 := (cell_far (p := ⟨gb228, 1, none⟩) (by first | (rw [add_block]; exact hn235_1) | (show (Addr.add _ _).block ≠ _; rw [add_block]; exact hn235_1) | exact hn235_1) (.bool false)).trans hx235_0
        clear hn235_0 hn235_1
        replace p235 := eq_true p235
        replace q235 := eq_true q235
        try go_wp2
        go_roundg k1
        case measure => have := HK1.out; omega
        case rel => exact ⟨(x10_1), (wrap64 (x10_1 + 1)), (t230), (false), (.slice Ao26 t230.length co26), (by first | rfl | (simp; done) | (simp [*]; done)), (by first | rfl | (simp; done) | (simp [*]; done)), H', ⟨by have := HK1.out; omega⟩, ⟨by (with_reducible repeat (first | apply Kd.Q_alloc | apply Kd.Q_drewN | apply Kd.Q_drew)); exact Kd.Q_mono (Kd.Q_far (p := ⟨gb228, 1, none⟩) (Kd.Q_far (p := ⟨gb228, 0, none⟩) (Kd.Q_types HO232.out BK228.out (by decide)) (fun _ hk => hk.2) (.slice Ao26 t230.length co26)) (fun _ hk => hk.2) (.bool false)) (fun _ hk => trivial)⟩, ⟨by (with_reducible repeat (first | refine blk_drewN ?_ _ | refine blk_drew ?_ | refine blk_alloc ?_ _)); refine blk_far ?_ NB226_228.out _; (with_reducible repeat (first | refine blk_drewN ?_ _ | refine blk_drew ?_ | refine blk_alloc ?_ _)); refine blk_far ?_ NB226_228.out _; (with_reducible repeat (first | refine blk_drewN ?_ _ | refine blk_drew ?_ | refine blk_alloc ?_ _)); exact BK226.out⟩, ⟨by (with_reducible repeat (first | refine blk_drewN ?_ _ | refine blk_drew ?_ | refine blk_alloc ?_ _)); refine blk_put (cs := #[.slice Ao26 t230.length co26, .bool x229001_1]) ?_ 1 _ rfl; (with_reducible repeat (first | refine blk_drewN ?_ _ | refine blk_drew ?_ | refine blk_alloc ?_ _)); refine blk_put (cs := #[.slice Ao24 x229000_1.length co24, .bool x229001_1]) ?_ 0 _ rfl; (with_reducible repeat (first | refine blk_drewN ?_ _ | refine blk_drew ?_ | refine blk_alloc ?_ _)); exact BK228.out⟩, ⟨zm HB⟩⟩
       ·replace c22 := Bool.eq_false_iff.mpr c22
        subst c22
        (try rw [← Nbq21.out] at A3)
        (try rw [← Nbq21.out] at A11)
        have H1 : (awardingbodyref27_Run.l0 k1 l1 x9_1 (wrap64 (x10_1 + 1)) a0_0 a0_1 a0_2 a0_3 t230 false) = some (r1, r2, r3) := by rw [if_neg (show ¬ (false = true) by decide)] at H; exact H
        clear H
        have H := H1
        clear H1
        have H' := za H
        clear H
        try go_wp2
        replace HO_229000 := za (Kd.Q_drew HO_229000.out)
        replace BK226 := za (blk_drew BK226.out)
        replace BK228 := za (blk_drew BK228.out)
        replace HB := za (below_drew1 HB.out)
        have p229 : 0 ≤ (x10_1 : Int) := of_decide_eq_true (by first | (with_reducible assumption) | assumption)
        have q229 : x10_1 < (l1.length : Int) := of_decide_eq_true (by first | (with_reducible assumption) | assumption)
        obtain ⟨ad229, e229, hx229_0⟩ := Kd.at_bool HR1.out x10_1 p229 q229
        have hw229_0 := hx229_0
        (try rw [← Nbq21.out] at hx229_0)
        (try rw [← Nbq21.out] at hw229_0)
        cases e229
        replace hx229_0 := zx HB hx229_0
        replace p229 := eq_true p229
        replace q229 := eq_true q229
        obtain ⟨Ao32, co32, eo32, _⟩ := Kd.Q_slice HO_229000.out
        (first | subst eo32 | (injection eo32 with f1_ f2_ f3_; have f4_ := f1_.symm; have f5_ := f3_.symm; clear f1_ f2_ f3_; subst f4_; subst f5_))
        refine start_ (n := 11) (S := fun w' => w'.cell? ⟨gb226, 0, none⟩ = some (.int .i64 a0_0) ∧ w'.cell? ⟨gb226, 1, none⟩ = some (.int .i64 a0_1) ∧ w'.cell? ⟨gb226, 2, none⟩ = some (.int .i64 a0_2) ∧ w'.cell? ⟨gb226, 3, none⟩ = some (.int .i64 a0_3) ∧ w'.cell? ⟨gb228, 0, none⟩ = some (.slice Ao32 x229000_1.length co32) ∧ w'.cell? ⟨gb228, 1, none⟩ = some (.bool x229001_1) ∧ w'.cell? (ad229.add (x10_1).toNat) = some (.bool false)) (ds := [10]) #[false, false, false, false, false, false, false, false, false, false, false] (by kernel_rfl) rfl rfl ⟨(blk_cell BK226.out 0).trans rfl, (blk_cell BK226.out 1).trans rfl, (blk_cell BK226.out 2).trans rfl, (blk_cell BK226.out 3).trans rfl, (blk_cell BK228.out 0).trans rfl, (blk_cell BK228.out 1).trans rfl, (zx HB hw229_0)⟩ (fun hHeld => ?_); refine with_tabW awardingbodyref27_Run.tab9 awardingbodyref27_Run.bits9 (fun HT_ HW_ => ?_)
        generalize wr.drew = w31 at HO_229000 BK226 BK228 HB hx229_0 hHeld ⊢
        refine pure_ (i := 2) (N := some 25) (v := ?_) (a' := ?_) #[false, false, true, false, false, false, false, false, false, false, false] rfl rfl (any_of HT_.out (by kernel_rfl)) (fun _ _ _ h => h) (Or.inl ⟨by rfl, ?_⟩) ?_ ?_
        rotate_left
        ·intro w'
         go_simp
         with_reducible rfl
        rotate_left
        ·simp only [Act.put, List.setIfInBounds_toArray, List.set_cons_zero, List.set_cons_succ, i64_w, i32_w]
         rfl
        refine pure_ (i := 3) (N := some 26) (v := ?_) (a' := ?_) #[false, false, true, true, false, false, false, false, false, false, false] rfl rfl (any_of HT_.out (by kernel_rfl)) (fun _ _ _ h => h) (Or.inl ⟨by rfl, ?_⟩) ?_ ?_
        rotate_left
        ·intro w'
         go_simp
         with_reducible rfl
        rotate_left
        ·simp only [Act.put, List.setIfInBounds_toArray, List.set_cons_zero, List.set_cons_succ, i64_w, i32_w]
         rfl
        refine pure_ (i := 4) (N := some 27) (v := ?_) (a' := ?_) #[false, false, true, true, true, false, false, false, false, false, false] rfl rfl (any_of HT_.out (by kernel_rfl)) (fun _ _ _ h => h) (Or.inl ⟨by rfl, ?_⟩) ?_ ?_
        rotate_left
        ·intro w'
         go_simp
         with_reducible rfl
        rotate_left
        ·simp only [Act.put, List.setIfInBounds_toArray, List.set_cons_zero, List.set_cons_succ, i64_w, i32_w]
         rfl
        refine take_ (i := 0) (N := some 23) (v := ?_) (a' := ?_) #[true, false, true, true, true, false, false, false, false, false, false] rfl rfl (take_ofW HT_.out HW_.out (by kernel_rfl)) (fun _ _ _ h => h) (Or.inl ⟨by rfl, ?_⟩) hHeld ?_ ?_
        rotate_left
        ·rintro w' ⟨s0, s1, s2, s3, s4, s5, s6⟩
         go_simp
         with_reducible rfl
        rotate_left
        ·simp only [Act.put, List.setIfInBounds_toArray, List.set_cons_zero, List.set_cons_succ, i64_w, i32_w]
         rfl
        refine take_ (i := 1) (N := some 24) (v := ?_) (a' := ?_) #[true, true, true, true, true, false, false, false, false, false, false] rfl rfl (take_ofW HT_.out HW_.out (by kernel_rfl)) (fun _ _ _ h => h) (Or.inl ⟨by rfl, ?_⟩) hHeld ?_ ?_
        rotate_left
        ·rintro w' ⟨s0, s1, s2, s3, s4, s5, s6⟩
         go_simp
         with_reducible rfl
        rotate_left
        ·simp only [Act.put, List.setIfInBounds_toArray, List.set_cons_zero, List.set_cons_succ, i64_w, i32_w]
         rfl
        refine take_ (i := 5) (N := some 28) (v := ?_) (a' := ?_) #[true, true, true, true, true, true, false, false, false, false, false] rfl rfl (take_ofW HT_.out HW_.out (by kernel_rfl)) (fun _ _ _ h => h) (Or.inl ⟨by rfl, ?_⟩) hHeld ?_ ?_
        rotate_left
        ·rintro w' ⟨s0, s1, s2, s3, s4, s5, s6⟩
         go_simp
         with_reducible rfl
        rotate_left
        ·simp only [Act.put, List.setIfInBounds_toArray, List.set_cons_zero, List.set_cons_succ, i64_w, i32_w]
         rfl
        refine one_ (i := 6) (N := some 29) #[true, true, true, true, true, true, true, false, false, false, false] rfl rfl (one_of HT_.out (by kernel_rfl)) (by decide) (fun K hK => ?_)
        refine goes_ Try.func24 (by kernel_rfl) rfl #[.agg #[.int .i64 a0_0, .int .i64 a0_1, .int .i64 a0_2, .int .i64 a0_3], .agg #[.slice Ao32 x229000_1.length co32, .bool x229001_1], .bool false] (by rfl) rfl rfl (by (try simp only [List.map_toArray, List.map_cons, List.map_nil]); first | done | rfl | (simp only [List.length_drop, List.length_take]; rfl)) ?_
        with_reducible refine (awardingbodyref27_Step.calls k1 a0_0 a0_1 a0_2 a0_3 _ _ x229000_1 x229001_1 false t230 false t234 _ ?side1 ?side2 A11.out).mono ?_
        (case side1 => repeat (first | exact (Kd.Q_reads' HO_229000.out).2.2 | (with_reducible refine Kd.C_alloc ?_ _) | (with_reducible refine Kd.C_drewN ?_ _) | (with_reducible refine Kd.C_drew ?_)))
        (case side2 => exact (Kd.Q_reads' HO_229000.out).2.1)
        rintro e w33 ⟨v231, rfl, ho0, hb⟩
        refine ⟨_, rfl, ?_⟩
        have HO232 := za (Kd.Q_lower (Kd.Q_new' ho0 (Kd.Q_lt (by (with_reducible repeat (first | apply Kd.Q_alloc | apply Kd.Q_drewN | apply Kd.Q_drew)); exact HO_229000.out))) (below_size (zm HB)))
        replace HO_229000 := za (Kd.Q_elder' (by (with_reducible repeat (first | apply Kd.Q_alloc | apply Kd.Q_drewN | apply Kd.Q_drew)); exact HO_229000.out) (Kd.Q_base ho0) hb)
        replace BK226 := zb BK226 hb
        replace BK228 := zb BK228 hb
        replace HB := zs HB hb
        (try clear hb)
        (try clear hb2)
        (try clear hk)
        (try clear hi)
        (try clear ho0)
        obtain ⟨Ao34, co34, eo34, _⟩ := Kd.Q_slice HO232.out
        (first | subst eo34 | (injection eo34 with f1_ f2_ f3_; have f4_ := f1_.symm; have f5_ := f3_.symm; clear f1_ f2_ f3_; subst f4_; subst f5_))
        refine hK.out _ _ ⟨(blk_cell BK226.out 0).trans rfl, (blk_cell BK226.out 1).trans rfl, (blk_cell BK226.out 2).trans rfl, (blk_cell BK226.out 3).trans rfl, (blk_cell BK228.out 0).trans rfl, (blk_cell BK228.out 1).trans rfl, (zx HB hw229_0)⟩ (fun hHeld => ?_)
        clear hK K
        refine norm_ (a' := ?_) ?_ ?_
        rotate_left
        ·show Act.put _ (some 29) _ = _
         simp only [Act.put, List.setIfInBounds_toArray, List.set_cons_zero, List.set_cons_succ, i64_w, i32_w]
         rfl
        refine pure_ (i := 7) (N := some 22) (v := ?_) (a' := ?_) #[true, true, true, true, true, true, true, true, false, false, false] rfl rfl (any_of HT_.out (by kernel_rfl)) (fun _ _ _ h => h) (Or.inl ⟨by rfl, ?_⟩) ?_ ?_
        rotate_left
        ·intro w'
         go_simp
         with_reducible rfl
        rotate_left
        ·simp only [Act.put, List.setIfInBounds_toArray, List.set_cons_zero, List.set_cons_succ, i64_w, i32_w]
         rfl
        refine pure_ (i := 8) (N := some 30) (v := ?_) (a' := ?_) #[true, true, true, true, true, true, true, true, true, false, false] rfl rfl (any_of HT_.out (by kernel_rfl)) (fun _ _ _ h => h) (Or.inl ⟨by rfl, ?_⟩) ?_ ?_
        rotate_left
        ·intro w'
         go_simp
         with_reducible rfl
        rotate_left
        ·simp only [Act.put, List.setIfInBounds_toArray, List.set_cons_zero, List.set_cons_succ, i64_w, i32_w]
         rfl
        refine pure_ (i := 9) (N := some 31) (v := ?_) (a' := ?_) #[true, true, true, true, true, true, true, true, true, true, false] rfl rfl (any_of HT_.out (by kernel_rfl)) (fun _ _ _ h => h) (Or.inl ⟨by rfl, ?_⟩) ?_ ?_
        rotate_left
        ·intro w'
         go_simp
         with_reducible rfl
        rotate_left
        ·simp only [Act.put, List.setIfInBounds_toArray, List.set_cons_zero, List.set_cons_succ, i64_w, i32_w]
         rfl
        refine last_ (i := 10) (N := none) #[true, true, true, true, true, true, true, true, true, true, true] rfl rfl (one_of HT_.out (by kernel_rfl)) (by decide) (fun K hK => ?_)
        have hs35 : w33.cell? ⟨gb228, 0, none⟩ = some (.slice Ao32 x229000_1.length co32) := (blk_cell BK228.out 0).trans rfl
        have hfs35 := blk_frozen BK228.out 0
        have hns35_0 := NB226_228.out
        have hms35_0 := NB228_226.out
        have hs36 : w33.cell? ⟨gb228, 1, none⟩ = some (.bool x229001_1) := (blk_cell BK228.out 1).trans rfl
        have hfs36 := blk_frozen BK228.out 1
        have hns36_0 := NB226_228.out
        have hms36_0 := NB228_226.out
        refine skip_ (w1 := ?_) (by rfl) rfl ?_ ?_
        rotate_left
        ·go_simp
         rfl
        refine hK.out _ _ ?_
        clear hK K
        refine done_ (done_of HT_.out (by kernel_rfl)) ?_
        have hnb37 := NB228_226.out
        have hnc37 := NB226_228.out
        obtain ⟨hcz38_0, hcz38_1, hfz38_0, hfz38_1⟩ := z2 BK228
        have p235 : 0 ≤ (x10_1 : Int) := of_decide_eq_true (by first | (with_reducible assumption) | assumption)
        have q235 : x10_1 < (l1.length : Int) := of_decide_eq_true (by first | (with_reducible assumption) | assumption)
        obtain ⟨ad235, e235, hx235_0⟩ := Kd.at_bool HR1.out x10_1 p235 q235
        (try rw [← Nbq21.out] at hx235_0)
        (try rw [← Nbq21.out] at hw235_0)
        obtain rfl : ad229 = ad235 := (by injection e235)
        have hn235_0 : ad229.block ≠ gb228 := Nat.ne_of_lt (Nat.lt_of_lt_of_le (by have := World.block_lt_of_cell? _ _ hx235_0; first | rwa [add_block] at this | exact this) GW228.out)
        have hn235_1 : ad229.block ≠ gb228 := Nat.ne_of_lt (Nat.lt_of_lt_of_le (by have := World.block_lt_of_cell? _ _ hx235_0; first | rwa [add_block] at this | exact this) GW228.out)
        replace hx235_0 := zx HB hx235_0
        replace hx235_0 := (cell_far (p := ⟨gb228, 0, none⟩) (by first | (rw [add_block]; exact hn235_0) | (show (Addr.add _ _).block ≠ _; rw [add_block]; exact hn235_0) | exact hn235_0) (.slice Ao34 t230.length co34)).trans hx235_0
        replace hx235_0 := (cell_far (p := ⟨gb228, 1, none⟩) (by first | (rw [add_block]; exact hn235_1) | (show (Addr.add _ _).block ≠ _; rw [add_block]; exact hn235_1) | exact hn235_1) (.bool false)).trans hx235_0
        clear hn235_0 hn235_1
        replace p235 := eq_true p235
        replace q235 := eq_true q235
        try go_wp2
        go_roundg k1
        case measure => have := HK1.out; omega
        case rel => exact ⟨(x9_1), (wrap64 (x10_1 + 1)), (t230), (false), (.slice Ao34 t230.length co34), (by first | rfl | (simp; done) | (simp [*]; done)), (by first | rfl | (simp; done) | (simp [*]; done)), H', ⟨by have := HK1.out; omega⟩, ⟨by (with_reducible repeat (first | apply Kd.Q_alloc | apply Kd.Q_drewN | apply Kd.Q_drew)); exact Kd.Q_mono (Kd.Q_far (p := ⟨gb228, 1, none⟩) (Kd.Q_far (p := ⟨gb228, 0, none⟩) (Kd.Q_types HO232.out BK228.out (by decide)) (fun _ hk => hk.2) (.slice Ao34 t230.length co34)) (fun _ hk => hk.2) (.bool false)) (fun _ hk => trivial)⟩, ⟨by (with_reducible repeat (first | refine blk_drewN ?_ _ | refine blk_drew ?_ | refine blk_alloc ?_ _)); refine blk_far ?_ NB226_228.out _; (with_reducible repeat (first | refine blk_drewN ?_ _ | refine blk_drew ?_ | refine blk_alloc ?_ _)); refine blk_far ?_ NB226_228.out _; (with_reducible repeat (first | refine blk_drewN ?_ _ | refine blk_drew ?_ | refine blk_alloc ?_ _)); exact BK226.out⟩, ⟨by (with_reducible repeat (first | refine blk_drewN ?_ _ | refine blk_drew ?_ | refine blk_alloc ?_ _)); refine blk_put (cs := #[.slice Ao34 t230.length co34, .bool x229001_1]) ?_ 1 _ rfl; (with_reducible repeat (first | refine blk_drewN ?_ _ | refine blk_drew ?_ | refine blk_alloc ?_ _)); refine blk_put (cs := #[.slice Ao32 x229000_1.length co32, .bool x229001_1]) ?_ 0 _ rfl; (with_reducible repeat (first | refine blk_drewN ?_ _ | refine blk_drew ?_ | refine blk_alloc ?_ _)); exact BK228.out⟩, ⟨zm HB⟩⟩
     ·rw [if_neg c10] at H
      exact absurd H (by simp)
    ·rw [if_neg c9] at H
     have c9b0 : decide (x10_1 < (l1.length : Int)) = false := decide_eq_false c9
     clear c9
     simp only [Option.some.injEq, Prod.mk.injEq] at H
     obtain ⟨rfl, rfl, rfl⟩ := H
     go_wp2
     go_ret3
     exact ⟨zf, zm HB⟩
 ·rw [if_neg c4] at H
  have c4b0 : (t227 == 0) = false := beq_eq_false_iff_ne.mpr c4
  have c4b1 : (t227 != 0) = true := bne_iff_ne.mpr c4
  simp only [Option.some.injEq, Prod.mk.injEq] at H
  obtain ⟨rfl, rfl, rfl⟩ := H
  go_enter Try.func21, Try.ntmps21
  go_wp2_with (first | ((with_reducible refine gate_dst (N := 2) rfl ?_); refine zE 2 #[.int .i64 a0_0, .int .i64 a0_1, .int .i64 a0_2, .int .i64 a0_3] 24 ?_; intro gb226 hg w39 hbox hb; have BK226 := za (hbox); have GW226 := zg HB hg; have GE226 := zg HB hg; replace HB := zs HB hb; clear hb hbox hg; obtain ⟨hcz40_0, hcz40_1, hcz40_2, hcz40_3, hfz40_0, hfz40_1, hfz40_2, hfz40_3⟩ := z4 BK226) | ((with_reducible refine gate_callee (f := 15) rfl ?_); refine zL (some 12) Try.func15 #[.agg #[.int .i64 a0_0, .int .i64 a0_1, .int .i64 a0_2, .int .i64 a0_3]] ?_; (with_reducible refine (awardingbodyref27_Check.calls a0_0 a0_1 a0_2 a0_3 t227 _ A3.out).mono ?_); rintro e w41 ⟨rfl, hb⟩; refine ⟨_, rfl, ?_⟩; replace BK226 := zb BK226 hb; replace HB := zs HB hb; (try clear hb); (try clear hb2); (try clear hk); (try clear hi)))
  go_ret3
  exact ⟨zf, zm HB⟩

/-! ### awardingbodymark_Dice_Bool: function 22 -/
def awardingbodymark_Dice_Bool.f (k : Nat) (s0_0 : List Int) (s0_1 : Int) (a1 : Int) : Option (Bool × Int) := (awardingbodymark_Dice_Next.f k s0_0 s0_1 a1).bind fun bt236 => (some ((bt236.1 == (wrap64 (a1 - 1))), bt236.2))
theorem awardingbodymark_Dice_Bool.mono : ∀ a0 a1 a2 k, LeO (awardingbodymark_Dice_Bool.f k a0 a1 a2) (awardingbodymark_Dice_Bool.f (k + 1) a0 a1 a2) := by
  intro a0 a1 a2 k
  unfold awardingbodymark_Dice_Bool.f
  repeat' first
      | (with_reducible exact awardingbodymark_Dice_Next.mono _ _ _ _)
      | (with_reducible exact LeO.refl _)
      | (with_reducible exact LeO.none _)
      | (with_reducible refine LeO.ite ?_ ?_)
      | (with_reducible refine LeO.bind ?_ (fun _ => ?_))
      | exact awardingbodymark_Dice_Next.mono _ _ _ _
      | exact LeO.none _
      | refine LeO.ite ?_ ?_
      | refine LeO.bind ?_ (fun _ => ?_)
set_option maxHeartbeats 8000000 in
set_option maxRecDepth 100000 in
theorem awardingbodymark_Dice_Bool.calls (k : Nat) (g : Nat) (s0_0 : List Int) (s0_1 : Int) (a1 : Int) (r1 : Bool) (r2 : Int) (w0 w : World) (hI : IsS53 w0 w g s0_0 s0_1) (hB : Below w0.heap.size w0 w) (h : awardingbodymark_Dice_Bool.f k s0_0 s0_1 a1 = some (r1, r2)) :
    Calls Try.prog 22 #[.pointer (some ⟨g, 0, none⟩), .int .i64 a1] w fun e w' => e = .returned (.bool r1) ∧ IsS53 w0 w' g s0_0 r2 ∧ Below w0.heap.size w0 w' ∧ KeepBut w w' g none := by
 have HI0 := za hI
 have HK := za (KeepBut.refl w g none)
 have HL := za hB.size
 clear hI
 have HW0 := za hB.size
 have HB := za hB
 clear hB
 have H : ((awardingbodymark_Dice_Next.f k s0_0 s0_1 a1).bind fun bt236 => (some ((bt236.1 == (wrap64 (a1 - 1))), bt236.2))) = some (r1, r2) := h
 clear h
 replace H := Option.bind_eq_some_iff.mp H
 obtain ⟨⟨t236, t237⟩, A30, H⟩ := H
 replace H : (some ((t236 == (wrap64 (a1 - 1))), t237)) = some (r1, r2) := H
 have A3 := za A30
 clear A30
 simp only [Option.some.injEq, Prod.mk.injEq] at H
 obtain ⟨rfl, rfl⟩ := H
 go_enter Try.func22, Try.ntmps22
 go_wp2_with (first | ((with_reducible refine gate_callee (f := 12) rfl ?_); refine zL (some 7) Try.func12 #[.pointer (some ⟨g, 0, none⟩), .int .i64 a1] ?_; (with_reducible refine (awardingbodymark_Dice_Next.calls k g s0_0 s0_1 a1 t236 t237 w0 _ ?side1 ?side2 A3.out).mono ?_); (case side1 => repeat (first | (with_reducible first | exact HI0.out | apply IsS53.alloc | apply IsS53.drewN | apply IsS53.drew | apply IsS53.set_1) | exact HI0.out)); (case side2 => repeat (first | (with_reducible first | exact HB.out | apply below_alloc | apply pw_below_drewN | apply below_drew1 | refine below_set ?_ (IsS53.ge HI0.out)) | exact HB.out)); rintro e w4 ⟨rfl, hi, hb, hk⟩; refine ⟨_, rfl, ?_⟩; replace HK := zt HK hk; replace HB := za (hb); replace HI0 := za (hi); (try clear hb); (try clear hb2); (try clear hk); (try clear hi)))
 go_ret
 exact ⟨zf, by repeat (first | (with_reducible first | exact HI0.out | apply IsS53.alloc | apply IsS53.drewN | apply IsS53.drew | apply IsS53.set_1) | exact HI0.out), zm HB, by repeat (first | (with_reducible first | exact HK.out | apply KeepBut.set_ | apply keep_drewN | apply keep_drew | apply keep_alloc) | exact HK.out)⟩

/-! ### awardingbodylaw27_same: function 25 -/
mutual
def awardingbodylaw27_same.j0 : Nat → Bool → List Bool → Bool → List Bool → Bool → Option (Bool)
  | 0, _, _, _, _, _ => none
  | k + 1, x19, x239000, x239001, x240000, x240001 => if x19 = true then (some false) else (awardingbodylaw27_same.l0 k (x239000.length : Int) 0 x239000 x239001 x240000 x240001)
def awardingbodylaw27_same.l0 : Nat → Int → Int → List Bool → Bool → List Bool → Bool → Option (Bool)
  | 0, _, _, _, _, _, _ => none
  | k + 1, x22, x23, x239000, x239001, x240000, x240001 => if x23 < x22 then (if 0 ≤ x23 then (if x23 < (x239000.length : Int) then (if x23 < (x240000.length : Int) then (if ((rdOf false x239000 x23) != (rdOf false x240000 x23)) = true then (some false) else (awardingbodylaw27_same.l0 k x22 (wrap64 (x23 + 1)) x239000 x239001 x240000 x240001)) else (none)) else (none)) else (none)) else (some true)
end
def awardingbodylaw27_same.f (k : Nat) (l0_0 : List Bool) (a0_1 : Bool) (l1_0 : List Bool) (a1_1 : Bool) : Option (Bool) := if (a0_1 != a1_1) = true then (awardingbodylaw27_same.j0 k true l0_0 a0_1 l1_0 a1_1) else (awardingbodylaw27_same.j0 k ((l0_0.length : Int) != (l1_0.length : Int)) l0_0 a0_1 l1_0 a1_1)
theorem awardingbodylaw27_same.mono_l : ∀ k, (∀ y0 y1 y2 y3 y4, LeO (awardingbodylaw27_same.j0 k y0 y1 y2 y3 y4) (awardingbodylaw27_same.j0 (k + 1) y0 y1 y2 y3 y4)) ∧ (∀ y0 y1 y2 y3 y4 y5, LeO (awardingbodylaw27_same.l0 k y0 y1 y2 y3 y4 y5) (awardingbodylaw27_same.l0 (k + 1) y0 y1 y2 y3 y4 y5))
  | 0 => ⟨fun _ _ _ _ _ r h => by simp [awardingbodylaw27_same.j0] at h, fun _ _ _ _ _ _ r h => by simp [awardingbodylaw27_same.l0] at h⟩
  | k + 1 => by
    obtain ⟨ih0, ih1⟩ := awardingbodylaw27_same.mono_l k
    refine ⟨?_, ?_⟩
    · intro y0 y1 y2 y3 y4
      unfold awardingbodylaw27_same.j0
      repeat' first
      | (with_reducible exact ih0 _ _ _ _ _)
      | (with_reducible exact ih1 _ _ _ _ _ _)
      | (with_reducible exact LeO.refl _)
      | (with_reducible exact LeO.none _)
      | (with_reducible refine LeO.ite ?_ ?_)
      | (with_reducible refine LeO.bind ?_ (fun _ => ?_))
      | exact ih0 _ _ _ _ _
      | exact ih1 _ _ _ _ _ _
      | exact LeO.none _
      | refine LeO.ite ?_ ?_
      | refine LeO.bind ?_ (fun _ => ?_)
    · intro y0 y1 y2 y3 y4 y5
      unfold awardingbodylaw27_same.l0
      repeat' first
      | (with_reducible exact ih0 _ _ _ _ _)
      | (with_reducible exact ih1 _ _ _ _ _ _)
      | (with_reducible exact LeO.refl _)
      | (with_reducible exact LeO.none _)
      | (with_reducible refine LeO.ite ?_ ?_)
      | (with_reducible refine LeO.bind ?_ (fun _ => ?_))
      | exact ih0 _ _ _ _ _
      | exact ih1 _ _ _ _ _ _
      | exact LeO.none _
      | refine LeO.ite ?_ ?_
      | refine LeO.bind ?_ (fun _ => ?_)
theorem awardingbodylaw27_same.mono : ∀ a0 a1 a2 a3 k, LeO (awardingbodylaw27_same.f k a0 a1 a2 a3) (awardingbodylaw27_same.f (k + 1) a0 a1 a2 a3) := by
  intro a0 a1 a2 a3 k
  obtain ⟨ih0, ih1⟩ := awardingbodylaw27_same.mono_l k
  unfold awardingbodylaw27_same.f
  repeat' first
      | (with_reducible exact ih0 _ _ _ _ _)
      | (with_reducible exact ih1 _ _ _ _ _ _)
      | (with_reducible exact LeO.refl _)
      | (with_reducible exact LeO.none _)
      | (with_reducible refine LeO.ite ?_ ?_)
      | (with_reducible refine LeO.bind ?_ (fun _ => ?_))
      | exact ih0 _ _ _ _ _
      | exact ih1 _ _ _ _ _ _
      | exact LeO.none _
      | refine LeO.ite ?_ ?_
      | refine LeO.bind ?_ (fun _ => ?_)
set_option maxHeartbeats 8000000 in
set_option maxRecDepth 100000 in
theorem awardingbodylaw27_same.calls (k : Nat) (A0_0 : Option Addr) (c0_0 : Nat) (l0_0 : List Bool) (a0_1 : Bool) (A1_0 : Option Addr) (c1_0 : Nat) (l1_0 : List Bool) (a1_1 : Bool) (r : Bool) (w : World) (hr0_0 : Kd.C Kd.bool w A0_0 l0_0.length l0_0) (hc0_0 : l0_0.length ≤ c0_0) (hr1_0 : Kd.C Kd.bool w A1_0 l1_0.length l1_0) (hc1_0 : l1_0.length ≤ c1_0) (h : awardingbodylaw27_same.f k l0_0 a0_1 l1_0 a1_1 = some r) :
    Calls Try.prog 25 #[.agg #[.slice A0_0 l0_0.length c0_0, .bool a0_1], .agg #[.slice A1_0 l1_0.length c1_0, .bool a1_1]] w fun e w' => e = .returned (.bool r) ∧ Below w.heap.size w w' := by
 have hu27 := Try.underlying27
 have HR0_0 := za hr0_0
 have HC0_0 := za hc0_0
 clear hr0_0 hc0_0
 have HR1_0 := za hr1_0
 have HC1_0 := za hc1_0
 clear hr1_0 hc1_0
 have HB := za (Below.refl w.heap.size w)
 have H : (if (a0_1 != a1_1) = true then (awardingbodylaw27_same.j0 k true l0_0 a0_1 l1_0 a1_1) else (awardingbodylaw27_same.j0 k ((l0_0.length : Int) != (l1_0.length : Int)) l0_0 a0_1 l1_0 a1_1)) = some r := h
 clear h
 have HC3 := za H
 clear H
 go_enter Try.func25, Try.ntmps25
 go_upto_region 1 with (first | ((with_reducible refine gate_dst (N := 2) rfl ?_); (try (refine gate_guard (by rfl) ?_; dsimp only)); refine zE 2 #[.slice A0_0 l0_0.length c0_0, .bool a0_1] 27 ?_; intro gb238 hg w4 hbox hb; have BK238 := za (hbox); have GW238 := zg HB hg; have GE238 := zg HB hg; replace HB := zs HB hb; clear hb hbox hg) | ((with_reducible refine gate_dst (N := 3) rfl ?_); (try (refine gate_guard (by rfl) ?_; dsimp only)); refine zE 3 #[.slice A1_0 l1_0.length c1_0, .bool a1_1] 27 ?_; intro gb239 hg w5 hbox hb; have BK239 := za (hbox); have GW239 := zg HB hg; have GE239 := zg HB hg; have NB238_239 := zl BK238 hg; have NB239_238 := zr BK238 hg; replace BK238 := zb BK238 hb; replace HB := zs HB hb; clear hb hbox hg))
 repeat (go_quiet (first | ((with_reducible refine gate_dst (N := 2) rfl ?_); (try (refine gate_guard (by rfl) ?_; dsimp only)); refine zE 2 #[.slice A0_0 l0_0.length c0_0, .bool a0_1] 27 ?_; intro gb238 hg w4 hbox hb; have BK238 := za (hbox); have GW238 := zg HB hg; have GE238 := zg HB hg; replace HB := zs HB hb; clear hb hbox hg) | ((with_reducible refine gate_dst (N := 3) rfl ?_); (try (refine gate_guard (by rfl) ?_; dsimp only)); refine zE 3 #[.slice A1_0 l1_0.length c1_0, .bool a1_1] 27 ?_; intro gb239 hg w5 hbox hb; have BK239 := za (hbox); have GW239 := zg HB hg; have GE239 := zg HB hg; have NB238_239 := zl BK238 hg; have NB239_238 := zr BK238 hg; replace BK238 := zb BK238 hb; replace HB := zs HB hb; clear hb hbox hg)); go_upto_region 1 with (first | ((with_reducible refine gate_dst (N := 2) rfl ?_); (try (refine gate_guard (by rfl) ?_; dsimp only)); refine zE 2 #[.slice A0_0 l0_0.length c0_0, .bool a0_1] 27 ?_; intro gb238 hg w4 hbox hb; have BK238 := za (hbox); have GW238 := zg HB hg; have GE238 := zg HB hg; replace HB := zs HB hb; clear hb hbox hg) | ((with_reducible refine gate_dst (N := 3) rfl ?_); (try (refine gate_guard (by rfl) ?_; dsimp only)); refine zE 3 #[.slice A1_0 l1_0.length c1_0, .bool a1_1] 27 ?_; intro gb239 hg w5 hbox hb; have BK239 := za (hbox); have GW239 := zg HB hg; have GE239 := zg HB hg; have NB238_239 := zl BK238 hg; have NB239_238 := zr BK238 hg; replace BK238 := zb BK238 hb; replace HB := zs HB hb; clear hb hbox hg)))
 (try simp only [Act.put, List.setIfInBounds_toArray, List.set_cons_zero, List.set_cons_succ])
 go_cut [19] (fun v19 wc => ∃ (kq : Nat) (x19_2 : Bool), v19 = .bool x19_2 ∧ Aside0 (awardingbodylaw27_same.j0 kq x19_2 l0_0 a0_1 l1_0 a1_1 = some r) ∧ Aside0 (kq ≤ k) ∧ Aside0 (wc.heap[gb238]? = some (.cells #[(.slice A0_0 l0_0.length c0_0), .bool a0_1] 27 (0, 0))) ∧ Aside0 (wc.heap[gb239]? = some (.cells #[(.slice A1_0 l1_0.length c1_0), .bool a1_1] 27 (0, 0))) ∧ Aside0 (Below w.heap.size w wc))
 case first =>
  have H := HC3.out
  clear HC3
  by_cases c6 : (a0_1 != a1_1) = true
  ·rw [if_pos c6] at H
   have c6b0 : (a0_1 != a1_1) = true := c6
   (try (have c6b1 : decide (a0_1 = a1_1) = false := by simpa using c6))
   (try (have c6b2 : (a0_1 == a1_1) = false := by simpa using c6))
   (try (have c6b3 : ¬ (a0_1 = a1_1) := by simpa using c6))
   clear c6
   (first | rw [c6b0] | (simp only [i64_w, i32_w]; rw [c6b0]) | skip)
   have H' := za H
   clear H
   have hnb7 := NB238_239.out
   have hnc7 := NB239_238.out
   obtain ⟨hcz8_0, hcz8_1, hfz8_0, hfz8_1⟩ := z2 BK238
   obtain ⟨hcz9_0, hcz9_1, hfz9_0, hfz9_1⟩ := z2 BK239
   go_wp2
   repeat (go_quiet (fail); try go_wp2)
   go_meet
   case rel => exact ⟨_, (true), (by first | rfl | (simp; done) | (simp [*]; done)), H', ⟨by first | omega | exact Nat.le_refl _⟩, ⟨by (with_reducible repeat (first | refine blk_drewN ?_ _ | refine blk_drew ?_ | refine blk_alloc ?_ _)); exact BK238.out⟩, ⟨by (with_reducible repeat (first | refine blk_drewN ?_ _ | refine blk_drew ?_ | refine blk_alloc ?_ _)); exact BK239.out⟩, ⟨zm HB⟩⟩
  ·rw [if_neg c6] at H
   have c6b0 : (a0_1 != a1_1) = false := by simpa using c6
   (try (have c6b1 : decide (a0_1 = a1_1) = true := by simpa using c6))
   (try (have c6b2 : (a0_1 == a1_1) = true := by simpa using c6))
   clear c6
   (first | rw [c6b0] | (simp only [i64_w, i32_w]; rw [c6b0]) | skip)
   have H' := za H
   clear H
   have hnb10 := NB238_239.out
   have hnc10 := NB239_238.out
   obtain ⟨hcz11_0, hcz11_1, hfz11_0, hfz11_1⟩ := z2 BK238
   obtain ⟨hcz12_0, hcz12_1, hfz12_0, hfz12_1⟩ := z2 BK239
   go_wp2
   repeat (go_quiet (fail); try go_wp2)
   go_meet
   case rel => exact ⟨_, (((l0_0.length : Int) != (l1_0.length : Int))), (by first | rfl | (simp; done) | (simp [*]; done)), H', ⟨by first | omega | exact Nat.le_refl _⟩, ⟨by (with_reducible repeat (first | refine blk_drewN ?_ _ | refine blk_drew ?_ | refine blk_alloc ?_ _)); exact BK238.out⟩, ⟨by (with_reducible repeat (first | refine blk_drewN ?_ _ | refine blk_drew ?_ | refine blk_alloc ?_ _)); exact BK239.out⟩, ⟨zm HB⟩⟩
 case rest =>
  clear HC3
  try clear c1
  try clear c2
  try clear p2
  try clear c6
  try clear c6b0
  try clear c6b1
  try clear c6b2
  try clear c7
  try clear c10
  try clear hcz11_0
  try clear hcz11_1
  try clear hcz12_0
  try clear hcz12_1
  try clear hcz8_0
  try clear hcz8_1
  try clear hcz9_0
  try clear hcz9_1
  try clear hfz11_0
  try clear hfz11_1
  try clear hfz12_0
  try clear hfz12_1
  try clear hfz8_0
  try clear hfz8_1
  try clear hfz9_0
  try clear hfz9_1
  obtain ⟨kq, x19_2, rfl, HA, HJ2, BK238, BK239, HB⟩ := hcut
  cases kq with
  | zero => exact absurd HA.out (by simp [awardingbodylaw27_same.j0])
  | succ kj2 =>
   have H := HA.out
   clear HA
   simp only [awardingbodylaw27_same.j0] at H
   by_cases c13 : x19_2 = true
   ·subst c13
    have H1 : (some false) = some r := by rw [if_pos rfl] at H; exact H
    clear H
    have H := H1
    clear H1
    obtain rfl := Option.some.inj H
    go_wp2
    repeat (go_quiet (fail); try go_wp2)
    go_ret
    exact ⟨zf, zm HB⟩
   ·replace c13 := Bool.eq_false_iff.mpr c13
    subst c13
    have H1 : (awardingbodylaw27_same.l0 kj2 (l0_0.length : Int) 0 l0_0 a0_1 l1_0 a1_1) = some r := by rw [if_neg (show ¬ (false = true) by decide)] at H; exact H
    clear H
    have H := H1
    clear H1
    have H' := za H
    clear H
    have hnb14 := NB238_239.out
    have hnc14 := NB239_238.out
    obtain ⟨hcz15_0, hcz15_1, hfz15_0, hfz15_1⟩ := z2 BK238
    go_wp2
    repeat (go_quiet (fail); try go_wp2)
    go_loopg [23] kj2 (fun kq v23 w' => ∃ (x23_2 : Int), v23 = .int .i64 x23_2 ∧ Aside0 (awardingbodylaw27_same.l0 kq (l0_0.length : Int) x23_2 l0_0 a0_1 l1_0 a1_1 = some r) ∧ Aside0 (kq ≤ kj2) ∧ Aside0 (w'.heap[gb238]? = some (.cells #[(.slice A0_0 l0_0.length c0_0), .bool a0_1] 27 (0, 0))) ∧ Aside0 (w'.heap[gb239]? = some (.cells #[(.slice A1_0 l1_0.length c1_0), .bool a1_1] 27 (0, 0))) ∧ Aside0 (Below w.heap.size w w'))
    case atStart => exact ⟨(0), (by first | rfl | (simp; done) | (simp [*]; done)), H', ⟨Nat.le_refl _⟩, ⟨by (with_reducible repeat (first | refine blk_drewN ?_ _ | refine blk_drew ?_ | refine blk_alloc ?_ _)); exact BK238.out⟩, ⟨by (with_reducible repeat (first | refine blk_drewN ?_ _ | refine blk_drew ?_ | refine blk_alloc ?_ _)); exact BK239.out⟩, ⟨zm HB⟩⟩
    case round =>
     clear H'
     try clear c1
     try clear c2
     try clear p2
     try clear c6
     try clear c6b0
     try clear c6b1
     try clear c6b2
     try clear c7
     try clear c10
     try clear c13
     try clear c14
     try clear hcz11_0
     try clear hcz11_1
     try clear hcz12_0
     try clear hcz12_1
     try clear hcz15_0
     try clear hcz15_1
     try clear hcz8_0
     try clear hcz8_1
     try clear hcz9_0
     try clear hcz9_1
     try clear hfz11_0
     try clear hfz11_1
     try clear hfz12_0
     try clear hfz12_1
     try clear hfz15_0
     try clear hfz15_1
     try clear hfz8_0
     try clear hfz8_1
     try clear hfz9_0
     try clear hfz9_1
     try clear p2
     obtain ⟨x23_2, rfl, HA, HK2, BK238, BK239, HB⟩ := hrel
     cases gk with
     | zero => exact absurd HA.out (by simp [awardingbodylaw27_same.l0])
     | succ k2 =>
      have H := HA.out
      clear HA
      simp only [awardingbodylaw27_same.l0] at H
      by_cases c16 : x23_2 < (l0_0.length : Int)
      ·rw [if_pos c16] at H
       have c16b0 : decide (x23_2 < (l0_0.length : Int)) = true := decide_eq_true c16
       clear c16
       by_cases c17 : 0 ≤ x23_2
       ·rw [if_pos c17] at H
        have c17b0 : decide (0 ≤ x23_2) = true := decide_eq_true c17
        clear c17
        by_cases c18 : x23_2 < (l0_0.length : Int)
        ·rw [if_pos c18] at H
         have c18b0 : decide (x23_2 < (l0_0.length : Int)) = true := decide_eq_true c18
         clear c18
         by_cases c19 : x23_2 < (l1_0.length : Int)
         ·rw [if_pos c19] at H
          have c19b0 : decide (x23_2 < (l1_0.length : Int)) = true := decide_eq_true c19
          clear c19
          by_cases c20 : ((rdOf false l0_0 x23_2) != (rdOf false l1_0 x23_2)) = true
          ·rw [if_pos c20] at H
           have c20b0 : ((rdOf false l0_0 x23_2) != (rdOf false l1_0 x23_2)) = true := c20
           (try (have c20b1 : decide ((rdOf false l0_0 x23_2) = (rdOf false l1_0 x23_2)) = false := by simpa using c20))
           (try (have c20b2 : ((rdOf false l0_0 x23_2) == (rdOf false l1_0 x23_2)) = false := by simpa using c20))
           (try (have c20b3 : ¬ ((rdOf false l0_0 x23_2) = (rdOf false l1_0 x23_2)) := by simpa using c20))
           clear c20
           obtain rfl := Option.some.inj H
           have hnb21 := NB238_239.out
           have hnc21 := NB239_238.out
           obtain ⟨hcz22_0, hcz22_1, hfz22_0, hfz22_1⟩ := z2 BK238
           have p240 : 0 ≤ (x23_2 : Int) := of_decide_eq_true (by first | (with_reducible assumption) | assumption)
           have q240 : x23_2 < (l0_0.length : Int) := of_decide_eq_true (by first | (with_reducible assumption) | assumption)
           obtain ⟨ad240, e240, hx240_0⟩ := Kd.at_bool HR0_0.out x23_2 p240 q240
           cases e240
           replace hx240_0 := zx HB hx240_0
           replace p240 := eq_true p240
           replace q240 := eq_true q240
           obtain ⟨hcz23_0, hcz23_1, hfz23_0, hfz23_1⟩ := z2 BK239
           have p241 : 0 ≤ (x23_2 : Int) := of_decide_eq_true (by first | (with_reducible assumption) | assumption)
           have q241 : x23_2 < (l1_0.length : Int) := of_decide_eq_true (by first | (with_reducible assumption) | assumption)
           obtain ⟨ad241, e241, hx241_0⟩ := Kd.at_bool HR1_0.out x23_2 p241 q241
           cases e241
           replace hx241_0 := zx HB hx241_0
           replace p241 := eq_true p241
           replace q241 := eq_true q241
           go_wp2
           repeat (go_quiet (fail); try go_wp2)
           go_ret
           exact ⟨zf, zm HB⟩
          ·rw [if_neg c20] at H
           have c20b0 : ((rdOf false l0_0 x23_2) != (rdOf false l1_0 x23_2)) = false := by simpa using c20
           (try (have c20b1 : decide ((rdOf false l0_0 x23_2) = (rdOf false l1_0 x23_2)) = true := by simpa using c20))
           (try (have c20b2 : ((rdOf false l0_0 x23_2) == (rdOf false l1_0 x23_2)) = true := by simpa using c20))
           clear c20
           have H' := za H
           clear H
           have hnb24 := NB238_239.out
           have hnc24 := NB239_238.out
           obtain ⟨hcz25_0, hcz25_1, hfz25_0, hfz25_1⟩ := z2 BK238
           have p240 : 0 ≤ (x23_2 : Int) := of_decide_eq_true (by first | (with_reducible assumption) | assumption)
           have q240 : x23_2 < (l0_0.length : Int) := of_decide_eq_true (by first | (with_reducible assumption) | assumption)
           obtain ⟨ad240, e240, hx240_0⟩ := Kd.at_bool HR0_0.out x23_2 p240 q240
           cases e240
           replace hx240_0 := zx HB hx240_0
           replace p240 := eq_true p240
           replace q240 := eq_true q240
           obtain ⟨hcz26_0, hcz26_1, hfz26_0, hfz26_1⟩ := z2 BK239
           have p241 : 0 ≤ (x23_2 : Int) := of_decide_eq_true (by first | (with_reducible assumption) | assumption)
           have q241 : x23_2 < (l1_0.length : Int) := of_decide_eq_true (by first | (with_reducible assumption) | assumption)
           obtain ⟨ad241, e241, hx241_0⟩ := Kd.at_bool HR1_0.out x23_2 p241 q241
           cases e241
           replace hx241_0 := zx HB hx241_0
           replace p241 := eq_true p241
           replace q241 := eq_true q241
           go_wp2
           repeat (go_quiet (fail); try go_wp2)
           go_roundg k2
           case measure => have := HJ2.out; have := HK2.out; omega
           case rel => exact ⟨(wrap64 (x23_2 + 1)), (by first | rfl | (simp; done) | (simp [*]; done)), H', ⟨by have := HJ2.out; have := HK2.out; omega⟩, ⟨by (with_reducible repeat (first | refine blk_drewN ?_ _ | refine blk_drew ?_ | refine blk_alloc ?_ _)); exact BK238.out⟩, ⟨by (with_reducible repeat (first | refine blk_drewN ?_ _ | refine blk_drew ?_ | refine blk_alloc ?_ _)); exact BK239.out⟩, ⟨zm HB⟩⟩
         ·rw [if_neg c19] at H
          exact absurd H (by simp)
        ·rw [if_neg c18] at H
         exact absurd H (by simp)
       ·rw [if_neg c17] at H
        exact absurd H (by simp)
      ·rw [if_neg c16] at H
       have c16b0 : decide (x23_2 < (l0_0.length : Int)) = false := decide_eq_false c16
       clear c16
       obtain rfl := Option.some.inj H
       go_wp2
       repeat (go_quiet (fail); try go_wp2)
       go_ret
       exact ⟨zf, zm HB⟩

end Go.Proofs.Ytdcfjmkeakkfjaa.Print
