-- Printed by a program of this session (wip/own_print.py) out of the translation; Lean checks it.
import Derived.Test.YtdmlbgdefapcjaaShort
import Derived.Test.YtdmlbgdefapcjaaPrint0
import Derived.Test.YtdmlbgdefapcjaaPrint2
import Derived.Test.YtdmlbgdefapcjaaPrint3
namespace Go.Proofs.Ytdmlbgdefapcjaa.Print
open Go.RowKit Go.Proofs.YtdmlbgdefapcjaaW.PrintWords Go.Proofs.YtdmlbgdefapcjaaW.PrintLast Go.Proofs.YtdmlbgdefapcjaaW.PrintMore
attribute [local go_sem] max2_int min2_int max_two min_two max_three min_three max_four min_four   -- for this text's walks alone
set_option linter.unusedVariables false
set_option linter.unusedSimpArgs false

/-! ### item_ValidPaper: function 39 -/
def item_ValidPaper.f (k : Nat) (a0_0 : Int) (a0_1 : Int) (l0_2 : List (S23)) : Option (Bool) := (item_in.f a0_0 0 31).bind fun t120 => (if t120 = true then ((item_in.f a0_1 0 3).bind fun t121 => (if t121 = true then ((item_in.f (l0_2.length : Int) 1 24).bind fun t122 => (if t122 = true then ((api_Part_bad_s47.f k l0_2).bind fun t123 => (if t123 = true then (some false) else ((item_sum.f k l0_2).bind fun t124 => (some (decide (t124 ≤ 200)))))) else (some false))) else (some false))) else (some false))
theorem item_ValidPaper.mono : ∀ a0 a1 a2 k, LeO (item_ValidPaper.f k a0 a1 a2) (item_ValidPaper.f (k + 1) a0 a1 a2) := by
  intro a0 a1 a2 k
  unfold item_ValidPaper.f
  repeat' first
      | (with_reducible exact api_Part_bad_s47.mono _ _)
      | (with_reducible exact item_sum.mono _ _)
      | (with_reducible exact LeO.refl _)
      | (with_reducible exact LeO.none _)
      | (with_reducible refine LeO.ite ?_ ?_)
      | (with_reducible refine LeO.bind ?_ (fun _ => ?_))
      | exact api_Part_bad_s47.mono _ _
      | exact item_sum.mono _ _
      | exact LeO.none _
      | refine LeO.ite ?_ ?_
      | refine LeO.bind ?_ (fun _ => ?_)
set_option maxHeartbeats 8000000 in
set_option maxRecDepth 100000 in
theorem item_ValidPaper.calls (k : Nat) (a0_0 : Int) (a0_1 : Int) (A0_2 : Option Addr) (c0_2 : Nat) (l0_2 : List (S23)) (r : Bool) (w : World) (hr0_2 : Kd.C k23 w A0_2 l0_2.length l0_2) (hc0_2 : l0_2.length ≤ c0_2) (h : item_ValidPaper.f k a0_0 a0_1 l0_2 = some r) :
    Calls Try.prog 39 #[.agg #[.int .i64 a0_0, .int .i64 a0_1, .slice A0_2 l0_2.length c0_2]] w fun e w' => e = .returned (.bool r) ∧ Below w.heap.size w w' := by
 have hu33 := Try.underlying33
 have HR0_2 := za hr0_2
 have HC0_2 := za hc0_2
 clear hr0_2 hc0_2
 have HB := za (Below.refl w.heap.size w)
 have H : ((item_in.f a0_0 0 31).bind fun t120 => (if t120 = true then ((item_in.f a0_1 0 3).bind fun t121 => (if t121 = true then ((item_in.f (l0_2.length : Int) 1 24).bind fun t122 => (if t122 = true then ((api_Part_bad_s47.f k l0_2).bind fun t123 => (if t123 = true then (some false) else ((item_sum.f k l0_2).bind fun t124 => (some (decide (t124 ≤ 200)))))) else (some false))) else (some false))) else (some false))) = some r := h
 clear h
 replace H := Option.bind_eq_some_iff.mp H
 obtain ⟨t120, A20, H⟩ := H
 replace H : (if t120 = true then ((item_in.f a0_1 0 3).bind fun t121 => (if t121 = true then ((item_in.f (l0_2.length : Int) 1 24).bind fun t122 => (if t122 = true then ((api_Part_bad_s47.f k l0_2).bind fun t123 => (if t123 = true then (some false) else ((item_sum.f k l0_2).bind fun t124 => (some (decide (t124 ≤ 200)))))) else (some false))) else (some false))) else (some false)) = some r := H
 have A2 := za A20
 clear A20
 by_cases c3 : t120 = true
 ·subst c3
  have H1 : ((item_in.f a0_1 0 3).bind fun t121 => (if t121 = true then ((item_in.f (l0_2.length : Int) 1 24).bind fun t122 => (if t122 = true then ((api_Part_bad_s47.f k l0_2).bind fun t123 => (if t123 = true then (some false) else ((item_sum.f k l0_2).bind fun t124 => (some (decide (t124 ≤ 200)))))) else (some false))) else (some false))) = some r := by rw [if_pos rfl] at H; exact H
  clear H
  have H := H1
  clear H1
  replace H := Option.bind_eq_some_iff.mp H
  obtain ⟨t121, A40, H⟩ := H
  replace H : (if t121 = true then ((item_in.f (l0_2.length : Int) 1 24).bind fun t122 => (if t122 = true then ((api_Part_bad_s47.f k l0_2).bind fun t123 => (if t123 = true then (some false) else ((item_sum.f k l0_2).bind fun t124 => (some (decide (t124 ≤ 200)))))) else (some false))) else (some false)) = some r := H
  have A4 := za A40
  clear A40
  by_cases c5 : t121 = true
  ·subst c5
   have H1 : ((item_in.f (l0_2.length : Int) 1 24).bind fun t122 => (if t122 = true then ((api_Part_bad_s47.f k l0_2).bind fun t123 => (if t123 = true then (some false) else ((item_sum.f k l0_2).bind fun t124 => (some (decide (t124 ≤ 200)))))) else (some false))) = some r := by rw [if_pos rfl] at H; exact H
   clear H
   have H := H1
   clear H1
   replace H := Option.bind_eq_some_iff.mp H
   obtain ⟨t122, A60, H⟩ := H
   replace H : (if t122 = true then ((api_Part_bad_s47.f k l0_2).bind fun t123 => (if t123 = true then (some false) else ((item_sum.f k l0_2).bind fun t124 => (some (decide (t124 ≤ 200)))))) else (some false)) = some r := H
   have A6 := za A60
   clear A60
   by_cases c7 : t122 = true
   ·subst c7
    have H1 : ((api_Part_bad_s47.f k l0_2).bind fun t123 => (if t123 = true then (some false) else ((item_sum.f k l0_2).bind fun t124 => (some (decide (t124 ≤ 200)))))) = some r := by rw [if_pos rfl] at H; exact H
    clear H
    have H := H1
    clear H1
    replace H := Option.bind_eq_some_iff.mp H
    obtain ⟨t123, A80, H⟩ := H
    replace H : (if t123 = true then (some false) else ((item_sum.f k l0_2).bind fun t124 => (some (decide (t124 ≤ 200))))) = some r := H
    have A8 := za A80
    clear A80
    by_cases c9 : t123 = true
    ·subst c9
     have H1 : (some false) = some r := by rw [if_pos rfl] at H; exact H
     clear H
     have H := H1
     clear H1
     obtain rfl := Option.some.inj H
     go_enter Try.func39, Try.ntmps39
     go_wp2_with (first | ((with_reducible refine gate_dst (N := 1) rfl ?_); (try (refine gate_guard (by rfl) ?_; dsimp only)); refine zE 1 #[.int .i64 a0_0, .int .i64 a0_1, .slice A0_2 l0_2.length c0_2] 33 ?_; intro gb119 hg w10 hbox hb; have BK119 := za (hbox); have GW119 := zg HB hg; have GE119 := zg HB hg; replace HB := zs HB hb; clear hb hbox hg; obtain ⟨hcz11_0, hcz11_1, hcz11_2, hfz11_0, hfz11_1, hfz11_2⟩ := z3 BK119) | ((with_reducible refine gate_callee (f := 45) rfl ?_); refine zL (some 5) Try.func45 #[.int .i64 a0_0, .int .i64 0, .int .i64 31] ?_; (with_reducible refine (item_in.calls a0_0 0 31 true _ A2.out).mono ?_); rintro e w' ⟨rfl, ⟨nd, rfl⟩⟩; refine ⟨_, rfl, ?_⟩) | (go_at_call 45; (with_reducible refine (item_in.calls a0_1 0 3 true _ A4.out).mono ?_); rintro e w' ⟨rfl, ⟨nd, rfl⟩⟩) | (go_at_call 45; (with_reducible refine (item_in.calls (l0_2.length : Int) 1 24 true _ A6.out).mono ?_); rintro e w' ⟨rfl, ⟨nd, rfl⟩⟩) | (go_at_call 47; (with_reducible refine (api_Part_bad_s47.calls k _ _ l0_2 true _ ?side1 ?side2 A8.out).mono ?_); (case side1 => repeat (first | exact (Kd.C_below HR0_2.out (zm HB)) | (with_reducible refine Kd.C_alloc ?_ _) | (with_reducible refine Kd.C_drewN ?_ _) | (with_reducible refine Kd.C_drew ?_))); (case side2 => exact HC0_2.out); rintro e w12 ⟨rfl, hb⟩; replace BK119 := zb BK119 hb; replace HB := zs HB hb; (try clear hb); (try clear hb2); (try clear hk); (try clear hi)))
     go_ret
     exact ⟨zf, zm HB⟩
    ·replace c9 := Bool.eq_false_iff.mpr c9
     subst c9
     have H1 : ((item_sum.f k l0_2).bind fun t124 => (some (decide (t124 ≤ 200)))) = some r := by rw [if_neg (show ¬ (false = true) by decide)] at H; exact H
     clear H
     have H := H1
     clear H1
     replace H := Option.bind_eq_some_iff.mp H
     obtain ⟨t124, A130, H⟩ := H
     replace H : (some (decide (t124 ≤ 200))) = some r := H
     have A13 := za A130
     clear A130
     obtain rfl := Option.some.inj H
     go_enter Try.func39, Try.ntmps39
     go_wp2_with (first | ((with_reducible refine gate_dst (N := 1) rfl ?_); (try (refine gate_guard (by rfl) ?_; dsimp only)); refine zE 1 #[.int .i64 a0_0, .int .i64 a0_1, .slice A0_2 l0_2.length c0_2] 33 ?_; intro gb119 hg w14 hbox hb; have BK119 := za (hbox); have GW119 := zg HB hg; have GE119 := zg HB hg; replace HB := zs HB hb; clear hb hbox hg; obtain ⟨hcz15_0, hcz15_1, hcz15_2, hfz15_0, hfz15_1, hfz15_2⟩ := z3 BK119) | ((with_reducible refine gate_callee (f := 45) rfl ?_); refine zL (some 5) Try.func45 #[.int .i64 a0_0, .int .i64 0, .int .i64 31] ?_; (with_reducible refine (item_in.calls a0_0 0 31 true _ A2.out).mono ?_); rintro e w' ⟨rfl, ⟨nd, rfl⟩⟩; refine ⟨_, rfl, ?_⟩) | (go_at_call 45; (with_reducible refine (item_in.calls a0_1 0 3 true _ A4.out).mono ?_); rintro e w' ⟨rfl, ⟨nd, rfl⟩⟩) | (go_at_call 45; (with_reducible refine (item_in.calls (l0_2.length : Int) 1 24 true _ A6.out).mono ?_); rintro e w' ⟨rfl, ⟨nd, rfl⟩⟩) | (go_at_call 47; (with_reducible refine (api_Part_bad_s47.calls k _ _ l0_2 false _ ?side1 ?side2 A8.out).mono ?_); (case side1 => repeat (first | exact (Kd.C_below HR0_2.out (zm HB)) | (with_reducible refine Kd.C_alloc ?_ _) | (with_reducible refine Kd.C_drewN ?_ _) | (with_reducible refine Kd.C_drew ?_))); (case side2 => exact HC0_2.out); rintro e w16 ⟨rfl, hb⟩; replace BK119 := zb BK119 hb; replace HB := zs HB hb; (try clear hb); (try clear hb2); (try clear hk); (try clear hi); obtain ⟨hcz17_0, hcz17_1, hcz17_2, hfz17_0, hfz17_1, hfz17_2⟩ := z3 BK119) | (go_at_call 49; (with_reducible refine (item_sum.calls k _ _ l0_2 t124 _ ?side1 ?side2 A13.out).mono ?_); (case side1 => exact zC HR0_2 HB); (case side2 => exact HC0_2.out); rintro e w18 ⟨rfl, hb⟩; replace BK119 := zb BK119 hb; replace HB := zs HB hb; (try clear hb); (try clear hb2); (try clear hk); (try clear hi)))
     go_ret
     exact ⟨zf, zm HB⟩
   ·replace c7 := Bool.eq_false_iff.mpr c7
    subst c7
    have H1 : (some false) = some r := by rw [if_neg (show ¬ (false = true) by decide)] at H; exact H
    clear H
    have H := H1
    clear H1
    obtain rfl := Option.some.inj H
    go_enter Try.func39, Try.ntmps39
    go_wp2_with (first | ((with_reducible refine gate_dst (N := 1) rfl ?_); (try (refine gate_guard (by rfl) ?_; dsimp only)); refine zE 1 #[.int .i64 a0_0, .int .i64 a0_1, .slice A0_2 l0_2.length c0_2] 33 ?_; intro gb119 hg w19 hbox hb; have BK119 := za (hbox); have GW119 := zg HB hg; have GE119 := zg HB hg; replace HB := zs HB hb; clear hb hbox hg; obtain ⟨hcz20_0, hcz20_1, hcz20_2, hfz20_0, hfz20_1, hfz20_2⟩ := z3 BK119) | ((with_reducible refine gate_callee (f := 45) rfl ?_); refine zL (some 5) Try.func45 #[.int .i64 a0_0, .int .i64 0, .int .i64 31] ?_; (with_reducible refine (item_in.calls a0_0 0 31 true _ A2.out).mono ?_); rintro e w' ⟨rfl, ⟨nd, rfl⟩⟩; refine ⟨_, rfl, ?_⟩) | (go_at_call 45; (with_reducible refine (item_in.calls a0_1 0 3 true _ A4.out).mono ?_); rintro e w' ⟨rfl, ⟨nd, rfl⟩⟩) | (go_at_call 45; (with_reducible refine (item_in.calls (l0_2.length : Int) 1 24 false _ A6.out).mono ?_); rintro e w' ⟨rfl, ⟨nd, rfl⟩⟩))
    go_ret
    exact ⟨zf, zm HB⟩
  ·replace c5 := Bool.eq_false_iff.mpr c5
   subst c5
   have H1 : (some false) = some r := by rw [if_neg (show ¬ (false = true) by decide)] at H; exact H
   clear H
   have H := H1
   clear H1
   obtain rfl := Option.some.inj H
   go_enter Try.func39, Try.ntmps39
   go_wp2_with (first | ((with_reducible refine gate_dst (N := 1) rfl ?_); (try (refine gate_guard (by rfl) ?_; dsimp only)); refine zE 1 #[.int .i64 a0_0, .int .i64 a0_1, .slice A0_2 l0_2.length c0_2] 33 ?_; intro gb119 hg w21 hbox hb; have BK119 := za (hbox); have GW119 := zg HB hg; have GE119 := zg HB hg; replace HB := zs HB hb; clear hb hbox hg; obtain ⟨hcz22_0, hcz22_1, hcz22_2, hfz22_0, hfz22_1, hfz22_2⟩ := z3 BK119) | ((with_reducible refine gate_callee (f := 45) rfl ?_); refine zL (some 5) Try.func45 #[.int .i64 a0_0, .int .i64 0, .int .i64 31] ?_; (with_reducible refine (item_in.calls a0_0 0 31 true _ A2.out).mono ?_); rintro e w' ⟨rfl, ⟨nd, rfl⟩⟩; refine ⟨_, rfl, ?_⟩) | (go_at_call 45; (with_reducible refine (item_in.calls a0_1 0 3 false _ A4.out).mono ?_); rintro e w' ⟨rfl, ⟨nd, rfl⟩⟩))
   go_ret
   exact ⟨zf, zm HB⟩
 ·replace c3 := Bool.eq_false_iff.mpr c3
  subst c3
  have H1 : (some false) = some r := by rw [if_neg (show ¬ (false = true) by decide)] at H; exact H
  clear H
  have H := H1
  clear H1
  obtain rfl := Option.some.inj H
  go_enter Try.func39, Try.ntmps39
  go_wp2_with (first | ((with_reducible refine gate_dst (N := 1) rfl ?_); (try (refine gate_guard (by rfl) ?_; dsimp only)); refine zE 1 #[.int .i64 a0_0, .int .i64 a0_1, .slice A0_2 l0_2.length c0_2] 33 ?_; intro gb119 hg w23 hbox hb; have BK119 := za (hbox); have GW119 := zg HB hg; have GE119 := zg HB hg; replace HB := zs HB hb; clear hb hbox hg; obtain ⟨hcz24_0, hcz24_1, hcz24_2, hfz24_0, hfz24_1, hfz24_2⟩ := z3 BK119) | ((with_reducible refine gate_callee (f := 45) rfl ?_); refine zL (some 5) Try.func45 #[.int .i64 a0_0, .int .i64 0, .int .i64 31] ?_; (with_reducible refine (item_in.calls a0_0 0 31 false _ A2.out).mono ?_); rintro e w' ⟨rfl, ⟨nd, rfl⟩⟩; refine ⟨_, rfl, ?_⟩))
  go_ret
  exact ⟨zf, zm HB⟩

end Go.Proofs.Ytdmlbgdefapcjaa.Print
