-- Printed by a program of this session (wip/own_print.py) out of the translation; Lean checks it.
import Derived.Test.YtdmlbgdefapcjaaShort
import Derived.Test.YtdmlbgdefapcjaaPrint0
import Derived.Test.YtdmlbgdefapcjaaPrint2
import Derived.Test.YtdmlbgdefapcjaaPrint7
import Derived.Test.YtdmlbgdefapcjaaPrint8
import Derived.Test.YtdmlbgdefapcjaaPrint23
namespace Go.Proofs.Ytdmlbgdefapcjaa.Print
open Go.RowKit Go.Proofs.YtdmlbgdefapcjaaW.PrintWords Go.Proofs.YtdmlbgdefapcjaaW.PrintLast Go.Proofs.YtdmlbgdefapcjaaW.PrintMore
attribute [local go_sem] max2_int min2_int max_two min_two max_three min_three max_four min_four   -- for this text's walks alone
set_option linter.unusedVariables false
set_option linter.unusedSimpArgs false

/-! ### awardingbodylaw12_BookletPages: function 7 -/
def awardingbodylaw12_BookletPages.f (k : Nat) (l0 : List (List Int)) (a1 : Int) : Option (Bool) := if (l0.length : Int) > 30 then (some true) else ((awardingbodymake_Cut.f a1 8).bind fun t512 => ((booklet_PageOf.f k l0 a1).bind fun t513 => ((awardingbodyref12_PageOf.f k l0 a1).bind fun t514 => (if t513 = t514 then ((booklet_PageOf.f k l0 t512).bind fun t515 => ((awardingbodyref12_PageOf.f k l0 t512).bind fun t516 => (if t515 = t516 then ((awardingbodylaw12_awake.f k).bind fun t517 => (some t517)) else (none)))) else (none)))))
theorem awardingbodylaw12_BookletPages.mono : ∀ a0 a1 k, LeO (awardingbodylaw12_BookletPages.f k a0 a1) (awardingbodylaw12_BookletPages.f (k + 1) a0 a1) := by
  intro a0 a1 k
  unfold awardingbodylaw12_BookletPages.f
  repeat' first
      | (with_reducible exact awardingbodylaw12_awake.mono _)
      | (with_reducible exact awardingbodyref12_PageOf.mono _ _ _)
      | (with_reducible exact booklet_PageOf.mono _ _ _)
      | (with_reducible exact LeO.refl _)
      | (with_reducible exact LeO.none _)
      | (with_reducible refine LeO.ite ?_ ?_)
      | (with_reducible refine LeO.bind ?_ (fun _ => ?_))
      | exact awardingbodylaw12_awake.mono _
      | exact awardingbodyref12_PageOf.mono _ _ _
      | exact booklet_PageOf.mono _ _ _
      | exact LeO.none _
      | refine LeO.ite ?_ ?_
      | refine LeO.bind ?_ (fun _ => ?_)
def awardingbodylaw12_BookletPages.T5 : Bool × List (List Nat × List Nat) := (true, [([], []), ([], []), ([0, 1], [0, 1]), ([], []), ([], []), ([3, 4, 2], [3, 4]), ([2, 5], [2, 5]), ([6, 5], [6]), ([7], [7]), ([7], [7]), ([8, 9, 7, 7], [7, 8, 9]), ([7], [7]), ([7], [7]), ([11, 12, 10, 7], [7, 11, 12]), ([10, 13, 7], [7, 10, 13]), ([7, 14], [7, 14]), ([15, 13], [15]), ([16, 16], [16]), ([16, 17], [16, 17]), ([18, 17, 0, 1, 2, 3, 4, 5, 6, 7, 8, 9, 10, 11, 12, 13, 14, 15, 16, 17, 18], [18])])
def awardingbodylaw12_BookletPages.B5 : List Nat := [0, 0, 3, 0, 0, 31, 63, 127, 255, 255, 1023, 255, 255, 8191, 16383, 32767, 65535, 131071, 262143, 524287]
theorem awardingbodylaw12_BookletPages.tab5 : rtab .any (opsOf Try.f7 5) = awardingbodylaw12_BookletPages.T5 := by kernel_rfl
theorem awardingbodylaw12_BookletPages.bits5 : waitsOk awardingbodylaw12_BookletPages.T5.2 awardingbodylaw12_BookletPages.B5 = true := by kernel_rfl
set_option maxHeartbeats 8000000 in
set_option maxRecDepth 100000 in
theorem awardingbodylaw12_BookletPages.calls (k : Nat) (A0 : Option Addr) (c0 : Nat) (l0 : List (List Int)) (a1 : Int) (r : Bool) (w : World) (hr0 : Kd.C (Kd.slice 3 (Kd.int .i64)) w A0 l0.length l0) (hc0 : l0.length ≤ c0) (h : awardingbodylaw12_BookletPages.f k l0 a1 = some r) :
    Calls Try.prog 7 #[.slice A0 l0.length c0, .int .i64 a1] w fun e w' => e = .returned (.bool r) ∧ Below w.heap.size w w' := by
 have hu38 := Try.underlying38
 have HR0 := za hr0
 have HC0 := za hc0
 clear hr0 hc0
 have HB := za (Below.refl w.heap.size w)
 have H : (if (l0.length : Int) > 30 then (some true) else ((awardingbodymake_Cut.f a1 8).bind fun t512 => ((booklet_PageOf.f k l0 a1).bind fun t513 => ((awardingbodyref12_PageOf.f k l0 a1).bind fun t514 => (if t513 = t514 then ((booklet_PageOf.f k l0 t512).bind fun t515 => ((awardingbodyref12_PageOf.f k l0 t512).bind fun t516 => (if t515 = t516 then ((awardingbodylaw12_awake.f k).bind fun t517 => (some t517)) else (none)))) else (none)))))) = some r := h
 clear h
 by_cases c3 : (l0.length : Int) > 30
 ·rw [if_pos c3] at H
  have c3b0 : decide (30 < (l0.length : Int)) = true := decide_eq_true c3
  have c3b1 : decide (30 < l0.length) = true := decide_eq_true (by omega)
  clear c3
  obtain rfl := Option.some.inj H
  go_enter Try.func7, Try.ntmps7
  go_wp2
  go_ret
  exact ⟨zf, zm HB⟩
 ·rw [if_neg c3] at H
  have c3b0 : decide (30 < (l0.length : Int)) = false := decide_eq_false c3
  have c3b1 : decide (30 < l0.length) = false := decide_eq_false (by omega)
  clear c3
  replace H := Option.bind_eq_some_iff.mp H
  obtain ⟨t512, A40, H⟩ := H
  replace H : ((booklet_PageOf.f k l0 a1).bind fun t513 => ((awardingbodyref12_PageOf.f k l0 a1).bind fun t514 => (if t513 = t514 then ((booklet_PageOf.f k l0 t512).bind fun t515 => ((awardingbodyref12_PageOf.f k l0 t512).bind fun t516 => (if t515 = t516 then ((awardingbodylaw12_awake.f k).bind fun t517 => (some t517)) else (none)))) else (none)))) = some r := H
  have A4 := za A40
  clear A40
  replace H := Option.bind_eq_some_iff.mp H
  obtain ⟨t513, A50, H⟩ := H
  replace H : ((awardingbodyref12_PageOf.f k l0 a1).bind fun t514 => (if t513 = t514 then ((booklet_PageOf.f k l0 t512).bind fun t515 => ((awardingbodyref12_PageOf.f k l0 t512).bind fun t516 => (if t515 = t516 then ((awardingbodylaw12_awake.f k).bind fun t517 => (some t517)) else (none)))) else (none))) = some r := H
  have A5 := za A50
  clear A50
  replace H := Option.bind_eq_some_iff.mp H
  obtain ⟨t514, A60, H⟩ := H
  replace H : (if t513 = t514 then ((booklet_PageOf.f k l0 t512).bind fun t515 => ((awardingbodyref12_PageOf.f k l0 t512).bind fun t516 => (if t515 = t516 then ((awardingbodylaw12_awake.f k).bind fun t517 => (some t517)) else (none)))) else (none)) = some r := H
  have A6 := za A60
  clear A60
  by_cases c7 : t513 = t514
  ·rw [if_pos c7] at H
   have c7b0 : (t513 == t514) = true := beq_iff_eq.mpr c7
   have c7b1 : (t513 != t514) = false := bne_eq_false_iff_eq.mpr c7
   clear c7
   replace H := Option.bind_eq_some_iff.mp H
   obtain ⟨t515, A80, H⟩ := H
   replace H : ((awardingbodyref12_PageOf.f k l0 t512).bind fun t516 => (if t515 = t516 then ((awardingbodylaw12_awake.f k).bind fun t517 => (some t517)) else (none))) = some r := H
   have A8 := za A80
   clear A80
   replace H := Option.bind_eq_some_iff.mp H
   obtain ⟨t516, A90, H⟩ := H
   replace H : (if t515 = t516 then ((awardingbodylaw12_awake.f k).bind fun t517 => (some t517)) else (none)) = some r := H
   have A9 := za A90
   clear A90
   by_cases c10 : t515 = t516
   ·rw [if_pos c10] at H
    have c10b0 : (t515 == t516) = true := beq_iff_eq.mpr c10
    have c10b1 : (t515 != t516) = false := bne_eq_false_iff_eq.mpr c10
    clear c10
    replace H := Option.bind_eq_some_iff.mp H
    obtain ⟨t517, A110, H⟩ := H
    replace H : (some t517) = some r := H
    have A11 := za A110
    clear A110
    obtain rfl := Option.some.inj H
    go_enter Try.func7, Try.ntmps7
    try go_wp2_with (first | ((with_reducible refine gate_dst (N := 5) rfl ?_); refine zE 5 #[.slice none 0 0] 38 ?_; intro gb511 hg w12 hbox hb; have BK511 := za (hbox); have GW511 := zg HB hg; have GE511 := zg HB hg; replace HB := zs HB hb; clear hb hbox hg; obtain ⟨hcz13_0, hfz13_0⟩ := z1 BK511) | ((with_reducible refine gate_callee (f := 11) rfl ?_); refine zL (some 13) Try.func11 #[.int .i64 a1, .int .i64 8] ?_; (with_reducible refine (awardingbodymake_Cut.calls a1 8 t512 _ A4.out).mono ?_); rintro e w' ⟨rfl, ⟨nd, rfl⟩⟩; refine ⟨_, rfl, ?_⟩))
    have n0_ : Aside0 ((w12.setCell ⟨gb511, 0, none⟩ (.slice A0 l0.length c0)).heap[gb511]? = some (.cells #[.slice A0 l0.length c0] 38 (0, 0))) := ⟨by (with_reducible repeat (first | refine blk_drewN ?_ _ | refine blk_drew ?_ | refine blk_alloc ?_ _)); refine blk_put (cs := #[.slice none 0 0]) ?_ 0 _ rfl; (with_reducible repeat (first | refine blk_drewN ?_ _ | refine blk_drew ?_ | refine blk_alloc ?_ _)); exact BK511.out⟩
    have n1_ : Aside0 (Below w.heap.size w (w12.setCell ⟨gb511, 0, none⟩ (.slice A0 l0.length c0))) := ⟨zm HB⟩
    (try clear BK511)
    (try clear HB)
    generalize (w12.setCell ⟨gb511, 0, none⟩ (.slice A0 l0.length c0)) = w14 at n0_ n1_ ⊢
    have BK511 := n0_
    have HB := n1_
    clear n0_ n1_
    (try (rw [drewN_self w14]; generalize hq_ : World.drewN w14 _ = w14; have n0_ : Aside0 (w14.heap[gb511]? = some (.cells #[.slice A0 l0.length c0] 38 (0, 0))) := ⟨by rw [← hq_]; exact (by (with_reducible repeat (first | refine blk_drewN ?_ _ | refine blk_drew ?_ | refine blk_alloc ?_ _)); exact BK511.out)⟩; have n1_ : Aside0 (Below w.heap.size w w14) := ⟨by rw [← hq_]; exact (zm HB)⟩; clear BK511 HB hq_; have BK511 := n0_; have HB := n1_; clear n0_ n1_))
    replace BK511 := za (blk_drew BK511.out)
    replace HB := za (below_drew1 HB.out)
    refine start_ (n := 20) (S := fun w' => w'.cell? ⟨gb511, 0, none⟩ = some (.slice A0 l0.length c0)) (ds := []) #[false, false, false, false, false, false, false, false, false, false, false, false, false, false, false, false, false, false, false, false] (by kernel_rfl) rfl rfl ((blk_cell BK511.out 0).trans rfl) (fun hHeld => ?_); refine with_tabW awardingbodylaw12_BookletPages.tab5 awardingbodylaw12_BookletPages.bits5 (fun HT_ HW_ => ?_)
    generalize w14.drew = w15 at BK511 HB hHeld ⊢
    refine pure_ (i := 1) (N := some 15) (v := ?_) (a' := ?_) #[false, true, false, false, false, false, false, false, false, false, false, false, false, false, false, false, false, false, false, false] rfl rfl (any_of HT_.out (by kernel_rfl)) (fun _ _ _ h => h) (Or.inl ⟨by rfl, ?_⟩) ?_ ?_
    rotate_left
    ·intro w'
     go_simp
     with_reducible rfl
    rotate_left
    ·simp only [Act.put, List.setIfInBounds_toArray, List.set_cons_zero, List.set_cons_succ, i64_w, i32_w]
     rfl
    refine pure_ (i := 4) (N := some 18) (v := ?_) (a' := ?_) #[false, true, false, false, true, false, false, false, false, false, false, false, false, false, false, false, false, false, false, false] rfl rfl (any_of HT_.out (by kernel_rfl)) (fun _ _ _ h => h) (Or.inl ⟨by rfl, ?_⟩) ?_ ?_
    rotate_left
    ·intro w'
     go_simp
     with_reducible rfl
    rotate_left
    ·simp only [Act.put, List.setIfInBounds_toArray, List.set_cons_zero, List.set_cons_succ, i64_w, i32_w]
     rfl
    refine take_ (i := 0) (N := some 14) (v := ?_) (a' := ?_) #[true, true, false, false, true, false, false, false, false, false, false, false, false, false, false, false, false, false, false, false] rfl rfl (take_ofW HT_.out HW_.out (by kernel_rfl)) (fun _ _ _ h => h) (Or.inl ⟨by rfl, ?_⟩) hHeld ?_ ?_
    rotate_left
    ·intro w' s0
     go_simp
     with_reducible rfl
    rotate_left
    ·simp only [Act.put, List.setIfInBounds_toArray, List.set_cons_zero, List.set_cons_succ, i64_w, i32_w]
     rfl
    refine take_ (i := 3) (N := some 17) (v := ?_) (a' := ?_) #[true, true, false, true, true, false, false, false, false, false, false, false, false, false, false, false, false, false, false, false] rfl rfl (take_ofW HT_.out HW_.out (by kernel_rfl)) (fun _ _ _ h => h) (Or.inl ⟨by rfl, ?_⟩) hHeld ?_ ?_
    rotate_left
    ·intro w' s0
     go_simp
     with_reducible rfl
    rotate_left
    ·simp only [Act.put, List.setIfInBounds_toArray, List.set_cons_zero, List.set_cons_succ, i64_w, i32_w]
     rfl
    refine one_ (i := 2) (N := some 16) #[true, true, true, true, true, false, false, false, false, false, false, false, false, false, false, false, false, false, false, false] rfl rfl (one_of HT_.out (by kernel_rfl)) (by decide) (fun K hK => ?_)
    refine goes_ Try.func25 (by kernel_rfl) rfl #[.agg #[.slice A0 l0.length c0], .int .i64 a1] (by rfl) rfl rfl (by (try simp only [List.map_toArray, List.map_cons, List.map_nil]); first | done | rfl | (simp only [List.length_drop, List.length_take]; rfl)) ?_
    with_reducible refine (booklet_PageOf.calls k _ _ l0 a1 t513 _ ?side1 ?side2 A5.out).mono ?_
    (case side1 => exact zC HR0 HB)
    (case side2 => exact HC0.out)
    rintro e w16 ⟨rfl, hb⟩
    refine ⟨_, rfl, ?_⟩
    replace BK511 := zb BK511 hb
    replace HB := zs HB hb
    (try clear hb)
    (try clear hb2)
    (try clear hk)
    (try clear hi)
    refine hK.out _ _ ((blk_cell BK511.out 0).trans rfl) (fun hHeld => ?_)
    clear hK K
    refine norm_ (a' := ?_) ?_ ?_
    rotate_left
    ·show Act.put _ (some 16) _ = _
     simp only [Act.put, List.setIfInBounds_toArray, List.set_cons_zero, List.set_cons_succ, i64_w, i32_w]
     rfl
    refine one_ (i := 5) (N := some 19) #[true, true, true, true, true, true, false, false, false, false, false, false, false, false, false, false, false, false, false, false] rfl rfl (one_of HT_.out (by kernel_rfl)) (by decide) (fun K hK => ?_)
    refine goes_ Try.func26 (by kernel_rfl) rfl #[.agg #[.slice A0 l0.length c0], .int .i64 a1] (by rfl) rfl rfl (by (try simp only [List.map_toArray, List.map_cons, List.map_nil]); first | done | rfl | (simp only [List.length_drop, List.length_take]; rfl)) ?_
    with_reducible refine (awardingbodyref12_PageOf.calls k _ _ l0 a1 t514 _ ?side1 ?side2 A6.out).mono ?_
    (case side1 => exact zC HR0 HB)
    (case side2 => exact HC0.out)
    rintro e w17 ⟨rfl, hb⟩
    refine ⟨_, rfl, ?_⟩
    replace BK511 := zb BK511 hb
    replace HB := zs HB hb
    (try clear hb)
    (try clear hb2)
    (try clear hk)
    (try clear hi)
    refine hK.out _ _ ((blk_cell BK511.out 0).trans rfl) (fun hHeld => ?_)
    clear hK K
    refine norm_ (a' := ?_) ?_ ?_
    rotate_left
    ·show Act.put _ (some 19) _ = _
     simp only [Act.put, List.setIfInBounds_toArray, List.set_cons_zero, List.set_cons_succ, i64_w, i32_w]
     rfl
    refine pure_ (i := 6) (N := some 20) (v := ?_) (a' := ?_) #[true, true, true, true, true, true, true, false, false, false, false, false, false, false, false, false, false, false, false, false] rfl rfl (any_of HT_.out (by kernel_rfl)) (fun _ _ _ h => h) (Or.inl ⟨by rfl, ?_⟩) ?_ ?_
    rotate_left
    ·intro w'
     go_simp
     with_reducible rfl
    rotate_left
    ·simp only [Act.put, List.setIfInBounds_toArray, List.set_cons_zero, List.set_cons_succ, i64_w, i32_w]
     rfl
    refine pure_ (i := 7) (N := some 21) (v := ?_) (a' := ?_) #[true, true, true, true, true, true, true, true, false, false, false, false, false, false, false, false, false, false, false, false] rfl rfl (any_of HT_.out (by kernel_rfl)) (fun _ _ _ h => h) (Or.inl ⟨by rfl, ?_⟩) ?_ ?_
    rotate_left
    ·intro w'
     go_simp
     with_reducible rfl
    rotate_left
    ·simp only [Act.put, List.setIfInBounds_toArray, List.set_cons_zero, List.set_cons_succ, i64_w, i32_w]
     rfl
    refine pure_ (i := 9) (N := some 23) (v := ?_) (a' := ?_) #[true, true, true, true, true, true, true, true, false, true, false, false, false, false, false, false, false, false, false, false] rfl rfl (any_of HT_.out (by kernel_rfl)) (fun _ _ _ h => h) (Or.inl ⟨by rfl, ?_⟩) ?_ ?_
    rotate_left
    ·intro w'
     go_simp
     with_reducible rfl
    rotate_left
    ·simp only [Act.put, List.setIfInBounds_toArray, List.set_cons_zero, List.set_cons_succ, i64_w, i32_w]
     rfl
    refine pure_ (i := 12) (N := some 26) (v := ?_) (a' := ?_) #[true, true, true, true, true, true, true, true, false, true, false, false, true, false, false, false, false, false, false, false] rfl rfl (any_of HT_.out (by kernel_rfl)) (fun _ _ _ h => h) (Or.inl ⟨by rfl, ?_⟩) ?_ ?_
    rotate_left
    ·intro w'
     go_simp
     with_reducible rfl
    rotate_left
    ·simp only [Act.put, List.setIfInBounds_toArray, List.set_cons_zero, List.set_cons_succ, i64_w, i32_w]
     rfl
    refine take_ (i := 8) (N := some 22) (v := ?_) (a' := ?_) #[true, true, true, true, true, true, true, true, true, true, false, false, true, false, false, false, false, false, false, false] rfl rfl (take_ofW HT_.out HW_.out (by kernel_rfl)) (fun _ _ _ h => h) (Or.inl ⟨by rfl, ?_⟩) hHeld ?_ ?_
    rotate_left
    ·intro w' s0
     go_simp
     with_reducible rfl
    rotate_left
    ·simp only [Act.put, List.setIfInBounds_toArray, List.set_cons_zero, List.set_cons_succ, i64_w, i32_w]
     rfl
    refine take_ (i := 11) (N := some 25) (v := ?_) (a' := ?_) #[true, true, true, true, true, true, true, true, true, true, false, true, true, false, false, false, false, false, false, false] rfl rfl (take_ofW HT_.out HW_.out (by kernel_rfl)) (fun _ _ _ h => h) (Or.inl ⟨by rfl, ?_⟩) hHeld ?_ ?_
    rotate_left
    ·intro w' s0
     go_simp
     with_reducible rfl
    rotate_left
    ·simp only [Act.put, List.setIfInBounds_toArray, List.set_cons_zero, List.set_cons_succ, i64_w, i32_w]
     rfl
    refine one_ (i := 10) (N := some 24) #[true, true, true, true, true, true, true, true, true, true, true, true, true, false, false, false, false, false, false, false] rfl rfl (one_of HT_.out (by kernel_rfl)) (by decide) (fun K hK => ?_)
    refine goes_ Try.func25 (by kernel_rfl) rfl #[.agg #[.slice A0 l0.length c0], .int .i64 t512] (by rfl) rfl rfl (by (try simp only [List.map_toArray, List.map_cons, List.map_nil]); first | done | rfl | (simp only [List.length_drop, List.length_take]; rfl)) ?_
    with_reducible refine (booklet_PageOf.calls k _ _ l0 t512 t515 _ ?side1 ?side2 A8.out).mono ?_
    (case side1 => exact zC HR0 HB)
    (case side2 => exact HC0.out)
    rintro e w18 ⟨rfl, hb⟩
    refine ⟨_, rfl, ?_⟩
    replace BK511 := zb BK511 hb
    replace HB := zs HB hb
    (try clear hb)
    (try clear hb2)
    (try clear hk)
    (try clear hi)
    refine hK.out _ _ ((blk_cell BK511.out 0).trans rfl) (fun hHeld => ?_)
    clear hK K
    refine norm_ (a' := ?_) ?_ ?_
    rotate_left
    ·show Act.put _ (some 24) _ = _
     simp only [Act.put, List.setIfInBounds_toArray, List.set_cons_zero, List.set_cons_succ, i64_w, i32_w]
     rfl
    refine one_ (i := 13) (N := some 27) #[true, true, true, true, true, true, true, true, true, true, true, true, true, true, false, false, false, false, false, false] rfl rfl (one_of HT_.out (by kernel_rfl)) (by decide) (fun K hK => ?_)
    refine goes_ Try.func26 (by kernel_rfl) rfl #[.agg #[.slice A0 l0.length c0], .int .i64 t512] (by rfl) rfl rfl (by (try simp only [List.map_toArray, List.map_cons, List.map_nil]); first | done | rfl | (simp only [List.length_drop, List.length_take]; rfl)) ?_
    with_reducible refine (awardingbodyref12_PageOf.calls k _ _ l0 t512 t516 _ ?side1 ?side2 A9.out).mono ?_
    (case side1 => exact zC HR0 HB)
    (case side2 => exact HC0.out)
    rintro e w19 ⟨rfl, hb⟩
    refine ⟨_, rfl, ?_⟩
    replace BK511 := zb BK511 hb
    replace HB := zs HB hb
    (try clear hb)
    (try clear hb2)
    (try clear hk)
    (try clear hi)
    refine hK.out _ _ ((blk_cell BK511.out 0).trans rfl) (fun hHeld => ?_)
    clear hK K
    refine norm_ (a' := ?_) ?_ ?_
    rotate_left
    ·show Act.put _ (some 27) _ = _
     simp only [Act.put, List.setIfInBounds_toArray, List.set_cons_zero, List.set_cons_succ, i64_w, i32_w]
     rfl
    refine pure_ (i := 14) (N := some 28) (v := ?_) (a' := ?_) #[true, true, true, true, true, true, true, true, true, true, true, true, true, true, true, false, false, false, false, false] rfl rfl (any_of HT_.out (by kernel_rfl)) (fun _ _ _ h => h) (Or.inl ⟨by rfl, ?_⟩) ?_ ?_
    rotate_left
    ·intro w'
     go_simp
     with_reducible rfl
    rotate_left
    ·simp only [Act.put, List.setIfInBounds_toArray, List.set_cons_zero, List.set_cons_succ, i64_w, i32_w]
     rfl
    refine pure_ (i := 15) (N := some 29) (v := ?_) (a' := ?_) #[true, true, true, true, true, true, true, true, true, true, true, true, true, true, true, true, false, false, false, false] rfl rfl (any_of HT_.out (by kernel_rfl)) (fun _ _ _ h => h) (Or.inl ⟨by rfl, ?_⟩) ?_ ?_
    rotate_left
    ·intro w'
     go_simp
     with_reducible rfl
    rotate_left
    ·simp only [Act.put, List.setIfInBounds_toArray, List.set_cons_zero, List.set_cons_succ, i64_w, i32_w]
     rfl
    refine pure_ (i := 16) (N := some 30) (v := ?_) (a' := ?_) #[true, true, true, true, true, true, true, true, true, true, true, true, true, true, true, true, true, false, false, false] rfl rfl (any_of HT_.out (by kernel_rfl)) (fun _ _ _ h => h) (Or.inl ⟨by rfl, ?_⟩) ?_ ?_
    rotate_left
    ·intro w'
     go_simp
     with_reducible rfl
    rotate_left
    ·simp only [Act.put, List.setIfInBounds_toArray, List.set_cons_zero, List.set_cons_succ, i64_w, i32_w]
     rfl
    refine one_ (i := 17) (N := some 31) #[true, true, true, true, true, true, true, true, true, true, true, true, true, true, true, true, true, true, false, false] rfl rfl (one_of HT_.out (by kernel_rfl)) (by decide) (fun K hK => ?_)
    refine goes_ Try.func14 (by kernel_rfl) rfl #[] (by rfl) rfl rfl (by (try simp only [List.map_toArray, List.map_cons, List.map_nil]); first | done | rfl | (simp only [List.length_drop, List.length_take]; rfl)) ?_
    with_reducible refine (awardingbodylaw12_awake.calls k  t517 _ A11.out).mono ?_
    rintro e w20 ⟨rfl, hb⟩
    refine ⟨_, rfl, ?_⟩
    replace BK511 := zb BK511 hb
    replace HB := zs HB hb
    (try clear hb)
    (try clear hb2)
    (try clear hk)
    (try clear hi)
    refine hK.out _ _ ((blk_cell BK511.out 0).trans rfl) (fun hHeld => ?_)
    clear hK K
    refine norm_ (a' := ?_) ?_ ?_
    rotate_left
    ·show Act.put _ (some 31) _ = _
     simp only [Act.put, List.setIfInBounds_toArray, List.set_cons_zero, List.set_cons_succ, i64_w, i32_w]
     rfl
    refine pure_ (i := 18) (N := some 32) (v := ?_) (a' := ?_) #[true, true, true, true, true, true, true, true, true, true, true, true, true, true, true, true, true, true, true, false] rfl rfl (any_of HT_.out (by kernel_rfl)) (fun _ _ _ h => h) (Or.inl ⟨by rfl, ?_⟩) ?_ ?_
    rotate_left
    ·intro w'
     go_simp
     with_reducible rfl
    rotate_left
    ·simp only [Act.put, List.setIfInBounds_toArray, List.set_cons_zero, List.set_cons_succ, i64_w, i32_w]
     rfl
    refine pure_ (i := 19) (N := some 4) (v := ?_) (a' := ?_) #[true, true, true, true, true, true, true, true, true, true, true, true, true, true, true, true, true, true, true, true] rfl rfl (any_of HT_.out (by kernel_rfl)) (fun _ _ _ h => h) (Or.inl ⟨by rfl, ?_⟩) ?_ ?_
    rotate_left
    ·intro w'
     go_simp
     with_reducible rfl
    rotate_left
    ·simp only [Act.put, List.setIfInBounds_toArray, List.set_cons_zero, List.set_cons_succ, i64_w, i32_w]
     rfl
    refine done_ (done_of HT_.out (by kernel_rfl)) ?_
    try go_wp2
    go_ret
    exact ⟨zf, zm HB⟩
   ·rw [if_neg c10] at H
    have c10b0 : (t515 == t516) = false := beq_eq_false_iff_ne.mpr c10
    have c10b1 : (t515 != t516) = true := bne_iff_ne.mpr c10
    exact absurd H (by simp)
  ·rw [if_neg c7] at H
   have c7b0 : (t513 == t514) = false := beq_eq_false_iff_ne.mpr c7
   have c7b1 : (t513 != t514) = true := bne_iff_ne.mpr c7
   exact absurd H (by simp)

/-- THE ONE PURE STATEMENT of awardingbodylaw12_BookletPages: yours. -/
def awardingbodylaw12_BookletPages.Pure : Prop := ∀ (l0 : List (List Int)) (a1 : Int), l0.length ≤ maxLen → l0.length * 24 ≤ 140737488351232 → (∀ x ∈ l0, x.length ≤ maxLen ∧ ∀ y ∈ x, (Lit.int .i64 y).wf = true) → (Lit.int .i64 a1).wf = true → ∃ k, awardingbodylaw12_BookletPages.f k l0 a1 = some true
theorem awardingbodylaw12_BookletPages.walk (P : awardingbodylaw12_BookletPages.Pure) (a0 : Option Addr) (len0 cap0 : Nat) (z0 : List (List Int)) (a1 : Int) (w : World) (w0 : len0 = z0.length ∧ Kd.C (Kd.slice 3 (Kd.int .i64)) w a0 z0.length z0 ∧ z0.length ≤ maxLen ∧ z0.length ≤ cap0 ∧ ∀ x ∈ z0, x.length ≤ maxLen ∧ ∀ y ∈ x, (Lit.int .i64 y).wf = true) (y0 : len0 * 24 ≤ 140737488351232) (w1 : (Lit.int .i64 a1).wf = true) :
  Calls Try.prog 7 #[.slice a0 len0 cap0, .int .i64 a1] w fun e w' => e = .returned (.bool true) ∧ Below w.heap.size w w' := by
 obtain ⟨l0, rfl, hr0, hm0, hc0, hw0⟩ : ∃ l : List (List Int), len0 = l.length ∧ Kd.C (Kd.slice 3 (Kd.int .i64)) w a0 l.length l ∧ l.length ≤ maxLen ∧ l.length ≤ cap0 ∧ ∀ x ∈ l, x.length ≤ maxLen ∧ ∀ y ∈ x, (Lit.int .i64 y).wf = true := ⟨z0, w0⟩
 obtain ⟨k, h⟩ := P l0 a1 hm0 y0 hw0 w1
 refine (awardingbodylaw12_BookletPages.calls k _ _ l0 a1 true w hr0 hc0 h).mono ?_
 rintro e w' ⟨rfl, hd⟩
 exact ⟨rfl, hd⟩

end Go.Proofs.Ytdmlbgdefapcjaa.Print
