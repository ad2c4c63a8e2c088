-- Printed by a program of this session (wip/own_print.py) out of the translation; Lean checks it.
import Derived.Test.YtdcfjmkeakkfjaaShort
import Derived.Test.YtdcfjmkeakkfjaaPrint0
import Derived.Test.YtdcfjmkeakkfjaaPrint1
namespace Go.Proofs.Ytdcfjmkeakkfjaa.Print
open Go.RowKit Go.Proofs.YtdcfjmkeakkfjaaW.PrintWords Go.Proofs.YtdcfjmkeakkfjaaW.PrintLast Go.Proofs.YtdcfjmkeakkfjaaW.PrintMore
attribute [local go_sem] max2_int min2_int max_two min_two max_three min_three max_four min_four   -- for this text's walks alone
set_option linter.unusedVariables false
set_option linter.unusedSimpArgs false

/-! ### awardingbodylaw27_sane: function 9 -/
def awardingbodylaw27_sane.f (k : Nat)  : Option (Bool) := (monitor_Run.f k 0 0 3 2 (([true, false, true, false, true] : List Bool))).bind fun bt160 => ((monitor_Step.f k 0 0 1 1 ([] : List Bool) false false).bind fun bt163 => (if bt160.2.2 = 0 then (if bt163.2.2 = 0 then (if bt160.1 = 3 then (if bt160.2.1 = 2 then (if bt163.2.1 = true then ((monitor_Good.f k 1 2 1 1 (([3, 4, 5] : List Int)) (([4, 5, 6] : List Int))).bind fun t175 => (if t175 = true then (some false) else ((monitor_Good.f k 1 2 1 1 (([3, 4, 5] : List Int)) (([4, 5, 5] : List Int))).bind fun t182 => (some t182)))) else (some false)) else (some false)) else (some false)) else (some false)) else (some false)))
theorem awardingbodylaw27_sane.mono : ∀ k, LeO (awardingbodylaw27_sane.f k ) (awardingbodylaw27_sane.f (k + 1) ) := by
  intro  k
  unfold awardingbodylaw27_sane.f
  repeat' first
      | (with_reducible exact monitor_Good.mono _ _ _ _ _ _ _)
      | (with_reducible exact monitor_Run.mono _ _ _ _ _ _)
      | (with_reducible exact monitor_Step.mono _ _ _ _ _ _ _ _)
      | (with_reducible exact LeO.refl _)
      | (with_reducible exact LeO.none _)
      | (with_reducible refine LeO.ite ?_ ?_)
      | (with_reducible refine LeO.bind ?_ (fun _ => ?_))
      | exact monitor_Good.mono _ _ _ _ _ _ _
      | exact monitor_Run.mono _ _ _ _ _ _
      | exact monitor_Step.mono _ _ _ _ _ _ _ _
      | exact LeO.none _
      | refine LeO.ite ?_ ?_
      | refine LeO.bind ?_ (fun _ => ?_)
set_option maxHeartbeats 8000000 in
set_option maxRecDepth 100000 in
theorem awardingbodylaw27_sane.calls (k : Nat)  (r : Bool) (w : World) (h : awardingbodylaw27_sane.f k  = some r) :
    Calls Try.prog 9 #[] w fun e w' => e = .returned (.bool r) ∧ Below w.heap.size w w' := by
 have hu24 := Try.underlying24
 have hu27 := Try.underlying27
 have HB := za (Below.refl w.heap.size w)
 have H : ((monitor_Run.f k 0 0 3 2 (([true, false, true, false, true] : List Bool))).bind fun bt160 => ((monitor_Step.f k 0 0 1 1 ([] : List Bool) false false).bind fun bt163 => (if bt160.2.2 = 0 then (if bt163.2.2 = 0 then (if bt160.1 = 3 then (if bt160.2.1 = 2 then (if bt163.2.1 = true then ((monitor_Good.f k 1 2 1 1 (([3, 4, 5] : List Int)) (([4, 5, 6] : List Int))).bind fun t175 => (if t175 = true then (some false) else ((monitor_Good.f k 1 2 1 1 (([3, 4, 5] : List Int)) (([4, 5, 5] : List Int))).bind fun t182 => (some t182)))) else (some false)) else (some false)) else (some false)) else (some false)) else (some false)))) = some r := h
 clear h
 obtain ⟨y157, hy157⟩ : ∃ y_ : List Bool, y_ = (([true, false, true, false, true] : List Bool)) := ⟨_, rfl⟩
 replace H : ((monitor_Run.f k 0 0 3 2 y157).bind fun bt160 => ((monitor_Step.f k 0 0 1 1 ([] : List Bool) false false).bind fun bt163 => (if bt160.2.2 = 0 then (if bt163.2.2 = 0 then (if bt160.1 = 3 then (if bt160.2.1 = 2 then (if bt163.2.1 = true then ((monitor_Good.f k 1 2 1 1 (([3, 4, 5] : List Int)) (([4, 5, 6] : List Int))).bind fun t175 => (if t175 = true then (some false) else ((monitor_Good.f k 1 2 1 1 (([3, 4, 5] : List Int)) (([4, 5, 5] : List Int))).bind fun t182 => (some t182)))) else (some false)) else (some false)) else (some false)) else (some false)) else (some false)))) = some r := by first | (rw [hy157]; with_reducible exact H) | (have H2_ := (Option.bind_some _ _).symm.trans H; rw [hy157]; with_reducible exact H2_) | (have H2_ := (Option.bind_some _ _).symm.trans H; with_reducible exact H2_) | with_reducible exact H | (rw [hy157]; exact H) | exact H
 have Ny157 := za hy157
 clear hy157
 replace H := Option.bind_eq_some_iff.mp H
 obtain ⟨⟨t160, t161, t162⟩, A10, H⟩ := H
 replace H : ((monitor_Step.f k 0 0 1 1 ([] : List Bool) false false).bind fun bt163 => (if t162 = 0 then (if bt163.2.2 = 0 then (if t160 = 3 then (if t161 = 2 then (if bt163.2.1 = true then ((monitor_Good.f k 1 2 1 1 (([3, 4, 5] : List Int)) (([4, 5, 6] : List Int))).bind fun t175 => (if t175 = true then (some false) else ((monitor_Good.f k 1 2 1 1 (([3, 4, 5] : List Int)) (([4, 5, 5] : List Int))).bind fun t182 => (some t182)))) else (some false)) else (some false)) else (some false)) else (some false)) else (some false))) = some r := H
 have A1 := za A10
 clear A10
 replace H := Option.bind_eq_some_iff.mp H
 obtain ⟨⟨t163, t166, t167⟩, A20, H⟩ := H
 replace H : (if t162 = 0 then (if t167 = 0 then (if t160 = 3 then (if t161 = 2 then (if t166 = true then ((monitor_Good.f k 1 2 1 1 (([3, 4, 5] : List Int)) (([4, 5, 6] : List Int))).bind fun t175 => (if t175 = true then (some false) else ((monitor_Good.f k 1 2 1 1 (([3, 4, 5] : List Int)) (([4, 5, 5] : List Int))).bind fun t182 => (some t182)))) else (some false)) else (some false)) else (some false)) else (some false)) else (some false)) = some r := H
 have A2 := za A20
 clear A20
 by_cases c3 : t162 = 0
 ·rw [if_pos c3] at H
  have c3b0 : (t162 == 0) = true := beq_iff_eq.mpr c3
  have c3b1 : (t162 != 0) = false := bne_eq_false_iff_eq.mpr c3
  clear c3
  by_cases c4 : t167 = 0
  ·rw [if_pos c4] at H
   have c4b0 : (t167 == 0) = true := beq_iff_eq.mpr c4
   have c4b1 : (t167 != 0) = false := bne_eq_false_iff_eq.mpr c4
   clear c4
   by_cases c5 : t160 = 3
   ·rw [if_pos c5] at H
    have c5b0 : (t160 == 3) = true := beq_iff_eq.mpr c5
    have c5b1 : (t160 != 3) = false := bne_eq_false_iff_eq.mpr c5
    clear c5
    by_cases c6 : t161 = 2
    ·rw [if_pos c6] at H
     have c6b0 : (t161 == 2) = true := beq_iff_eq.mpr c6
     have c6b1 : (t161 != 2) = false := bne_eq_false_iff_eq.mpr c6
     clear c6
     by_cases c7 : t166 = true
     ·subst c7
      have H1 : ((monitor_Good.f k 1 2 1 1 (([3, 4, 5] : List Int)) (([4, 5, 6] : List Int))).bind fun t175 => (if t175 = true then (some false) else ((monitor_Good.f k 1 2 1 1 (([3, 4, 5] : List Int)) (([4, 5, 5] : List Int))).bind fun t182 => (some t182)))) = some r := by rw [if_pos rfl] at H; exact H
      clear H
      have H := H1
      clear H1
      obtain ⟨y169, hy169⟩ : ∃ y_ : List Int, y_ = (([3, 4, 5] : List Int)) := ⟨_, rfl⟩
      replace H : ((monitor_Good.f k 1 2 1 1 y169 (([4, 5, 6] : List Int))).bind fun t175 => (if t175 = true then (some false) else ((monitor_Good.f k 1 2 1 1 (([3, 4, 5] : List Int)) (([4, 5, 5] : List Int))).bind fun t182 => (some t182)))) = some r := by first | (rw [hy169]; with_reducible exact H) | (have H2_ := (Option.bind_some _ _).symm.trans H; rw [hy169]; with_reducible exact H2_) | (have H2_ := (Option.bind_some _ _).symm.trans H; with_reducible exact H2_) | with_reducible exact H | (rw [hy169]; exact H) | exact H
      have Ny169 := za hy169
      clear hy169
      obtain ⟨y172, hy172⟩ : ∃ y_ : List Int, y_ = (([4, 5, 6] : List Int)) := ⟨_, rfl⟩
      replace H : ((monitor_Good.f k 1 2 1 1 y169 y172).bind fun t175 => (if t175 = true then (some false) else ((monitor_Good.f k 1 2 1 1 (([3, 4, 5] : List Int)) (([4, 5, 5] : List Int))).bind fun t182 => (some t182)))) = some r := by first | (rw [hy172]; with_reducible exact H) | (have H2_ := (Option.bind_some _ _).symm.trans H; rw [hy172]; with_reducible exact H2_) | (have H2_ := (Option.bind_some _ _).symm.trans H; with_reducible exact H2_) | with_reducible exact H | (rw [hy172]; exact H) | exact H
      have Ny172 := za hy172
      clear hy172
      replace H := Option.bind_eq_some_iff.mp H
      obtain ⟨t175, A80, H⟩ := H
      replace H : (if t175 = true then (some false) else ((monitor_Good.f k 1 2 1 1 (([3, 4, 5] : List Int)) (([4, 5, 5] : List Int))).bind fun t182 => (some t182))) = some r := H
      have A8 := za A80
      clear A80
      by_cases c9 : t175 = true
      ·subst c9
       have H1 : (some false) = some r := by rw [if_pos rfl] at H; exact H
       clear H
       have H := H1
       clear H1
       obtain rfl := Option.some.inj H
       go_enter Try.func9, Try.ntmps9
       go_wp2_with (first | ((with_reducible refine gate_dst (N := 8) rfl ?_); (try (refine gate_guard (by rfl) ?_; dsimp only)); refine Kd.R_lit Kd.bool _ 4 ?hg (N := 8) ?hd (xs := ([true, false, true, false, true] : List Bool)) (inner := [.bool true, .bool false, .bool true, .bool false, .bool true]) (ok := fun _ => True) (okp := fun _ => True) ?hr ?hp (fun _ hk => hk) trivial (Below.refl _ _) (Nat.le_refl _) (by simp) ?_; (case hd => rfl); (case hg => rfl); (case hr => first | (go_simp; done) | (go_simp; rfl)); (case hp => exact (Reps.one (show Kd.M Kd.bool _ _ _ true [.bool true] from rfl) (Reps.one (show Kd.M Kd.bool _ _ _ false [.bool false] from rfl) (Reps.one (show Kd.M Kd.bool _ _ _ true [.bool true] from rfl) (Reps.one (show Kd.M Kd.bool _ _ _ false [.bool false] from rfl) (Reps.one (show Kd.M Kd.bool _ _ _ true [.bool true] from rfl) (Reps.none _ _))))))); intro v158 w10 ho11 hb hg_ hnew_; clear hg_ hnew_; (first | rw [← Ny157.out] at ho11 | (simp only [Int.reduceToNat] at ho11; rw [← Ny157.out] at ho11)); have HO159 := za (Kd.R_lower ho11 (below_size (zm HB))); replace HB := zs HB hb; clear hb ho11; obtain ⟨Ao12, co12, eo12⟩ := Kd.R_slice HO159.out; subst eo12) | ((with_reducible refine gate_callee (f := 20) rfl ?_); refine zL (some 9) Try.func20 #[.agg #[.int .i64 0, .int .i64 0, .int .i64 3, .int .i64 2], .slice Ao12 y157.length co12] ?_; (with_reducible refine (monitor_Run.calls k 0 0 3 2 _ _ y157 t160 t161 t162 _ ?side1 ?side2 A1.out).mono ?_); (case side1 => exact zD HO159); (case side2 => exact (Kd.R_reads' HO159.out).2.1); rintro e w13 ⟨rfl, hb⟩; refine ⟨_, rfl, ?_⟩; replace HO159 := zR HO159 hb; replace HB := zs HB hb; (try clear hb); (try clear hb2); (try clear hk); (try clear hi)) | ((with_reducible refine gate_callee (f := 23) rfl ?_); refine zL (some 16) Try.func23 #[.agg #[.int .i64 0, .int .i64 0, .int .i64 1, .int .i64 1], .agg #[.slice none 0 0, .bool false], .bool false] ?_; (refine (monitor_Step.calls k 0 0 1 1 _ _ ([] : List Bool) false false t163 true t167 _ ?side1 ?side2 A2.out).mono ?_); (case side1 => exact Kd.C_nil _ _); (case side2 => exact Nat.le_refl _); rintro e w14 ⟨v164, rfl, ho0, hb⟩; refine ⟨_, rfl, ?_⟩; have HO165 := za (Kd.Q_lower (Kd.Q_new' ho0 (Kd.R_lt (by (with_reducible repeat (first | apply Kd.R_alloc | apply Kd.R_drewN | apply Kd.R_drew)); exact HO159.out))) (below_size (zm HB))); replace HO159 := za (Kd.R_elder' (by (with_reducible repeat (first | apply Kd.R_alloc | apply Kd.R_drewN | apply Kd.R_drew)); exact HO159.out) (Kd.Q_base ho0) hb); replace HB := zs HB hb; (try clear hb); (try clear hb2); (try clear hk); (try clear hi); (try clear ho0)) | ((with_reducible refine gate_dst (N := 4) rfl ?_); (try (refine gate_guard (by rfl) ?_; dsimp only)); refine zE 4 #[.slice none 0 0, .bool false] 27 ?_; intro gb168 hg w15 hbox hb; have BK168 := za (hbox); have GW168 := zg HB hg; have GE168 := zg HB hg; replace HO159 := zR HO159 hb; replace HO165 := za (Kd.Q_below (by (with_reducible repeat (first | apply Kd.Q_alloc | apply Kd.Q_drewN | apply Kd.Q_drew)); exact HO165.out) hb); replace HB := zs HB hb; clear hb hbox hg; obtain ⟨Ao16, co16, eo16, _⟩ := Kd.Q_slice HO165.out; subst eo16; obtain ⟨hcz17_0, hcz17_1, hfz17_0, hfz17_1⟩ := z2 BK168) | ((with_reducible refine gate_dst (N := 39) rfl ?_); (try (refine gate_guard (by rfl) ?_; dsimp only)); refine Kd.R_lit (Kd.int .i64) _ 3 ?hg (N := 39) ?hd (xs := ([3, 4, 5] : List Int)) (inner := [.int .i64 3, .int .i64 4, .int .i64 5]) (ok := fun _ => True) (okp := fun _ => True) ?hr ?hp (fun _ hk => hk) trivial (Below.refl _ _) (Nat.le_refl _) (by simp) ?_; (case hd => rfl); (case hg => rfl); (case hr => first | (go_simp; done) | (go_simp; rfl)); (case hp => exact (Reps.one (show Kd.M (Kd.int .i64) _ _ _ 3 [.int .i64 3] from rfl) (Reps.one (show Kd.M (Kd.int .i64) _ _ _ 4 [.int .i64 4] from rfl) (Reps.one (show Kd.M (Kd.int .i64) _ _ _ 5 [.int .i64 5] from rfl) (Reps.none _ _))))); intro v170 w18 ho19 hb hg_ hnew_; clear hg_ hnew_; (first | rw [← Ny169.out] at ho19 | (simp only [Int.reduceToNat] at ho19; rw [← Ny169.out] at ho19)); have HO171 := za (Kd.R_lower ho19 (below_size (zm HB))); replace HO159 := za (Kd.R_below (by (with_reducible repeat (first | apply Kd.R_alloc | apply Kd.R_drewN | apply Kd.R_drew)); exact (Kd.R_mono (Kd.R_far (p := ⟨gb168, 1, none⟩) (Kd.R_far (p := ⟨gb168, 0, none⟩) (Kd.R_types HO159.out BK168.out (by decide)) (fun _ hk => hk.2) (.slice Ao16 t163.length co16)) (fun _ hk => hk.2) (.bool true)) (fun _ h_ => h_.1))) hb); replace HO165 := za (Kd.Q_below (by (with_reducible repeat (first | apply Kd.Q_alloc | apply Kd.Q_drewN | apply Kd.Q_drew)); exact (Kd.Q_mono (Kd.Q_far (p := ⟨gb168, 1, none⟩) (Kd.Q_far (p := ⟨gb168, 0, none⟩) (Kd.Q_types HO165.out BK168.out (by decide)) (fun _ hk => hk.2) (.slice Ao16 t163.length co16)) (fun _ hk => hk.2) (.bool true)) (fun _ h_ => h_.1))) hb); replace BK168 := za (blk_below (g := gb168) (o := .cells #[.slice Ao16 t163.length co16, .bool true] 27 (0, 0)) (by (with_reducible repeat (first | refine blk_drewN ?_ _ | refine blk_drew ?_ | refine blk_alloc ?_ _)); refine blk_put (cs := #[.slice Ao16 t163.length co16, .bool false]) ?_ 1 _ rfl; (with_reducible repeat (first | refine blk_drewN ?_ _ | refine blk_drew ?_ | refine blk_alloc ?_ _)); refine blk_put (cs := #[.slice none 0 0, .bool false]) ?_ 0 _ rfl; (with_reducible repeat (first | refine blk_drewN ?_ _ | refine blk_drew ?_ | refine blk_alloc ?_ _)); exact BK168.out) hb); replace HB := zs HB hb; clear hb ho19) | ((with_reducible refine gate_dst (N := 40) rfl ?_); (try (refine gate_guard (by rfl) ?_; dsimp only)); refine Kd.R_lit (Kd.int .i64) _ 3 ?hg (N := 40) ?hd (xs := ([4, 5, 6] : List Int)) (inner := [.int .i64 4, .int .i64 5, .int .i64 6]) (ok := fun _ => True) (okp := fun _ => True) ?hr ?hp (fun _ hk => hk) trivial (Below.refl _ _) (Nat.le_refl _) (by simp) ?_; (case hd => rfl); (case hg => rfl); (case hr => first | (go_simp; done) | (go_simp; rfl)); (case hp => exact (Reps.one (show Kd.M (Kd.int .i64) _ _ _ 4 [.int .i64 4] from rfl) (Reps.one (show Kd.M (Kd.int .i64) _ _ _ 5 [.int .i64 5] from rfl) (Reps.one (show Kd.M (Kd.int .i64) _ _ _ 6 [.int .i64 6] from rfl) (Reps.none _ _))))); intro v173 w20 ho21 hb hg_ hnew_; clear hg_ hnew_; (first | rw [← Ny172.out] at ho21 | (simp only [Int.reduceToNat] at ho21; rw [← Ny172.out] at ho21)); have HO174 := za (Kd.R_lower (Kd.R_new' ho21 (Kd.R_lt (by (with_reducible repeat (first | apply Kd.R_alloc | apply Kd.R_drewN | apply Kd.R_drew)); exact HO171.out))) (below_size (zm HB))); replace HO159 := zR HO159 hb; replace HO165 := za (Kd.Q_below (by (with_reducible repeat (first | apply Kd.Q_alloc | apply Kd.Q_drewN | apply Kd.Q_drew)); exact HO165.out) hb); replace HO171 := za (Kd.R_elder' (by (with_reducible repeat (first | apply Kd.R_alloc | apply Kd.R_drewN | apply Kd.R_drew)); exact HO171.out) (Kd.R_base ho21) hb); replace BK168 := zb BK168 hb; replace HB := zs HB hb; clear hb ho21; obtain ⟨Ao22, co22, eo22⟩ := Kd.R_slice HO171.out; subst eo22; obtain ⟨Ao23, co23, eo23⟩ := Kd.R_slice HO174.out; subst eo23) | (go_at_call 16; (with_reducible refine (monitor_Good.calls k 1 2 1 1 _ _ y169 _ _ y172 true _ ?side1 ?side2 ?side3 ?side4 A8.out).mono ?_); (case side1 => exact zD HO171); (case side2 => exact (Kd.R_reads' HO171.out).2.1); (case side3 => exact zD HO174); (case side4 => exact (Kd.R_reads' HO174.out).2.1); rintro e w24 ⟨rfl, hb⟩; replace HO159 := zR HO159 hb; replace HO165 := za (Kd.Q_below (by (with_reducible repeat (first | apply Kd.Q_alloc | apply Kd.Q_drewN | apply Kd.Q_drew)); exact HO165.out) hb); replace HO171 := zR HO171 hb; replace HO174 := zR HO174 hb; replace BK168 := zb BK168 hb; replace HB := zs HB hb; (try clear hb); (try clear hb2); (try clear hk); (try clear hi)))
       go_ret
       exact ⟨zf, zm HB⟩
      ·replace c9 := Bool.eq_false_iff.mpr c9
       subst c9
       have H1 : ((monitor_Good.f k 1 2 1 1 (([3, 4, 5] : List Int)) (([4, 5, 5] : List Int))).bind fun t182 => (some t182)) = some r := by rw [if_neg (show ¬ (false = true) by decide)] at H; exact H
       clear H
       have H := H1
       clear H1
       obtain ⟨y176, hy176⟩ : ∃ y_ : List Int, y_ = (([3, 4, 5] : List Int)) := ⟨_, rfl⟩
       replace H : ((monitor_Good.f k 1 2 1 1 y176 (([4, 5, 5] : List Int))).bind fun t182 => (some t182)) = some r := by first | (rw [hy176]; with_reducible exact H) | (have H2_ := (Option.bind_some _ _).symm.trans H; rw [hy176]; with_reducible exact H2_) | (have H2_ := (Option.bind_some _ _).symm.trans H; with_reducible exact H2_) | with_reducible exact H | (rw [hy176]; exact H) | exact H
       have Ny176 := za hy176
       clear hy176
       obtain ⟨y179, hy179⟩ : ∃ y_ : List Int, y_ = (([4, 5, 5] : List Int)) := ⟨_, rfl⟩
       replace H : ((monitor_Good.f k 1 2 1 1 y176 y179).bind fun t182 => (some t182)) = some r := by first | (rw [hy179]; with_reducible exact H) | (have H2_ := (Option.bind_some _ _).symm.trans H; rw [hy179]; with_reducible exact H2_) | (have H2_ := (Option.bind_some _ _).symm.trans H; with_reducible exact H2_) | with_reducible exact H | (rw [hy179]; exact H) | exact H
       have Ny179 := za hy179
       clear hy179
       replace H := Option.bind_eq_some_iff.mp H
       obtain ⟨t182, A250, H⟩ := H
       replace H : (some t182) = some r := H
       have A25 := za A250
       clear A250
       obtain rfl := Option.some.inj H
       go_enter Try.func9, Try.ntmps9
       go_wp2_with (first | ((with_reducible refine gate_dst (N := 8) rfl ?_); (try (refine gate_guard (by rfl) ?_; dsimp only)); refine Kd.R_lit Kd.bool _ 4 ?hg (N := 8) ?hd (xs := ([true, false, true, false, true] : List Bool)) (inner := [.bool true, .bool false, .bool true, .bool false, .bool true]) (ok := fun _ => True) (okp := fun _ => True) ?hr ?hp (fun _ hk => hk) trivial (Below.refl _ _) (Nat.le_refl _) (by simp) ?_; (case hd => rfl); (case hg => rfl); (case hr => first | (go_simp; done) | (go_simp; rfl)); (case hp => exact (Reps.one (show Kd.M Kd.bool _ _ _ true [.bool true] from rfl) (Reps.one (show Kd.M Kd.bool _ _ _ false [.bool false] from rfl) (Reps.one (show Kd.M Kd.bool _ _ _ true [.bool true] from rfl) (Reps.one (show Kd.M Kd.bool _ _ _ false [.bool false] from rfl) (Reps.one (show Kd.M Kd.bool _ _ _ true [.bool true] from rfl) (Reps.none _ _))))))); intro v158 w26 ho27 hb hg_ hnew_; clear hg_ hnew_; (first | rw [← Ny157.out] at ho27 | (simp only [Int.reduceToNat] at ho27; rw [← Ny157.out] at ho27)); have HO159 := za (Kd.R_lower ho27 (below_size (zm HB))); replace HB := zs HB hb; clear hb ho27; obtain ⟨Ao28, co28, eo28⟩ := Kd.R_slice HO159.out; subst eo28) | ((with_reducible refine gate_callee (f := 20) rfl ?_); refine zL (some 9) Try.func20 #[.agg #[.int .i64 0, .int .i64 0, .int .i64 3, .int .i64 2], .slice Ao28 y157.length co28] ?_; (with_reducible refine (monitor_Run.calls k 0 0 3 2 _ _ y157 t160 t161 t162 _ ?side1 ?side2 A1.out).mono ?_); (case side1 => exact zD HO159); (case side2 => exact (Kd.R_reads' HO159.out).2.1); rintro e w29 ⟨rfl, hb⟩; refine ⟨_, rfl, ?_⟩; replace HO159 := zR HO159 hb; replace HB := zs HB hb; (try clear hb); (try clear hb2); (try clear hk); (try clear hi)) | ((with_reducible refine gate_callee (f := 23) rfl ?_); refine zL (some 16) Try.func23 #[.agg #[.int .i64 0, .int .i64 0, .int .i64 1, .int .i64 1], .agg #[.slice none 0 0, .bool false], .bool false] ?_; (refine (monitor_Step.calls k 0 0 1 1 _ _ ([] : List Bool) false false t163 true t167 _ ?side1 ?side2 A2.out).mono ?_); (case side1 => exact Kd.C_nil _ _); (case side2 => exact Nat.le_refl _); rintro e w30 ⟨v164, rfl, ho0, hb⟩; refine ⟨_, rfl, ?_⟩; have HO165 := za (Kd.Q_lower (Kd.Q_new' ho0 (Kd.R_lt (by (with_reducible repeat (first | apply Kd.R_alloc | apply Kd.R_drewN | apply Kd.R_drew)); exact HO159.out))) (below_size (zm HB))); replace HO159 := za (Kd.R_elder' (by (with_reducible repeat (first | apply Kd.R_alloc | apply Kd.R_drewN | apply Kd.R_drew)); exact HO159.out) (Kd.Q_base ho0) hb); replace HB := zs HB hb; (try clear hb); (try clear hb2); (try clear hk); (try clear hi); (try clear ho0)) | ((with_reducible refine gate_dst (N := 4) rfl ?_); (try (refine gate_guard (by rfl) ?_; dsimp only)); refine zE 4 #[.slice none 0 0, .bool false] 27 ?_; intro gb168 hg w31 hbox hb; have BK168 := za (hbox); have GW168 := zg HB hg; have GE168 := zg HB hg; replace HO159 := zR HO159 hb; replace HO165 := za (Kd.Q_below (by (with_reducible repeat (first | apply Kd.Q_alloc | apply Kd.Q_drewN | apply Kd.Q_drew)); exact HO165.out) hb); replace HB := zs HB hb; clear hb hbox hg; obtain ⟨Ao32, co32, eo32, _⟩ := Kd.Q_slice HO165.out; subst eo32; obtain ⟨hcz33_0, hcz33_1, hfz33_0, hfz33_1⟩ := z2 BK168) | ((with_reducible refine gate_dst (N := 39) rfl ?_); (try (refine gate_guard (by rfl) ?_; dsimp only)); refine Kd.R_lit (Kd.int .i64) _ 3 ?hg (N := 39) ?hd (xs := ([3, 4, 5] : List Int)) (inner := [.int .i64 3, .int .i64 4, .int .i64 5]) (ok := fun _ => True) (okp := fun _ => True) ?hr ?hp (fun _ hk => hk) trivial (Below.refl _ _) (Nat.le_refl _) (by simp) ?_; (case hd => rfl); (case hg => rfl); (case hr => first | (go_simp; done) | (go_simp; rfl)); (case hp => exact (Reps.one (show Kd.M (Kd.int .i64) _ _ _ 3 [.int .i64 3] from rfl) (Reps.one (show Kd.M (Kd.int .i64) _ _ _ 4 [.int .i64 4] from rfl) (Reps.one (show Kd.M (Kd.int .i64) _ _ _ 5 [.int .i64 5] from rfl) (Reps.none _ _))))); intro v170 w34 ho35 hb hg_ hnew_; clear hg_ hnew_; (first | rw [← Ny169.out] at ho35 | (simp only [Int.reduceToNat] at ho35; rw [← Ny169.out] at ho35)); have HO171 := za (Kd.R_lower ho35 (below_size (zm HB))); replace HO159 := za (Kd.R_below (by (with_reducible repeat (first | apply Kd.R_alloc | apply Kd.R_drewN | apply Kd.R_drew)); exact (Kd.R_mono (Kd.R_far (p := ⟨gb168, 1, none⟩) (Kd.R_far (p := ⟨gb168, 0, none⟩) (Kd.R_types HO159.out BK168.out (by decide)) (fun _ hk => hk.2) (.slice Ao32 t163.length co32)) (fun _ hk => hk.2) (.bool true)) (fun _ h_ => h_.1))) hb); replace HO165 := za (Kd.Q_below (by (with_reducible repeat (first | apply Kd.Q_alloc | apply Kd.Q_drewN | apply Kd.Q_drew)); exact (Kd.Q_mono (Kd.Q_far (p := ⟨gb168, 1, none⟩) (Kd.Q_far (p := ⟨gb168, 0, none⟩) (Kd.Q_types HO165.out BK168.out (by decide)) (fun _ hk => hk.2) (.slice Ao32 t163.length co32)) (fun _ hk => hk.2) (.bool true)) (fun _ h_ => h_.1))) hb); replace BK168 := za (blk_below (g := gb168) (o := .cells #[.slice Ao32 t163.length co32, .bool true] 27 (0, 0)) (by (with_reducible repeat (first | refine blk_drewN ?_ _ | refine blk_drew ?_ | refine blk_alloc ?_ _)); refine blk_put (cs := #[.slice Ao32 t163.length co32, .bool false]) ?_ 1 _ rfl; (with_reducible repeat (first | refine blk_drewN ?_ _ | refine blk_drew ?_ | refine blk_alloc ?_ _)); refine blk_put (cs := #[.slice none 0 0, .bool false]) ?_ 0 _ rfl; (with_reducible repeat (first | refine blk_drewN ?_ _ | refine blk_drew ?_ | refine blk_alloc ?_ _)); exact BK168.out) hb); replace HB := zs HB hb; clear hb ho35) | ((with_reducible refine gate_dst (N := 40) rfl ?_); (try (refine gate_guard (by rfl) ?_; dsimp only)); refine Kd.R_lit (Kd.int .i64) _ 3 ?hg (N := 40) ?hd (xs := ([4, 5, 6] : List Int)) (inner := [.int .i64 4, .int .i64 5, .int .i64 6]) (ok := fun _ => True) (okp := fun _ => True) ?hr ?hp (fun _ hk => hk) trivial (Below.refl _ _) (Nat.le_refl _) (by simp) ?_; (case hd => rfl); (case hg => rfl); (case hr => first | (go_simp; done) | (go_simp; rfl)); (case hp => exact (Reps.one (show Kd.M (Kd.int .i64) _ _ _ 4 [.int .i64 4] from rfl) (Reps.one (show Kd.M (Kd.int .i64) _ _ _ 5 [.int .i64 5] from rfl) (Reps.one (show Kd.M (Kd.int .i64) _ _ _ 6 [.int .i64 6] from rfl) (Reps.none _ _))))); intro v173 w36 ho37 hb hg_ hnew_; clear hg_ hnew_; (first | rw [← Ny172.out] at ho37 | (simp only [Int.reduceToNat] at ho37; rw [← Ny172.out] at ho37)); have HO174 := za (Kd.R_lower (Kd.R_new' ho37 (Kd.R_lt (by (with_reducible repeat (first | apply Kd.R_alloc | apply Kd.R_drewN | apply Kd.R_drew)); exact HO171.out))) (below_size (zm HB))); replace HO159 := zR HO159 hb; replace HO165 := za (Kd.Q_below (by (with_reducible repeat (first | apply Kd.Q_alloc | apply Kd.Q_drewN | apply Kd.Q_drew)); exact HO165.out) hb); replace HO171 := za (Kd.R_elder' (by (with_reducible repeat (first | apply Kd.R_alloc | apply Kd.R_drewN | apply Kd.R_drew)); exact HO171.out) (Kd.R_base ho37) hb); replace BK168 := zb BK168 hb; replace HB := zs HB hb; clear hb ho37; obtain ⟨Ao38, co38, eo38⟩ := Kd.R_slice HO171.out; subst eo38; obtain ⟨Ao39, co39, eo39⟩ := Kd.R_slice HO174.out; subst eo39) | (go_at_call 16; (with_reducible refine (monitor_Good.calls k 1 2 1 1 _ _ y169 _ _ y172 false _ ?side1 ?side2 ?side3 ?side4 A8.out).mono ?_); (case side1 => exact zD HO171); (case side2 => exact (Kd.R_reads' HO171.out).2.1); (case side3 => exact zD HO174); (case side4 => exact (Kd.R_reads' HO174.out).2.1); rintro e w40 ⟨rfl, hb⟩; replace HO159 := zR HO159 hb; replace HO165 := za (Kd.Q_below (by (with_reducible repeat (first | apply Kd.Q_alloc | apply Kd.Q_drewN | apply Kd.Q_drew)); exact HO165.out) hb); replace HO171 := zR HO171 hb; replace HO174 := zR HO174 hb; replace BK168 := zb BK168 hb; replace HB := zs HB hb; (try clear hb); (try clear hb2); (try clear hk); (try clear hi)) | ((with_reducible refine gate_dst (N := 46) rfl ?_); (try (refine gate_guard (by rfl) ?_; dsimp only)); refine Kd.R_lit (Kd.int .i64) _ 3 ?hg (N := 46) ?hd (xs := ([3, 4, 5] : List Int)) (inner := [.int .i64 3, .int .i64 4, .int .i64 5]) (ok := fun _ => True) (okp := fun _ => True) ?hr ?hp (fun _ hk => hk) trivial (Below.refl _ _) (Nat.le_refl _) (by simp) ?_; (case hd => rfl); (case hg => rfl); (case hr => first | (go_simp; done) | (go_simp; rfl)); (case hp => exact (Reps.one (show Kd.M (Kd.int .i64) _ _ _ 3 [.int .i64 3] from rfl) (Reps.one (show Kd.M (Kd.int .i64) _ _ _ 4 [.int .i64 4] from rfl) (Reps.one (show Kd.M (Kd.int .i64) _ _ _ 5 [.int .i64 5] from rfl) (Reps.none _ _))))); intro v177 w41 ho42 hb hg_ hnew_; clear hg_ hnew_; (first | rw [← Ny176.out] at ho42 | (simp only [Int.reduceToNat] at ho42; rw [← Ny176.out] at ho42)); have HO178 := za (Kd.R_lower (Kd.R_new' (Kd.R_new' ho42 (Kd.R_lt (by (with_reducible repeat (first | apply Kd.R_alloc | apply Kd.R_drewN | apply Kd.R_drew)); exact HO171.out))) (Kd.R_lt (by (with_reducible repeat (first | apply Kd.R_alloc | apply Kd.R_drewN | apply Kd.R_drew)); exact HO174.out))) (below_size (zm HB))); replace HO159 := zR HO159 hb; replace HO165 := za (Kd.Q_below (by (with_reducible repeat (first | apply Kd.Q_alloc | apply Kd.Q_drewN | apply Kd.Q_drew)); exact HO165.out) hb); replace HO171 := za (Kd.R_elder' (by (with_reducible repeat (first | apply Kd.R_alloc | apply Kd.R_drewN | apply Kd.R_drew)); exact HO171.out) (Kd.R_base ho42) hb); replace HO174 := za (Kd.R_elder' (by (with_reducible repeat (first | apply Kd.R_alloc | apply Kd.R_drewN | apply Kd.R_drew)); exact HO174.out) (Kd.R_base ho42) hb); replace BK168 := zb BK168 hb; replace HB := zs HB hb; clear hb ho42) | ((with_reducible refine gate_dst (N := 47) rfl ?_); (try (refine gate_guard (by rfl) ?_; dsimp only)); refine Kd.R_lit (Kd.int .i64) _ 3 ?hg (N := 47) ?hd (xs := ([4, 5, 5] : List Int)) (inner := [.int .i64 4, .int .i64 5, .int .i64 5]) (ok := fun _ => True) (okp := fun _ => True) ?hr ?hp (fun _ hk => hk) trivial (Below.refl _ _) (Nat.le_refl _) (by simp) ?_; (case hd => rfl); (case hg => rfl); (case hr => first | (go_simp; done) | (go_simp; rfl)); (case hp => exact (Reps.one (show Kd.M (Kd.int .i64) _ _ _ 4 [.int .i64 4] from rfl) (Reps.one (show Kd.M (Kd.int .i64) _ _ _ 5 [.int .i64 5] from rfl) (Reps.one (show Kd.M (Kd.int .i64) _ _ _ 5 [.int .i64 5] from rfl) (Reps.none _ _))))); intro v180 w43 ho44 hb hg_ hnew_; clear hg_ hnew_; (first | rw [← Ny179.out] at ho44 | (simp only [Int.reduceToNat] at ho44; rw [← Ny179.out] at ho44)); have HO181 := za (Kd.R_lower (Kd.R_new' (Kd.R_new' (Kd.R_new' ho44 (Kd.R_lt (by (with_reducible repeat (first | apply Kd.R_alloc | apply Kd.R_drewN | apply Kd.R_drew)); exact HO171.out))) (Kd.R_lt (by (with_reducible repeat (first | apply Kd.R_alloc | apply Kd.R_drewN | apply Kd.R_drew)); exact HO174.out))) (Kd.R_lt (by (with_reducible repeat (first | apply Kd.R_alloc | apply Kd.R_drewN | apply Kd.R_drew)); exact HO178.out))) (below_size (zm HB))); replace HO159 := zR HO159 hb; replace HO165 := za (Kd.Q_below (by (with_reducible repeat (first | apply Kd.Q_alloc | apply Kd.Q_drewN | apply Kd.Q_drew)); exact HO165.out) hb); replace HO171 := za (Kd.R_elder' (by (with_reducible repeat (first | apply Kd.R_alloc | apply Kd.R_drewN | apply Kd.R_drew)); exact HO171.out) (Kd.R_base ho44) hb); replace HO174 := za (Kd.R_elder' (by (with_reducible repeat (first | apply Kd.R_alloc | apply Kd.R_drewN | apply Kd.R_drew)); exact HO174.out) (Kd.R_base ho44) hb); replace HO178 := za (Kd.R_elder' (by (with_reducible repeat (first | apply Kd.R_alloc | apply Kd.R_drewN | apply Kd.R_drew)); exact HO178.out) (Kd.R_base ho44) hb); replace BK168 := zb BK168 hb; replace HB := zs HB hb; clear hb ho44; obtain ⟨Ao45, co45, eo45⟩ := Kd.R_slice HO178.out; subst eo45; obtain ⟨Ao46, co46, eo46⟩ := Kd.R_slice HO181.out; subst eo46) | (go_at_call 16; (with_reducible refine (monitor_Good.calls k 1 2 1 1 _ _ y176 _ _ y179 t182 _ ?side1 ?side2 ?side3 ?side4 A25.out).mono ?_); (case side1 => exact zD HO178); (case side2 => exact (Kd.R_reads' HO178.out).2.1); (case side3 => exact zD HO181); (case side4 => exact (Kd.R_reads' HO181.out).2.1); rintro e w47 ⟨rfl, hb⟩; replace HO159 := zR HO159 hb; replace HO165 := za (Kd.Q_below (by (with_reducible repeat (first | apply Kd.Q_alloc | apply Kd.Q_drewN | apply Kd.Q_drew)); exact HO165.out) hb); replace HO171 := zR HO171 hb; replace HO174 := zR HO174 hb; replace HO178 := zR HO178 hb; replace HO181 := zR HO181 hb; replace BK168 := zb BK168 hb; replace HB := zs HB hb; (try clear hb); (try clear hb2); (try clear hk); (try clear hi)))
       go_ret
       exact ⟨zf, zm HB⟩
     ·replace c7 := Bool.eq_false_iff.mpr c7
      subst c7
      have H1 : (some false) = some r := by rw [if_neg (show ¬ (false = true) by decide)] at H; exact H
      clear H
      have H := H1
      clear H1
      obtain rfl := Option.some.inj H
      go_enter Try.func9, Try.ntmps9
      go_wp2_with (first | ((with_reducible refine gate_dst (N := 8) rfl ?_); (try (refine gate_guard (by rfl) ?_; dsimp only)); refine Kd.R_lit Kd.bool _ 4 ?hg (N := 8) ?hd (xs := ([true, false, true, false, true] : List Bool)) (inner := [.bool true, .bool false, .bool true, .bool false, .bool true]) (ok := fun _ => True) (okp := fun _ => True) ?hr ?hp (fun _ hk => hk) trivial (Below.refl _ _) (Nat.le_refl _) (by simp) ?_; (case hd => rfl); (case hg => rfl); (case hr => first | (go_simp; done) | (go_simp; rfl)); (case hp => exact (Reps.one (show Kd.M Kd.bool _ _ _ true [.bool true] from rfl) (Reps.one (show Kd.M Kd.bool _ _ _ false [.bool false] from rfl) (Reps.one (show Kd.M Kd.bool _ _ _ true [.bool true] from rfl) (Reps.one (show Kd.M Kd.bool _ _ _ false [.bool false] from rfl) (Reps.one (show Kd.M Kd.bool _ _ _ true [.bool true] from rfl) (Reps.none _ _))))))); intro v158 w48 ho49 hb hg_ hnew_; clear hg_ hnew_; (first | rw [← Ny157.out] at ho49 | (simp only [Int.reduceToNat] at ho49; rw [← Ny157.out] at ho49)); have HO159 := za (Kd.R_lower ho49 (below_size (zm HB))); replace HB := zs HB hb; clear hb ho49; obtain ⟨Ao50, co50, eo50⟩ := Kd.R_slice HO159.out; subst eo50) | ((with_reducible refine gate_callee (f := 20) rfl ?_); refine zL (some 9) Try.func20 #[.agg #[.int .i64 0, .int .i64 0, .int .i64 3, .int .i64 2], .slice Ao50 y157.length co50] ?_; (with_reducible refine (monitor_Run.calls k 0 0 3 2 _ _ y157 t160 t161 t162 _ ?side1 ?side2 A1.out).mono ?_); (case side1 => exact zD HO159); (case side2 => exact (Kd.R_reads' HO159.out).2.1); rintro e w51 ⟨rfl, hb⟩; refine ⟨_, rfl, ?_⟩; replace HO159 := zR HO159 hb; replace HB := zs HB hb; (try clear hb); (try clear hb2); (try clear hk); (try clear hi)) | ((with_reducible refine gate_callee (f := 23) rfl ?_); refine zL (some 16) Try.func23 #[.agg #[.int .i64 0, .int .i64 0, .int .i64 1, .int .i64 1], .agg #[.slice none 0 0, .bool false], .bool false] ?_; (refine (monitor_Step.calls k 0 0 1 1 _ _ ([] : List Bool) false false t163 false t167 _ ?side1 ?side2 A2.out).mono ?_); (case side1 => exact Kd.C_nil _ _); (case side2 => exact Nat.le_refl _); rintro e w52 ⟨v164, rfl, ho0, hb⟩; refine ⟨_, rfl, ?_⟩; have HO165 := za (Kd.Q_lower (Kd.Q_new' ho0 (Kd.R_lt (by (with_reducible repeat (first | apply Kd.R_alloc | apply Kd.R_drewN | apply Kd.R_drew)); exact HO159.out))) (below_size (zm HB))); replace HO159 := za (Kd.R_elder' (by (with_reducible repeat (first | apply Kd.R_alloc | apply Kd.R_drewN | apply Kd.R_drew)); exact HO159.out) (Kd.Q_base ho0) hb); replace HB := zs HB hb; (try clear hb); (try clear hb2); (try clear hk); (try clear hi); (try clear ho0)) | ((with_reducible refine gate_dst (N := 4) rfl ?_); (try (refine gate_guard (by rfl) ?_; dsimp only)); refine zE 4 #[.slice none 0 0, .bool false] 27 ?_; intro gb168 hg w53 hbox hb; have BK168 := za (hbox); have GW168 := zg HB hg; have GE168 := zg HB hg; replace HO159 := zR HO159 hb; replace HO165 := za (Kd.Q_below (by (with_reducible repeat (first | apply Kd.Q_alloc | apply Kd.Q_drewN | apply Kd.Q_drew)); exact HO165.out) hb); replace HB := zs HB hb; clear hb hbox hg; obtain ⟨Ao54, co54, eo54, _⟩ := Kd.Q_slice HO165.out; subst eo54; obtain ⟨hcz55_0, hcz55_1, hfz55_0, hfz55_1⟩ := z2 BK168))
      go_ret
      exact ⟨zf, zm HB⟩
    ·rw [if_neg c6] at H
     have c6b0 : (t161 == 2) = false := beq_eq_false_iff_ne.mpr c6
     have c6b1 : (t161 != 2) = true := bne_iff_ne.mpr c6
     obtain rfl := Option.some.inj H
     go_enter Try.func9, Try.ntmps9
     go_wp2_with (first | ((with_reducible refine gate_dst (N := 8) rfl ?_); (try (refine gate_guard (by rfl) ?_; dsimp only)); refine Kd.R_lit Kd.bool _ 4 ?hg (N := 8) ?hd (xs := ([true, false, true, false, true] : List Bool)) (inner := [.bool true, .bool false, .bool true, .bool false, .bool true]) (ok := fun _ => True) (okp := fun _ => True) ?hr ?hp (fun _ hk => hk) trivial (Below.refl _ _) (Nat.le_refl _) (by simp) ?_; (case hd => rfl); (case hg => rfl); (case hr => first | (go_simp; done) | (go_simp; rfl)); (case hp => exact (Reps.one (show Kd.M Kd.bool _ _ _ true [.bool true] from rfl) (Reps.one (show Kd.M Kd.bool _ _ _ false [.bool false] from rfl) (Reps.one (show Kd.M Kd.bool _ _ _ true [.bool true] from rfl) (Reps.one (show Kd.M Kd.bool _ _ _ false [.bool false] from rfl) (Reps.one (show Kd.M Kd.bool _ _ _ true [.bool true] from rfl) (Reps.none _ _))))))); intro v158 w56 ho57 hb hg_ hnew_; clear hg_ hnew_; (first | rw [← Ny157.out] at ho57 | (simp only [Int.reduceToNat] at ho57; rw [← Ny157.out] at ho57)); have HO159 := za (Kd.R_lower ho57 (below_size (zm HB))); replace HB := zs HB hb; clear hb ho57; obtain ⟨Ao58, co58, eo58⟩ := Kd.R_slice HO159.out; subst eo58) | ((with_reducible refine gate_callee (f := 20) rfl ?_); refine zL (some 9) Try.func20 #[.agg #[.int .i64 0, .int .i64 0, .int .i64 3, .int .i64 2], .slice Ao58 y157.length co58] ?_; (with_reducible refine (monitor_Run.calls k 0 0 3 2 _ _ y157 t160 t161 t162 _ ?side1 ?side2 A1.out).mono ?_); (case side1 => exact zD HO159); (case side2 => exact (Kd.R_reads' HO159.out).2.1); rintro e w59 ⟨rfl, hb⟩; refine ⟨_, rfl, ?_⟩; replace HO159 := zR HO159 hb; replace HB := zs HB hb; (try clear hb); (try clear hb2); (try clear hk); (try clear hi)) | ((with_reducible refine gate_callee (f := 23) rfl ?_); refine zL (some 16) Try.func23 #[.agg #[.int .i64 0, .int .i64 0, .int .i64 1, .int .i64 1], .agg #[.slice none 0 0, .bool false], .bool false] ?_; (refine (monitor_Step.calls k 0 0 1 1 _ _ ([] : List Bool) false false t163 t166 t167 _ ?side1 ?side2 A2.out).mono ?_); (case side1 => exact Kd.C_nil _ _); (case side2 => exact Nat.le_refl _); rintro e w60 ⟨v164, rfl, ho0, hb⟩; refine ⟨_, rfl, ?_⟩; have HO165 := za (Kd.Q_lower (Kd.Q_new' ho0 (Kd.R_lt (by (with_reducible repeat (first | apply Kd.R_alloc | apply Kd.R_drewN | apply Kd.R_drew)); exact HO159.out))) (below_size (zm HB))); replace HO159 := za (Kd.R_elder' (by (with_reducible repeat (first | apply Kd.R_alloc | apply Kd.R_drewN | apply Kd.R_drew)); exact HO159.out) (Kd.Q_base ho0) hb); replace HB := zs HB hb; (try clear hb); (try clear hb2); (try clear hk); (try clear hi); (try clear ho0)) | ((with_reducible refine gate_dst (N := 4) rfl ?_); (try (refine gate_guard (by rfl) ?_; dsimp only)); refine zE 4 #[.slice none 0 0, .bool false] 27 ?_; intro gb168 hg w61 hbox hb; have BK168 := za (hbox); have GW168 := zg HB hg; have GE168 := zg HB hg; replace HO159 := zR HO159 hb; replace HO165 := za (Kd.Q_below (by (with_reducible repeat (first | apply Kd.Q_alloc | apply Kd.Q_drewN | apply Kd.Q_drew)); exact HO165.out) hb); replace HB := zs HB hb; clear hb hbox hg; obtain ⟨Ao62, co62, eo62, _⟩ := Kd.Q_slice HO165.out; subst eo62; obtain ⟨hcz63_0, hcz63_1, hfz63_0, hfz63_1⟩ := z2 BK168))
     go_ret
     exact ⟨zf, zm HB⟩
   ·rw [if_neg c5] at H
    have c5b0 : (t160 == 3) = false := beq_eq_false_iff_ne.mpr c5
    have c5b1 : (t160 != 3) = true := bne_iff_ne.mpr c5
    obtain rfl := Option.some.inj H
    go_enter Try.func9, Try.ntmps9
    go_wp2_with (first | ((with_reducible refine gate_dst (N := 8) rfl ?_); (try (refine gate_guard (by rfl) ?_; dsimp only)); refine Kd.R_lit Kd.bool _ 4 ?hg (N := 8) ?hd (xs := ([true, false, true, false, true] : List Bool)) (inner := [.bool true, .bool false, .bool true, .bool false, .bool true]) (ok := fun _ => True) (okp := fun _ => True) ?hr ?hp (fun _ hk => hk) trivial (Below.refl _ _) (Nat.le_refl _) (by simp) ?_; (case hd => rfl); (case hg => rfl); (case hr => first | (go_simp; done) | (go_simp; rfl)); (case hp => exact (Reps.one (show Kd.M Kd.bool _ _ _ true [.bool true] from rfl) (Reps.one (show Kd.M Kd.bool _ _ _ false [.bool false] from rfl) (Reps.one (show Kd.M Kd.bool _ _ _ true [.bool true] from rfl) (Reps.one (show Kd.M Kd.bool _ _ _ false [.bool false] from rfl) (Reps.one (show Kd.M Kd.bool _ _ _ true [.bool true] from rfl) (Reps.none _ _))))))); intro v158 w64 ho65 hb hg_ hnew_; clear hg_ hnew_; (first | rw [← Ny157.out] at ho65 | (simp only [Int.reduceToNat] at ho65; rw [← Ny157.out] at ho65)); have HO159 := za (Kd.R_lower ho65 (below_size (zm HB))); replace HB := zs HB hb; clear hb ho65; obtain ⟨Ao66, co66, eo66⟩ := Kd.R_slice HO159.out; subst eo66) | ((with_reducible refine gate_callee (f := 20) rfl ?_); refine zL (some 9) Try.func20 #[.agg #[.int .i64 0, .int .i64 0, .int .i64 3, .int .i64 2], .slice Ao66 y157.length co66] ?_; (with_reducible refine (monitor_Run.calls k 0 0 3 2 _ _ y157 t160 t161 t162 _ ?side1 ?side2 A1.out).mono ?_); (case side1 => exact zD HO159); (case side2 => exact (Kd.R_reads' HO159.out).2.1); rintro e w67 ⟨rfl, hb⟩; refine ⟨_, rfl, ?_⟩; replace HO159 := zR HO159 hb; replace HB := zs HB hb; (try clear hb); (try clear hb2); (try clear hk); (try clear hi)) | ((with_reducible refine gate_callee (f := 23) rfl ?_); refine zL (some 16) Try.func23 #[.agg #[.int .i64 0, .int .i64 0, .int .i64 1, .int .i64 1], .agg #[.slice none 0 0, .bool false], .bool false] ?_; (refine (monitor_Step.calls k 0 0 1 1 _ _ ([] : List Bool) false false t163 t166 t167 _ ?side1 ?side2 A2.out).mono ?_); (case side1 => exact Kd.C_nil _ _); (case side2 => exact Nat.le_refl _); rintro e w68 ⟨v164, rfl, ho0, hb⟩; refine ⟨_, rfl, ?_⟩; have HO165 := za (Kd.Q_lower (Kd.Q_new' ho0 (Kd.R_lt (by (with_reducible repeat (first | apply Kd.R_alloc | apply Kd.R_drewN | apply Kd.R_drew)); exact HO159.out))) (below_size (zm HB))); replace HO159 := za (Kd.R_elder' (by (with_reducible repeat (first | apply Kd.R_alloc | apply Kd.R_drewN | apply Kd.R_drew)); exact HO159.out) (Kd.Q_base ho0) hb); replace HB := zs HB hb; (try clear hb); (try clear hb2); (try clear hk); (try clear hi); (try clear ho0)) | ((with_reducible refine gate_dst (N := 4) rfl ?_); (try (refine gate_guard (by rfl) ?_; dsimp only)); refine zE 4 #[.slice none 0 0, .bool false] 27 ?_; intro gb168 hg w69 hbox hb; have BK168 := za (hbox); have GW168 := zg HB hg; have GE168 := zg HB hg; replace HO159 := zR HO159 hb; replace HO165 := za (Kd.Q_below (by (with_reducible repeat (first | apply Kd.Q_alloc | apply Kd.Q_drewN | apply Kd.Q_drew)); exact HO165.out) hb); replace HB := zs HB hb; clear hb hbox hg; obtain ⟨Ao70, co70, eo70, _⟩ := Kd.Q_slice HO165.out; subst eo70; obtain ⟨hcz71_0, hcz71_1, hfz71_0, hfz71_1⟩ := z2 BK168))
    go_ret
    exact ⟨zf, zm HB⟩
  ·rw [if_neg c4] at H
   have c4b0 : (t167 == 0) = false := beq_eq_false_iff_ne.mpr c4
   have c4b1 : (t167 != 0) = true := bne_iff_ne.mpr c4
   obtain rfl := Option.some.inj H
   go_enter Try.func9, Try.ntmps9
   go_wp2_with (first | ((with_reducible refine gate_dst (N := 8) rfl ?_); (try (refine gate_guard (by rfl) ?_; dsimp only)); refine Kd.R_lit Kd.bool _ 4 ?hg (N := 8) ?hd (xs := ([true, false, true, false, true] : List Bool)) (inner := [.bool true, .bool false, .bool true, .bool false, .bool true]) (ok := fun _ => True) (okp := fun _ => True) ?hr ?hp (fun _ hk => hk) trivial (Below.refl _ _) (Nat.le_refl _) (by simp) ?_; (case hd => rfl); (case hg => rfl); (case hr => first | (go_simp; done) | (go_simp; rfl)); (case hp => exact (Reps.one (show Kd.M Kd.bool _ _ _ true [.bool true] from rfl) (Reps.one (show Kd.M Kd.bool _ _ _ false [.bool false] from rfl) (Reps.one (show Kd.M Kd.bool _ _ _ true [.bool true] from rfl) (Reps.one (show Kd.M Kd.bool _ _ _ false [.bool false] from rfl) (Reps.one (show Kd.M Kd.bool _ _ _ true [.bool true] from rfl) (Reps.none _ _))))))); intro v158 w72 ho73 hb hg_ hnew_; clear hg_ hnew_; (first | rw [← Ny157.out] at ho73 | (simp only [Int.reduceToNat] at ho73; rw [← Ny157.out] at ho73)); have HO159 := za (Kd.R_lower ho73 (below_size (zm HB))); replace HB := zs HB hb; clear hb ho73; obtain ⟨Ao74, co74, eo74⟩ := Kd.R_slice HO159.out; subst eo74) | ((with_reducible refine gate_callee (f := 20) rfl ?_); refine zL (some 9) Try.func20 #[.agg #[.int .i64 0, .int .i64 0, .int .i64 3, .int .i64 2], .slice Ao74 y157.length co74] ?_; (with_reducible refine (monitor_Run.calls k 0 0 3 2 _ _ y157 t160 t161 t162 _ ?side1 ?side2 A1.out).mono ?_); (case side1 => exact zD HO159); (case side2 => exact (Kd.R_reads' HO159.out).2.1); rintro e w75 ⟨rfl, hb⟩; refine ⟨_, rfl, ?_⟩; replace HO159 := zR HO159 hb; replace HB := zs HB hb; (try clear hb); (try clear hb2); (try clear hk); (try clear hi)) | ((with_reducible refine gate_callee (f := 23) rfl ?_); refine zL (some 16) Try.func23 #[.agg #[.int .i64 0, .int .i64 0, .int .i64 1, .int .i64 1], .agg #[.slice none 0 0, .bool false], .bool false] ?_; (refine (monitor_Step.calls k 0 0 1 1 _ _ ([] : List Bool) false false t163 t166 t167 _ ?side1 ?side2 A2.out).mono ?_); (case side1 => exact Kd.C_nil _ _); (case side2 => exact Nat.le_refl _); rintro e w76 ⟨v164, rfl, ho0, hb⟩; refine ⟨_, rfl, ?_⟩; have HO165 := za (Kd.Q_lower (Kd.Q_new' ho0 (Kd.R_lt (by (with_reducible repeat (first | apply Kd.R_alloc | apply Kd.R_drewN | apply Kd.R_drew)); exact HO159.out))) (below_size (zm HB))); replace HO159 := za (Kd.R_elder' (by (with_reducible repeat (first | apply Kd.R_alloc | apply Kd.R_drewN | apply Kd.R_drew)); exact HO159.out) (Kd.Q_base ho0) hb); replace HB := zs HB hb; (try clear hb); (try clear hb2); (try clear hk); (try clear hi); (try clear ho0)) | ((with_reducible refine gate_dst (N := 4) rfl ?_); (try (refine gate_guard (by rfl) ?_; dsimp only)); refine zE 4 #[.slice none 0 0, .bool false] 27 ?_; intro gb168 hg w77 hbox hb; have BK168 := za (hbox); have GW168 := zg HB hg; have GE168 := zg HB hg; replace HO159 := zR HO159 hb; replace HO165 := za (Kd.Q_below (by (with_reducible repeat (first | apply Kd.Q_alloc | apply Kd.Q_drewN | apply Kd.Q_drew)); exact HO165.out) hb); replace HB := zs HB hb; clear hb hbox hg; obtain ⟨Ao78, co78, eo78, _⟩ := Kd.Q_slice HO165.out; subst eo78; obtain ⟨hcz79_0, hcz79_1, hfz79_0, hfz79_1⟩ := z2 BK168))
   go_ret
   exact ⟨zf, zm HB⟩
 ·rw [if_neg c3] at H
  have c3b0 : (t162 == 0) = false := beq_eq_false_iff_ne.mpr c3
  have c3b1 : (t162 != 0) = true := bne_iff_ne.mpr c3
  obtain rfl := Option.some.inj H
  go_enter Try.func9, Try.ntmps9
  go_wp2_with (first | ((with_reducible refine gate_dst (N := 8) rfl ?_); (try (refine gate_guard (by rfl) ?_; dsimp only)); refine Kd.R_lit Kd.bool _ 4 ?hg (N := 8) ?hd (xs := ([true, false, true, false, true] : List Bool)) (inner := [.bool true, .bool false, .bool true, .bool false, .bool true]) (ok := fun _ => True) (okp := fun _ => True) ?hr ?hp (fun _ hk => hk) trivial (Below.refl _ _) (Nat.le_refl _) (by simp) ?_; (case hd => rfl); (case hg => rfl); (case hr => first | (go_simp; done) | (go_simp; rfl)); (case hp => exact (Reps.one (show Kd.M Kd.bool _ _ _ true [.bool true] from rfl) (Reps.one (show Kd.M Kd.bool _ _ _ false [.bool false] from rfl) (Reps.one (show Kd.M Kd.bool _ _ _ true [.bool true] from rfl) (Reps.one (show Kd.M Kd.bool _ _ _ false [.bool false] from rfl) (Reps.one (show Kd.M Kd.bool _ _ _ true [.bool true] from rfl) (Reps.none _ _))))))); intro v158 w80 ho81 hb hg_ hnew_; clear hg_ hnew_; (first | rw [← Ny157.out] at ho81 | (simp only [Int.reduceToNat] at ho81; rw [← Ny157.out] at ho81)); have HO159 := za (Kd.R_lower ho81 (below_size (zm HB))); replace HB := zs HB hb; clear hb ho81; obtain ⟨Ao82, co82, eo82⟩ := Kd.R_slice HO159.out; subst eo82) | ((with_reducible refine gate_callee (f := 20) rfl ?_); refine zL (some 9) Try.func20 #[.agg #[.int .i64 0, .int .i64 0, .int .i64 3, .int .i64 2], .slice Ao82 y157.length co82] ?_; (with_reducible refine (monitor_Run.calls k 0 0 3 2 _ _ y157 t160 t161 t162 _ ?side1 ?side2 A1.out).mono ?_); (case side1 => exact zD HO159); (case side2 => exact (Kd.R_reads' HO159.out).2.1); rintro e w83 ⟨rfl, hb⟩; refine ⟨_, rfl, ?_⟩; replace HO159 := zR HO159 hb; replace HB := zs HB hb; (try clear hb); (try clear hb2); (try clear hk); (try clear hi)) | ((with_reducible refine gate_callee (f := 23) rfl ?_); refine zL (some 16) Try.func23 #[.agg #[.int .i64 0, .int .i64 0, .int .i64 1, .int .i64 1], .agg #[.slice none 0 0, .bool false], .bool false] ?_; (refine (monitor_Step.calls k 0 0 1 1 _ _ ([] : List Bool) false false t163 t166 t167 _ ?side1 ?side2 A2.out).mono ?_); (case side1 => exact Kd.C_nil _ _); (case side2 => exact Nat.le_refl _); rintro e w84 ⟨v164, rfl, ho0, hb⟩; refine ⟨_, rfl, ?_⟩; have HO165 := za (Kd.Q_lower (Kd.Q_new' ho0 (Kd.R_lt (by (with_reducible repeat (first | apply Kd.R_alloc | apply Kd.R_drewN | apply Kd.R_drew)); exact HO159.out))) (below_size (zm HB))); replace HO159 := za (Kd.R_elder' (by (with_reducible repeat (first | apply Kd.R_alloc | apply Kd.R_drewN | apply Kd.R_drew)); exact HO159.out) (Kd.Q_base ho0) hb); replace HB := zs HB hb; (try clear hb); (try clear hb2); (try clear hk); (try clear hi); (try clear ho0)) | ((with_reducible refine gate_dst (N := 4) rfl ?_); (try (refine gate_guard (by rfl) ?_; dsimp only)); refine zE 4 #[.slice none 0 0, .bool false] 27 ?_; intro gb168 hg w85 hbox hb; have BK168 := za (hbox); have GW168 := zg HB hg; have GE168 := zg HB hg; replace HO159 := zR HO159 hb; replace HO165 := za (Kd.Q_below (by (with_reducible repeat (first | apply Kd.Q_alloc | apply Kd.Q_drewN | apply Kd.Q_drew)); exact HO165.out) hb); replace HB := zs HB hb; clear hb hbox hg; obtain ⟨Ao86, co86, eo86, _⟩ := Kd.Q_slice HO165.out; subst eo86; obtain ⟨hcz87_0, hcz87_1, hfz87_0, hfz87_1⟩ := z2 BK168))
  go_ret
  exact ⟨zf, zm HB⟩

/-- A state of type 53 at block g of W; what its slices lead to came in by w0. -/
def IsS53 (w0 W : World) (g : Nat) (f0 : List Int) (f1 : Int) : Prop := ∃ A0 c0, W.heap[g]? = some (.cells #[.slice A0 f0.length c0, .int .i64 f1] 53 (0, 0)) ∧ w0.heap.size ≤ g ∧ Kd.C (Kd.int .i64) w0 A0 f0.length f0
theorem IsS53.grown {w0 W : World} {g : Nat} {f0 : List Int} {f1 : Int} {W1 : World} {row : Option Nat} (h : IsS53 w0 W g f0 f1) (hw : W.grownBy W1 row) (hne : some g ≠ row) : IsS53 w0 W1 g f0 f1 := by
  obtain ⟨A0, c0, hb, hg, hr0⟩ := h
  exact ⟨A0, c0, blk_grown hb hw hne, hg, hr0⟩
theorem IsS53.own_neN {w0 W : World} {g : Nat} {f0 : List Int} {f1 : Int} {α : Type} {d : Kd α} {e : Nat} {base : Nat} {ok : Nat → Prop} {v : Value} {xs : List α} (h : IsS53 w0 W g f0 f1) (ho : Kd.N d e W base ok v xs) (ht : e ≠ 53) : some g ≠ v.ownBlock := by
  obtain ⟨A0, c0, hb, hg, hr0⟩ := h
  exact Kd.N_ne ho hb ht
theorem IsS53.fresh {w0 W : World} {g : Nat} {f0 : List Int} {f1 : Int} (h : IsS53 w0 W g f0 f1) : ∀ k, W.heap.size ≤ k → k ≠ g := by
  obtain ⟨A0, c0, hb, hg, hr0⟩ := h
  exact Kd.freshB hb
theorem IsS53.kept {w0 W : World} {g : Nat} {f0 : List Int} {f1 : Int} {W1 : World} {S : Nat → Prop} (h : IsS53 w0 W g f0 f1) (hk : Kept W W1 S) (hne : ¬ S g) : IsS53 w0 W1 g f0 f1 := by
  obtain ⟨A0, c0, hb, hg, hr0⟩ := h
  exact ⟨A0, c0, blk_kept hb hk hne, hg, hr0⟩
theorem IsS53.below {w0 W : World} {g : Nat} {f0 : List Int} {f1 : Int} {W1 : World} (h : IsS53 w0 W g f0 f1) (hw : Below W.heap.size W W1) : IsS53 w0 W1 g f0 f1 := h.grown (grown_of_below hw none) (by simp)
theorem IsS53.alloc {w0 W : World} {g : Nat} {f0 : List Int} {f1 : Int} (h : IsS53 w0 W g f0 f1) (o : Obj) : IsS53 w0 (W.alloc o) g f0 f1 := h.below (below_alloc (Below.refl _ _) o)
theorem IsS53.drewN {w0 W : World} {g : Nat} {f0 : List Int} {f1 : Int} (h : IsS53 w0 W g f0 f1) (m : Nat) : IsS53 w0 (W.drewN m) g f0 f1 := h
theorem IsS53.drew {w0 W : World} {g : Nat} {f0 : List Int} {f1 : Int} (h : IsS53 w0 W g f0 f1) : IsS53 w0 W.drew g f0 f1 := h
theorem IsS53.at_ {w0 W : World} {g : Nat} {f0 : List Int} {f1 : Int} {w' : World} {m : Nat} (hq : W.drewN m = w') (h : IsS53 w0 W g f0 f1) : IsS53 w0 w' g f0 f1 := by subst hq; exact IsS53.drewN h m
theorem IsS53.apart {w0 W : World} {g : Nat} {f0 : List Int} {f1 : Int} {α : Type} {d : Kd α} {e : Nat} {base : Nat} {ok : Nat → Prop} {v : Value} {xs : List α} (h : IsS53 w0 W g f0 f1) (ho : d.R e W base ok v xs) (ht : ∀ q, q ∈ e :: d.E → q ≠ 53) : d.R e W base (fun k => ok k ∧ k ≠ g) v xs := by
  obtain ⟨A0, c0, hb, hg, hr0⟩ := h
  exact Kd.R_types ho hb ht
theorem IsS53.own_ne {w0 W : World} {g : Nat} {f0 : List Int} {f1 : Int} {α : Type} {d : Kd α} {e : Nat} {base : Nat} {ok : Nat → Prop} {v : Value} {xs : List α} (h : IsS53 w0 W g f0 f1) (ho : d.R e W base ok v xs) (ht : e ≠ 53) : some g ≠ v.ownBlock := by
  obtain ⟨A0, c0, hb, hg, hr0⟩ := h
  exact Kd.R_ne ho hb ht
theorem IsS53.apartQ {w0 W : World} {g : Nat} {f0 : List Int} {f1 : Int} {α : Type} {d : Kd α} {e : Nat} {base : Nat} {ok : Nat → Prop} {v : Value} {xs : List α} (h : IsS53 w0 W g f0 f1) (ho : d.Q e W base ok v xs) (ht : ∀ q, q ∈ e :: d.E → q ≠ 53) : d.Q e W base (fun k => ok k ∧ k ≠ g) v xs := by
  obtain ⟨A0, c0, hb, hg, hr0⟩ := h
  exact Kd.Q_types ho hb ht
theorem IsS53.own_neQ {w0 W : World} {g : Nat} {f0 : List Int} {f1 : Int} {α : Type} {d : Kd α} {e : Nat} {base : Nat} {ok : Nat → Prop} {v : Value} {xs : List α} (h : IsS53 w0 W g f0 f1) (ho : d.Q e W base ok v xs) (ht : e ≠ 53) : some g ≠ v.ownBlock := by
  obtain ⟨A0, c0, hb, hg, hr0⟩ := h
  exact Kd.Q_ne ho hb ht
theorem IsS53.apartS {w0 W : World} {g : Nat} {f0 : List Int} {f1 : Int} {α : Type} {d : Kd α} {e : Nat} {base : Nat} {ok : Nat → Prop} {v : Value} {xs : List α} (h : IsS53 w0 W g f0 f1) (ho : d.S e W base ok v xs) (ht : ∀ q, q ∈ e :: d.E → q ≠ 53) : d.S e W base (fun k => ok k ∧ k ≠ g) v xs := by
  obtain ⟨A0, c0, hb, hg, hr0⟩ := h
  exact Kd.S_types ho hb ht
theorem IsS53.own_neS {w0 W : World} {g : Nat} {f0 : List Int} {f1 : Int} {α : Type} {d : Kd α} {e : Nat} {base : Nat} {ok : Nat → Prop} {v : Value} {xs : List α} (h : IsS53 w0 W g f0 f1) (ho : d.S e W base ok v xs) (ht : e ≠ 53) : some g ≠ v.ownBlock := by
  obtain ⟨A0, c0, hb, hg, hr0⟩ := h
  exact Kd.S_ne ho hb ht
theorem IsS53.lt {w0 W : World} {g : Nat} {f0 : List Int} {f1 : Int} (h : IsS53 w0 W g f0 f1) : g < W.heap.size := by
  obtain ⟨A0, c0, hb, hg, hr0⟩ := h
  exact blk_lt hb
theorem IsS53.ge {w0 W : World} {g : Nat} {f0 : List Int} {f1 : Int} (h : IsS53 w0 W g f0 f1) : w0.heap.size ≤ g := by
  obtain ⟨A0, c0, hb, hg, hr0⟩ := h
  exact hg
theorem IsS53.ne_blk {w0 W : World} {g : Nat} {f0 : List Int} {f1 : Int} {a : Nat} {cs : Array Value} {t : TypeId} {fr : Nat × Nat} (h : IsS53 w0 W g f0 f1) (hb2 : W.heap[a]? = some (.cells cs t fr)) (ht : t ≠ 53) : g ≠ a := by
  obtain ⟨A0, c0, hb, hg, hr0⟩ := h
  rintro rfl
  rw [hb] at hb2
  injection hb2 with hb2
  injection hb2 with _ ht2
  exact ht ht2.symm
theorem IsS53.far {w0 W : World} {g : Nat} {f0 : List Int} {f1 : Int} {p : Addr} (h : IsS53 w0 W g f0 f1) (hne : g ≠ p.block) (u : Value) : IsS53 w0 (W.setCell p u) g f0 f1 := by
  obtain ⟨A0, c0, hb, hg, hr0⟩ := h
  exact ⟨A0, c0, blk_far hb hne u, hg, hr0⟩
theorem cellS53_0 {W : World} {g : Nat} {A0 : Option Addr} {c0 : Nat} {f0 : List Int} {f1 : Int} (h : W.heap[g]? = some (.cells #[.slice A0 f0.length c0, .int .i64 f1] 53 (0, 0))) : W.cell? ⟨g, 0, none⟩ = some (.slice A0 f0.length c0) := (blk_cell h 0).trans rfl
theorem cellS53_1 {W : World} {g : Nat} {A0 : Option Addr} {c0 : Nat} {f0 : List Int} {f1 : Int} (h : W.heap[g]? = some (.cells #[.slice A0 f0.length c0, .int .i64 f1] 53 (0, 0))) : W.cell? ⟨g, 1, none⟩ = some (.int .i64 f1) := (blk_cell h 1).trans rfl
theorem IsS53.set_1 {w0 W : World} {g : Nat} {f0 : List Int} {f1 : Int} (h : IsS53 w0 W g f0 f1) (x : Int) : IsS53 w0 (W.setCell ⟨g, 1, none⟩ (.int .i64 x)) g f0 x := by
  obtain ⟨A0, c0, hb, hg, hr0⟩ := h
  exact ⟨A0, c0, by simpa using blk_set hb 1 (.int .i64 x), hg, hr0⟩
theorem IsS53.new (w0 W : World) (A0 : Option Addr) (c0 : Nat) (f0 : List Int) (f1 : Int) (hB : Below w0.heap.size w0 W) (hr0 : Kd.C (Kd.int .i64) w0 A0 f0.length f0) : IsS53 w0 (W.alloc (.cells #[.slice A0 f0.length c0, .int .i64 f1] 53)) W.heap.size f0 f1 := ⟨A0, c0, by simpa using heap_alloc_new W _, hB.size, hr0⟩

/-! ### awardingbodymark_Roll: function 10 -/
def awardingbodymark_Roll.f (l0 : List Int) : Option (List Int × Int) := some (l0, 0)
set_option maxHeartbeats 8000000 in
set_option maxRecDepth 100000 in
theorem awardingbodymark_Roll.calls (A0 : Option Addr) (c0 : Nat) (l0 : List Int) (r1 : List Int) (r2 : Int) (w0 w : World) (hB : Below w0.heap.size w0 w) (hr0 : Kd.C (Kd.int .i64) w0 A0 l0.length l0) (hc0 : l0.length ≤ c0) (h : awardingbodymark_Roll.f l0 = some (r1, r2)) :
    Calls Try.prog 10 #[.slice A0 l0.length c0] w fun e w' => ∃ g_ : Nat, e = .returned (.pointer (some ⟨g_, 0, none⟩)) ∧ IsS53 w0 w' g_ r1 r2 ∧ Below w0.heap.size w0 w' ∧ Below w.heap.size w w' := by
 have hu53 := Try.underlying53
 have HR0 := za hr0
 have HC0 := za hc0
 clear hr0 hc0
 have HBW := za (Below.refl w.heap.size w)
 have HW0 := za hB.size
 have HB := za hB
 clear hB
 have H : (some (l0, 0)) = some (r1, r2) := h
 clear h
 simp only [Option.some.injEq, Prod.mk.injEq] at H
 obtain ⟨rfl, rfl⟩ := H
 go_enter Try.func10, Try.ntmps10
 go_wp2_with (first | ((with_reducible refine gate_dst (N := 5) rfl ?_); refine zE 5 #[.slice A0 l0.length c0, .int .i64 0] 53 ?_; intro gb183 hg w2 hbox hb; have BK183 := za (hbox); have GW183 := zg HBW hg; have GE183 := za ((Nat.le_trans HW0.out (by rw [hg]; exact (below_size (zm HBW)) : w.heap.size ≤ gb183) : w0.heap.size ≤ gb183)); replace HBW := za (below_step HBW.out hb); replace HB := zs HB hb; clear hb hbox hg))
 go_ret
 exact ⟨_, rfl, (show IsS53 w0 _ gb183 l0 0 from ⟨_, _, by (with_reducible repeat (first | refine blk_drewN ?_ _ | refine blk_drew ?_ | refine blk_alloc ?_ _)); exact BK183.out, GE183.out, HR0.out⟩), zm HB, zm HBW⟩

/-! ### awardingbodymark_Dice_Next: function 12 -/
def awardingbodymark_Dice_Next.j0 : Nat → Int → Bool → List Int → Int → Option (Int × Int)
  | 0, _, _, _, _ => none
  | k + 1, x1, x19, x1000, x1001 => if x19 = true then (some (0, x1001)) else (if 0 ≤ x1001 then (if x1001 < (x1000.length : Int) then (if x1 = 0 then (none) else (if (Int.tmod (rd x1000 x1001) x1) < 0 then (some (wrap64 ((Int.tmod (rd x1000 x1001) x1) + x1), wrap64 (x1001 + 1))) else (some (Int.tmod (rd x1000 x1001) x1, wrap64 (x1001 + 1))))) else (none)) else (none))
def awardingbodymark_Dice_Next.f (k : Nat) (s0_0 : List Int) (s0_1 : Int) (a1 : Int) : Option (Int × Int) := if s0_1 ≥ (s0_0.length : Int) then (awardingbodymark_Dice_Next.j0 k a1 true s0_0 s0_1) else (awardingbodymark_Dice_Next.j0 k a1 (decide (a1 < 1)) s0_0 s0_1)
theorem awardingbodymark_Dice_Next.mono_l : ∀ k, (∀ y0 y1 y2 y3, LeO (awardingbodymark_Dice_Next.j0 k y0 y1 y2 y3) (awardingbodymark_Dice_Next.j0 (k + 1) y0 y1 y2 y3))
  | 0 => fun _ _ _ _ r h => by simp [awardingbodymark_Dice_Next.j0] at h
  | k + 1 => by
    have ih0 := awardingbodymark_Dice_Next.mono_l k
    · intro y0 y1 y2 y3
      unfold awardingbodymark_Dice_Next.j0
      repeat' first
      | (with_reducible exact ih0 _ _ _ _)
      | (with_reducible exact LeO.refl _)
      | (with_reducible exact LeO.none _)
      | (with_reducible refine LeO.ite ?_ ?_)
      | (with_reducible refine LeO.bind ?_ (fun _ => ?_))
      | exact ih0 _ _ _ _
      | exact LeO.none _
      | refine LeO.ite ?_ ?_
      | refine LeO.bind ?_ (fun _ => ?_)
theorem awardingbodymark_Dice_Next.mono : ∀ a0 a1 a2 k, LeO (awardingbodymark_Dice_Next.f k a0 a1 a2) (awardingbodymark_Dice_Next.f (k + 1) a0 a1 a2) := by
  intro a0 a1 a2 k
  have ih0 := awardingbodymark_Dice_Next.mono_l k
  unfold awardingbodymark_Dice_Next.f
  repeat' first
      | (with_reducible exact ih0 _ _ _ _)
      | (with_reducible exact LeO.refl _)
      | (with_reducible exact LeO.none _)
      | (with_reducible refine LeO.ite ?_ ?_)
      | (with_reducible refine LeO.bind ?_ (fun _ => ?_))
      | exact ih0 _ _ _ _
      | exact LeO.none _
      | refine LeO.ite ?_ ?_
      | refine LeO.bind ?_ (fun _ => ?_)
set_option maxHeartbeats 8000000 in
set_option maxRecDepth 100000 in
theorem awardingbodymark_Dice_Next.calls (k : Nat) (g : Nat) (s0_0 : List Int) (s0_1 : Int) (a1 : Int) (r1 : Int) (r2 : Int) (w0 w : World) (hI : IsS53 w0 w g s0_0 s0_1) (hB : Below w0.heap.size w0 w) (h : awardingbodymark_Dice_Next.f k s0_0 s0_1 a1 = some (r1, r2)) :
    Calls Try.prog 12 #[.pointer (some ⟨g, 0, none⟩), .int .i64 a1] w fun e w' => e = .returned (.int .i64 r1) ∧ IsS53 w0 w' g s0_0 r2 ∧ Below w0.heap.size w0 w' ∧ KeepBut w w' g none := by
 have HI0 := za hI
 have HK := za (KeepBut.refl w g none)
 have HL := za hB.size
 clear hI
 have HW0 := za hB.size
 have HB := za hB
 clear hB
 have H : (if s0_1 ≥ (s0_0.length : Int) then (awardingbodymark_Dice_Next.j0 k a1 true s0_0 s0_1) else (awardingbodymark_Dice_Next.j0 k a1 (decide (a1 < 1)) s0_0 s0_1)) = some (r1, r2) := h
 clear h
 have HC3 := za H
 clear H
 go_enter Try.func12, Try.ntmps12
 go_upto_region 1 with (fail)
 repeat (go_quiet (fail); go_upto_region 1 with (fail))
 go_cut [19] (fun v19 wc => ∃ (kq : Nat) (x19_2 : Bool), v19 = .bool x19_2 ∧ Aside0 (awardingbodymark_Dice_Next.j0 kq a1 x19_2 s0_0 s0_1 = some (r1, r2)) ∧ Aside0 (kq ≤ k) ∧ Aside0 (IsS53 w0 wc g s0_0 s0_1) ∧ Aside0 (KeepBut w wc g none) ∧ Aside0 (Below w0.heap.size w0 wc))
 case first =>
  have H := HC3.out
  clear HC3
  by_cases c4 : s0_1 ≥ (s0_0.length : Int)
  ·rw [if_pos c4] at H
   have c4b0 : decide ((s0_0.length : Int) ≤ s0_1) = true := decide_eq_true c4
   clear c4
   (first | rw [c4b0] | (simp only [i64_w, i32_w]; rw [c4b0]) | skip)
   have H' := za H
   clear H
   obtain ⟨ASz5_0, cSz5_0, HGz5, hgz5, HSz5_0⟩ := HI0.out
   have hcz5_0 := cellS53_0 HGz5
   have hcz5_1 := cellS53_1 HGz5
   have hfz5_1 := blk_frozen HGz5 1
   clear HGz5 hgz5
   go_wp2
   repeat (go_quiet (fail); try go_wp2)
   go_meet
   case rel => exact ⟨_, (true), (by first | rfl | (simp; done) | (simp [*]; done)), H', ⟨by first | omega | exact Nat.le_refl _⟩, ⟨by repeat (first | (with_reducible first | exact HI0.out | apply IsS53.alloc | apply IsS53.drewN | apply IsS53.drew | apply IsS53.set_1) | exact HI0.out)⟩, ⟨by repeat (first | (with_reducible first | exact HK.out | apply KeepBut.set_ | apply keep_drewN | apply keep_drew | apply keep_alloc) | exact HK.out)⟩, ⟨zm HB⟩⟩
  ·rw [if_neg c4] at H
   have c4b0 : decide ((s0_0.length : Int) ≤ s0_1) = false := decide_eq_false c4
   clear c4
   (first | rw [c4b0] | (simp only [i64_w, i32_w]; rw [c4b0]) | skip)
   have H' := za H
   clear H
   obtain ⟨ASz6_0, cSz6_0, HGz6, hgz6, HSz6_0⟩ := HI0.out
   have hcz6_0 := cellS53_0 HGz6
   have hcz6_1 := cellS53_1 HGz6
   have hfz6_1 := blk_frozen HGz6 1
   clear HGz6 hgz6
   go_wp2
   repeat (go_quiet (fail); try go_wp2)
   go_meet
   case rel => exact ⟨_, (decide (a1 < 1)), (by first | rfl | (simp; done) | (simp [*]; done)), H', ⟨by first | omega | exact Nat.le_refl _⟩, ⟨by repeat (first | (with_reducible first | exact HI0.out | apply IsS53.alloc | apply IsS53.drewN | apply IsS53.drew | apply IsS53.set_1) | exact HI0.out)⟩, ⟨by repeat (first | (with_reducible first | exact HK.out | apply KeepBut.set_ | apply keep_drewN | apply keep_drew | apply keep_alloc) | exact HK.out)⟩, ⟨zm HB⟩⟩
 case rest =>
  clear HC3
  try clear c1
  try clear p2
  try clear c4
  try clear c4b0
  try clear hcz5_0
  try clear hcz5_1
  try clear hcz6_0
  try clear hcz6_1
  try clear hfz5_1
  try clear hfz6_1
  obtain ⟨kq, x19_2, rfl, HA, HJ2, HI0, HK, HB⟩ := hcut
  cases kq with
  | zero => exact absurd HA.out (by simp [awardingbodymark_Dice_Next.j0])
  | succ kj2 =>
   have H := HA.out
   clear HA
   simp only [awardingbodymark_Dice_Next.j0] at H
   by_cases c7 : x19_2 = true
   ·subst c7
    have H1 : (some (0, s0_1)) = some (r1, r2) := by rw [if_pos rfl] at H; exact H
    clear H
    have H := H1
    clear H1
    simp only [Option.some.injEq, Prod.mk.injEq] at H
    obtain ⟨rfl, rfl⟩ := H
    go_wp2
    repeat (go_quiet (fail); try go_wp2)
    go_ret
    exact ⟨zf, by repeat (first | (with_reducible first | exact HI0.out | apply IsS53.alloc | apply IsS53.drewN | apply IsS53.drew | apply IsS53.set_1) | exact HI0.out), zm HB, by repeat (first | (with_reducible first | exact HK.out | apply KeepBut.set_ | apply keep_drewN | apply keep_drew | apply keep_alloc) | exact HK.out)⟩
   ·replace c7 := Bool.eq_false_iff.mpr c7
    subst c7
    have H1 : (if 0 ≤ s0_1 then (if s0_1 < (s0_0.length : Int) then (if a1 = 0 then (none) else (if (Int.tmod (rd s0_0 s0_1) a1) < 0 then (some (wrap64 ((Int.tmod (rd s0_0 s0_1) a1) + a1), wrap64 (s0_1 + 1))) else (some (Int.tmod (rd s0_0 s0_1) a1, wrap64 (s0_1 + 1))))) else (none)) else (none)) = some (r1, r2) := by rw [if_neg (show ¬ (false = true) by decide)] at H; exact H
    clear H
    have H := H1
    clear H1
    by_cases c8 : 0 ≤ s0_1
    ·rw [if_pos c8] at H
     have c8b0 : decide (0 ≤ s0_1) = true := decide_eq_true c8
     clear c8
     by_cases c9 : s0_1 < (s0_0.length : Int)
     ·rw [if_pos c9] at H
      have c9b0 : decide (s0_1 < (s0_0.length : Int)) = true := decide_eq_true c9
      clear c9
      by_cases c10 : a1 = 0
      ·rw [if_pos c10] at H
       exact absurd H (by simp)
      ·rw [if_neg c10] at H
       have c10b0 : (a1 == 0) = false := beq_eq_false_iff_ne.mpr c10
       have c10b1 : (a1 != 0) = true := bne_iff_ne.mpr c10
       by_cases c11 : (Int.tmod (rd s0_0 s0_1) a1) < 0
       ·rw [if_pos c11] at H
        have c11b0 : decide ((Int.tmod (rd s0_0 s0_1) a1) < 0) = true := decide_eq_true c11
        clear c11
        simp only [Option.some.injEq, Prod.mk.injEq] at H
        obtain ⟨rfl, rfl⟩ := H
        obtain ⟨ASz12_0, cSz12_0, HGz12, hgz12, HSz12_0⟩ := HI0.out
        have hcz12_0 := cellS53_0 HGz12
        have hcz12_1 := cellS53_1 HGz12
        have hfz12_1 := blk_frozen HGz12 1
        clear HGz12 hgz12
        have p184 : 0 ≤ (s0_1 : Int) := of_decide_eq_true (by first | (with_reducible assumption) | assumption)
        have q184 : s0_1 < (s0_0.length : Int) := of_decide_eq_true (by first | (with_reducible assumption) | assumption)
        obtain ⟨ad184, e184, hx184_0⟩ := Kd.at_int HSz12_0 s0_1 p184 q184
        cases e184
        replace hx184_0 := pw_cell_below HB.out hx184_0
        replace p184 := eq_true p184
        replace q184 := eq_true q184
        go_wp2
        repeat (go_quiet (fail); try go_wp2)
        go_ret
        exact ⟨zf, by repeat (first | (with_reducible first | exact HI0.out | apply IsS53.alloc | apply IsS53.drewN | apply IsS53.drew | apply IsS53.set_1) | exact HI0.out), zm HB, by repeat (first | (with_reducible first | exact HK.out | apply KeepBut.set_ | apply keep_drewN | apply keep_drew | apply keep_alloc) | exact HK.out)⟩
       ·rw [if_neg c11] at H
        have c11b0 : decide ((Int.tmod (rd s0_0 s0_1) a1) < 0) = false := decide_eq_false c11
        clear c11
        simp only [Option.some.injEq, Prod.mk.injEq] at H
        obtain ⟨rfl, rfl⟩ := H
        obtain ⟨ASz13_0, cSz13_0, HGz13, hgz13, HSz13_0⟩ := HI0.out
        have hcz13_0 := cellS53_0 HGz13
        have hcz13_1 := cellS53_1 HGz13
        have hfz13_1 := blk_frozen HGz13 1
        clear HGz13 hgz13
        have p184 : 0 ≤ (s0_1 : Int) := of_decide_eq_true (by first | (with_reducible assumption) | assumption)
        have q184 : s0_1 < (s0_0.length : Int) := of_decide_eq_true (by first | (with_reducible assumption) | assumption)
        obtain ⟨ad184, e184, hx184_0⟩ := Kd.at_int HSz13_0 s0_1 p184 q184
        cases e184
        replace hx184_0 := pw_cell_below HB.out hx184_0
        replace p184 := eq_true p184
        replace q184 := eq_true q184
        go_wp2
        repeat (go_quiet (fail); try go_wp2)
        go_ret
        exact ⟨zf, by repeat (first | (with_reducible first | exact HI0.out | apply IsS53.alloc | apply IsS53.drewN | apply IsS53.drew | apply IsS53.set_1) | exact HI0.out), zm HB, by repeat (first | (with_reducible first | exact HK.out | apply KeepBut.set_ | apply keep_drewN | apply keep_drew | apply keep_alloc) | exact HK.out)⟩
     ·rw [if_neg c9] at H
      exact absurd H (by simp)
    ·rw [if_neg c8] at H
     exact absurd H (by simp)

/-! ### awardingbodymark_Dice_Monitor: function 11 -/
def awardingbodymark_Dice_Monitor.f (k : Nat) (s0_0 : List Int) (s0_1 : Int) : Option (Int × Int × Int × Int × Int) := (awardingbodymark_Dice_Next.f k s0_0 s0_1 3).bind fun bt186 => ((awardingbodymark_Dice_Next.f k s0_0 bt186.2 2).bind fun bt188 => ((awardingbodymark_Dice_Next.f k s0_0 bt188.2 3).bind fun bt190 => ((awardingbodymark_Dice_Next.f k s0_0 bt190.2 (wrap64 (1 + bt186.1))).bind fun bt192 => (some (bt188.1, bt190.1, wrap64 (1 + bt186.1), wrap64 (1 + bt192.1), bt192.2)))))
theorem awardingbodymark_Dice_Monitor.mono : ∀ a0 a1 k, LeO (awardingbodymark_Dice_Monitor.f k a0 a1) (awardingbodymark_Dice_Monitor.f (k + 1) a0 a1) := by
  intro a0 a1 k
  unfold awardingbodymark_Dice_Monitor.f
  repeat' first
      | (with_reducible exact awardingbodymark_Dice_Next.mono _ _ _ _)
      | (with_reducible exact LeO.refl _)
      | (with_reducible exact LeO.none _)
      | (with_reducible refine LeO.ite ?_ ?_)
      | (with_reducible refine LeO.bind ?_ (fun _ => ?_))
      | exact awardingbodymark_Dice_Next.mono _ _ _ _
      | exact LeO.none _
      | refine LeO.ite ?_ ?_
      | refine LeO.bind ?_ (fun _ => ?_)
set_option maxHeartbeats 8000000 in
set_option maxRecDepth 100000 in
theorem awardingbodymark_Dice_Monitor.calls (k : Nat) (g : Nat) (s0_0 : List Int) (s0_1 : Int) (r1 : Int) (r2 : Int) (r3 : Int) (r4 : Int) (r5 : Int) (w0 w : World) (hI : IsS53 w0 w g s0_0 s0_1) (hB : Below w0.heap.size w0 w) (h : awardingbodymark_Dice_Monitor.f k s0_0 s0_1 = some (r1, r2, r3, r4, r5)) :
    Calls Try.prog 11 #[.pointer (some ⟨g, 0, none⟩)] w fun e w' => e = .returned (.agg #[.int .i64 r1, .int .i64 r2, .int .i64 r3, .int .i64 r4]) ∧ IsS53 w0 w' g s0_0 r5 ∧ Below w0.heap.size w0 w' ∧ KeepBut w w' g none := by
 have hu24 := Try.underlying24
 have HI0 := za hI
 have HK := za (KeepBut.refl w g none)
 have HL := za hB.size
 clear hI
 have HW0 := za hB.size
 have HB := za hB
 clear hB
 have H : ((awardingbodymark_Dice_Next.f k s0_0 s0_1 3).bind fun bt186 => ((awardingbodymark_Dice_Next.f k s0_0 bt186.2 2).bind fun bt188 => ((awardingbodymark_Dice_Next.f k s0_0 bt188.2 3).bind fun bt190 => ((awardingbodymark_Dice_Next.f k s0_0 bt190.2 (wrap64 (1 + bt186.1))).bind fun bt192 => (some (bt188.1, bt190.1, wrap64 (1 + bt186.1), wrap64 (1 + bt192.1), bt192.2)))))) = some (r1, r2, r3, r4, r5) := h
 clear h
 replace H := Option.bind_eq_some_iff.mp H
 obtain ⟨⟨t186, t187⟩, A20, H⟩ := H
 replace H : ((awardingbodymark_Dice_Next.f k s0_0 t187 2).bind fun bt188 => ((awardingbodymark_Dice_Next.f k s0_0 bt188.2 3).bind fun bt190 => ((awardingbodymark_Dice_Next.f k s0_0 bt190.2 (wrap64 (1 + t186))).bind fun bt192 => (some (bt188.1, bt190.1, wrap64 (1 + t186), wrap64 (1 + bt192.1), bt192.2))))) = some (r1, r2, r3, r4, r5) := H
 have A2 := za A20
 clear A20
 replace H := Option.bind_eq_some_iff.mp H
 obtain ⟨⟨t188, t189⟩, A30, H⟩ := H
 replace H : ((awardingbodymark_Dice_Next.f k s0_0 t189 3).bind fun bt190 => ((awardingbodymark_Dice_Next.f k s0_0 bt190.2 (wrap64 (1 + t186))).bind fun bt192 => (some (t188, bt190.1, wrap64 (1 + t186), wrap64 (1 + bt192.1), bt192.2)))) = some (r1, r2, r3, r4, r5) := H
 have A3 := za A30
 clear A30
 replace H := Option.bind_eq_some_iff.mp H
 obtain ⟨⟨t190, t191⟩, A40, H⟩ := H
 replace H : ((awardingbodymark_Dice_Next.f k s0_0 t191 (wrap64 (1 + t186))).bind fun bt192 => (some (t188, t190, wrap64 (1 + t186), wrap64 (1 + bt192.1), bt192.2))) = some (r1, r2, r3, r4, r5) := H
 have A4 := za A40
 clear A40
 replace H := Option.bind_eq_some_iff.mp H
 obtain ⟨⟨t192, t193⟩, A50, H⟩ := H
 replace H : (some (t188, t190, wrap64 (1 + t186), wrap64 (1 + t192), t193)) = some (r1, r2, r3, r4, r5) := H
 have A5 := za A50
 clear A50
 simp only [Option.some.injEq, Prod.mk.injEq] at H
 obtain ⟨rfl, rfl, rfl, rfl, rfl⟩ := H
 go_enter Try.func11, Try.ntmps11
 go_wp2_with (first | ((with_reducible refine gate_dst (N := 2) rfl ?_); refine zE 2 #[.int .i64 0, .int .i64 0, .int .i64 0, .int .i64 0] 24 ?_; intro gb185 hg w6 hbox hb; have BK185 := za (hbox); have GW185 := za ((by rw [hg]; exact (keep_size (w := w) (g := g) (row := none) (by repeat (first | (with_reducible first | exact HK.out | apply KeepBut.set_ | apply keep_drewN | apply keep_drew | apply keep_alloc) | exact HK.out))) : w.heap.size ≤ gb185)); have GE185 := za ((Nat.le_trans HW0.out (by rw [hg]; exact (keep_size (w := w) (g := g) (row := none) (by repeat (first | (with_reducible first | exact HK.out | apply KeepBut.set_ | apply keep_drewN | apply keep_drew | apply keep_alloc) | exact HK.out))) : w.heap.size ≤ gb185) : w0.heap.size ≤ gb185)); have NB0_185 := za ((by rw [hg]; exact Nat.ne_of_lt (IsS53.lt (show IsS53 w0 _ g s0_0 s0_1 from by repeat (first | (with_reducible first | exact HI0.out | apply IsS53.alloc | apply IsS53.drewN | apply IsS53.drew | apply IsS53.set_1) | exact HI0.out))) : g ≠ gb185)); have NB185_0 := za ((by rw [hg]; exact Nat.ne_of_gt (IsS53.lt (show IsS53 w0 _ g s0_0 s0_1 from by repeat (first | (with_reducible first | exact HI0.out | apply IsS53.alloc | apply IsS53.drewN | apply IsS53.drew | apply IsS53.set_1) | exact HI0.out))) : gb185 ≠ g)); replace HI0 := za (IsS53.below (by repeat (first | (with_reducible first | exact HI0.out | apply IsS53.alloc | apply IsS53.drewN | apply IsS53.drew | apply IsS53.set_1) | exact HI0.out)) hb); replace HK := zu HK hb; replace HB := zs HB hb; clear hb hbox hg) | ((with_reducible refine gate_callee (f := 12) rfl ?_); refine zL (some 5) Try.func12 #[.pointer (some ⟨g, 0, none⟩), .int .i64 3] ?_; (with_reducible refine (awardingbodymark_Dice_Next.calls k g s0_0 s0_1 3 t186 t187 w0 _ ?side1 ?side2 A2.out).mono ?_); (case side1 => repeat (first | (with_reducible first | exact HI0.out | apply IsS53.alloc | apply IsS53.drewN | apply IsS53.drew | apply IsS53.set_1 | refine IsS53.far ?_ NB0_185.out _) | exact HI0.out)); (case side2 => repeat (first | (with_reducible first | exact HB.out | apply below_alloc | apply pw_below_drewN | apply below_drew1 | refine below_set ?_ (IsS53.ge HI0.out) | refine below_set ?_ GE185.out) | exact HB.out)); rintro e w7 ⟨rfl, hi, hb, hk⟩; refine ⟨_, rfl, ?_⟩; replace BK185 := zk hk BK185 NB185_0; replace HK := zt HK hk; replace HB := za (hb); replace HI0 := za (hi); (try clear hb); (try clear hb2); (try clear hk); (try clear hi)) | ((with_reducible refine gate_callee (f := 12) rfl ?_); refine zL (some 8) Try.func12 #[.pointer (some ⟨g, 0, none⟩), .int .i64 2] ?_; (with_reducible refine (awardingbodymark_Dice_Next.calls k g s0_0 t187 2 t188 t189 w0 _ ?side1 ?side2 A3.out).mono ?_); (case side1 => repeat (first | (with_reducible first | exact HI0.out | apply IsS53.alloc | apply IsS53.drewN | apply IsS53.drew | apply IsS53.set_1 | refine IsS53.far ?_ NB0_185.out _) | exact HI0.out)); (case side2 => repeat (first | (with_reducible first | exact HB.out | apply below_alloc | apply pw_below_drewN | apply below_drew1 | refine below_set ?_ (IsS53.ge HI0.out) | refine below_set ?_ GE185.out) | exact HB.out)); rintro e w8 ⟨rfl, hi, hb, hk⟩; refine ⟨_, rfl, ?_⟩; replace BK185 := zk hk BK185 NB185_0; replace HK := zt HK hk; replace HB := za (hb); replace HI0 := za (hi); (try clear hb); (try clear hb2); (try clear hk); (try clear hi)) | ((with_reducible refine gate_callee (f := 12) rfl ?_); refine zL (some 10) Try.func12 #[.pointer (some ⟨g, 0, none⟩), .int .i64 3] ?_; (with_reducible refine (awardingbodymark_Dice_Next.calls k g s0_0 t189 3 t190 t191 w0 _ ?side1 ?side2 A4.out).mono ?_); (case side1 => repeat (first | (with_reducible first | exact HI0.out | apply IsS53.alloc | apply IsS53.drewN | apply IsS53.drew | apply IsS53.set_1 | refine IsS53.far ?_ NB0_185.out _) | exact HI0.out)); (case side2 => repeat (first | (with_reducible first | exact HB.out | apply below_alloc | apply pw_below_drewN | apply below_drew1 | refine below_set ?_ (IsS53.ge HI0.out) | refine below_set ?_ GE185.out) | exact HB.out)); rintro e w9 ⟨rfl, hi, hb, hk⟩; refine ⟨_, rfl, ?_⟩; replace BK185 := zk hk BK185 NB185_0; replace HK := zt HK hk; replace HB := za (hb); replace HI0 := za (hi); (try clear hb); (try clear hb2); (try clear hk); (try clear hi)) | ((with_reducible refine gate_callee (f := 12) rfl ?_); refine zL (some 14) Try.func12 #[.pointer (some ⟨g, 0, none⟩), .int .i64 (wrap64 (1 + t186))] ?_; (with_reducible refine (awardingbodymark_Dice_Next.calls k g s0_0 t191 (wrap64 (1 + t186)) t192 t193 w0 _ ?side1 ?side2 A5.out).mono ?_); (case side1 => repeat (first | (with_reducible first | exact HI0.out | apply IsS53.alloc | apply IsS53.drewN | apply IsS53.drew | apply IsS53.set_1 | refine IsS53.far ?_ NB0_185.out _) | exact HI0.out)); (case side2 => repeat (first | (with_reducible first | exact HB.out | apply below_alloc | apply pw_below_drewN | apply below_drew1 | refine below_set ?_ (IsS53.ge HI0.out) | refine below_set ?_ GE185.out) | exact HB.out)); rintro e w10 ⟨rfl, hi, hb, hk⟩; refine ⟨_, rfl, ?_⟩; replace BK185 := zk hk BK185 NB185_0; replace HK := zt HK hk; replace HB := za (hb); replace HI0 := za (hi); (try clear hb); (try clear hb2); (try clear hk); (try clear hi); have hnb11 := NB185_0.out; have hnc11 := NB0_185.out; obtain ⟨hcz12_0, hcz12_1, hcz12_2, hcz12_3, hfz12_0, hfz12_1, hfz12_2, hfz12_3⟩ := z4 BK185))
 refine bodyPost_ret (results_cell_row rfl _ _ gb185 24 #[.int .i64 t188, .int .i64 t190, .int .i64 (wrap64 (1 + t186)), .int .i64 (wrap64 (1 + t192))] (0, 0) _ rfl (by (with_reducible repeat (first | refine blk_drewN ?_ _ | refine blk_drew ?_ | refine blk_alloc ?_ _)); refine blk_put (cs := #[.int .i64 t188, .int .i64 t190, .int .i64 (wrap64 (1 + t186)), .int .i64 0]) ?_ 3 _ rfl; (with_reducible repeat (first | refine blk_drewN ?_ _ | refine blk_drew ?_ | refine blk_alloc ?_ _)); refine blk_put (cs := #[.int .i64 t188, .int .i64 t190, .int .i64 0, .int .i64 0]) ?_ 2 _ rfl; (with_reducible repeat (first | refine blk_drewN ?_ _ | refine blk_drew ?_ | refine blk_alloc ?_ _)); refine blk_put (cs := #[.int .i64 t188, .int .i64 0, .int .i64 0, .int .i64 0]) ?_ 1 _ rfl; (with_reducible repeat (first | refine blk_drewN ?_ _ | refine blk_drew ?_ | refine blk_alloc ?_ _)); refine blk_put (cs := #[.int .i64 0, .int .i64 0, .int .i64 0, .int .i64 0]) ?_ 0 _ rfl; (with_reducible repeat (first | refine blk_drewN ?_ _ | refine blk_drew ?_ | refine blk_alloc ?_ _)); exact BK185.out) Try.underlying24 rfl (by kernel_rfl)) rfl ?_
 exact ⟨zf, by repeat (first | (with_reducible first | exact HI0.out | apply IsS53.alloc | apply IsS53.drewN | apply IsS53.drew | apply IsS53.set_1 | refine IsS53.far ?_ NB0_185.out _) | exact HI0.out), zm HB, by repeat (first | (with_reducible first | exact HK.out | apply KeepBut.set_ | apply keep_drewN | apply keep_drew | apply keep_alloc | refine keep_far ?_ GW185.out _) | exact HK.out)⟩

/-! ### awardingbodymark_Dice_Pick: function 13 -/
def awardingbodymark_Dice_Pick.f (k : Nat) (s0_0 : List Int) (s0_1 : Int) (l1 : List Int) : Option (Int × Int) := (awardingbodymark_Dice_Next.f k s0_0 s0_1 (l1.length : Int)).bind fun bt194 => (if 0 ≤ bt194.1 then (if bt194.1 < (l1.length : Int) then (some (rd l1 bt194.1, bt194.2)) else (none)) else (none))
theorem awardingbodymark_Dice_Pick.mono : ∀ a0 a1 a2 k, LeO (awardingbodymark_Dice_Pick.f k a0 a1 a2) (awardingbodymark_Dice_Pick.f (k + 1) a0 a1 a2) := by
  intro a0 a1 a2 k
  unfold awardingbodymark_Dice_Pick.f
  repeat' first
      | (with_reducible exact awardingbodymark_Dice_Next.mono _ _ _ _)
      | (with_reducible exact LeO.refl _)
      | (with_reducible exact LeO.none _)
      | (with_reducible refine LeO.ite ?_ ?_)
      | (with_reducible refine LeO.bind ?_ (fun _ => ?_))
      | exact awardingbodymark_Dice_Next.mono _ _ _ _
      | exact LeO.none _
      | refine LeO.ite ?_ ?_
      | refine LeO.bind ?_ (fun _ => ?_)
set_option maxHeartbeats 8000000 in
set_option maxRecDepth 100000 in
theorem awardingbodymark_Dice_Pick.calls (k : Nat) (g : Nat) (s0_0 : List Int) (s0_1 : Int) (A1 : Option Addr) (c1 : Nat) (l1 : List Int) (r1 : Int) (r2 : Int) (w0 w : World) (hI : IsS53 w0 w g s0_0 s0_1) (hB : Below w0.heap.size w0 w) (hr1 : Kd.C (Kd.int .i64) w A1 l1.length l1) (hc1 : l1.length ≤ c1) (hf1 : ∀ ad, A1 = some ad → 0 < l1.length → ad.block ≠ g) (h : awardingbodymark_Dice_Pick.f k s0_0 s0_1 l1 = some (r1, r2)) :
    Calls Try.prog 13 #[.pointer (some ⟨g, 0, none⟩), .slice A1 l1.length c1] w fun e w' => e = .returned (.int .i64 r1) ∧ IsS53 w0 w' g s0_0 r2 ∧ Below w0.heap.size w0 w' ∧ KeepBut w w' g none := by
 have HR1 := za hr1
 have HC1 := za hc1
 clear hr1 hc1
 have HI0 := za hI
 have HK := za (KeepBut.refl w g none)
 have HL := za hB.size
 clear hI
 have HW0 := za hB.size
 have HB := za hB
 clear hB
 have H : ((awardingbodymark_Dice_Next.f k s0_0 s0_1 (l1.length : Int)).bind fun bt194 => (if 0 ≤ bt194.1 then (if bt194.1 < (l1.length : Int) then (some (rd l1 bt194.1, bt194.2)) else (none)) else (none))) = some (r1, r2) := h
 clear h
 replace H := Option.bind_eq_some_iff.mp H
 obtain ⟨⟨t194, t195⟩, A30, H⟩ := H
 replace H : (if 0 ≤ t194 then (if t194 < (l1.length : Int) then (some (rd l1 t194, t195)) else (none)) else (none)) = some (r1, r2) := H
 have A3 := za A30
 clear A30
 by_cases c4 : 0 ≤ t194
 ·rw [if_pos c4] at H
  have c4b0 : decide (0 ≤ t194) = true := decide_eq_true c4
  clear c4
  by_cases c5 : t194 < (l1.length : Int)
  ·rw [if_pos c5] at H
   have c5b0 : decide (t194 < (l1.length : Int)) = true := decide_eq_true c5
   clear c5
   simp only [Option.some.injEq, Prod.mk.injEq] at H
   obtain ⟨rfl, rfl⟩ := H
   go_enter Try.func13, Try.ntmps13
   go_wp2_with (first | ((with_reducible refine gate_callee (f := 12) rfl ?_); refine zL (some 9) Try.func12 #[.pointer (some ⟨g, 0, none⟩), .int .i64 (l1.length : Int)] ?_; (with_reducible refine (awardingbodymark_Dice_Next.calls k g s0_0 s0_1 (l1.length : Int) t194 t195 w0 _ ?side1 ?side2 A3.out).mono ?_); (case side1 => repeat (first | (with_reducible first | exact HI0.out | apply IsS53.alloc | apply IsS53.drewN | apply IsS53.drew | apply IsS53.set_1) | exact HI0.out)); (case side2 => repeat (first | (with_reducible first | exact HB.out | apply below_alloc | apply pw_below_drewN | apply below_drew1 | refine below_set ?_ (IsS53.ge HI0.out)) | exact HB.out)); rintro e w6 ⟨rfl, hi, hb, hk⟩; refine ⟨_, rfl, ?_⟩; replace HK := zt HK hk; replace HB := za (hb); replace HI0 := za (hi); (try clear hb); (try clear hb2); (try clear hk); (try clear hi); have p196 : 0 ≤ (t194 : Int) := of_decide_eq_true (by first | (with_reducible assumption) | assumption); have q196 : t194 < (l1.length : Int) := of_decide_eq_true (by first | (with_reducible assumption) | assumption); obtain ⟨ad196, e196, hx196_0⟩ := Kd.at_int HR1.out t194 p196 q196; cases e196; replace hx196_0 := keep_cell HK.out hx196_0 (by first | (rw [add_block]; exact hf1 _ rfl (by omega)) | exact hf1 _ rfl (by omega) | exact hf1 ad196 rfl (by omega)); replace p196 := eq_true p196; replace q196 := eq_true q196))
   go_ret
   exact ⟨zf, by repeat (first | (with_reducible first | exact HI0.out | apply IsS53.alloc | apply IsS53.drewN | apply IsS53.drew | apply IsS53.set_1) | exact HI0.out), zm HB, by repeat (first | (with_reducible first | exact HK.out | apply KeepBut.set_ | apply keep_drewN | apply keep_drew | apply keep_alloc) | exact HK.out)⟩
  ·rw [if_neg c5] at H
   exact absurd H (by simp)
 ·rw [if_neg c4] at H
  exact absurd H (by simp)

/-! ### awardingbodyref27_Check: function 15 -/
def awardingbodyref27_Check.f (a0_0 : Int) (a0_1 : Int) (a0_2 : Int) (a0_3 : Int) : Option (Int) := if a0_0 < 0 then (some 2) else (if a0_0 > 200 then (some 2) else (if a0_1 < 0 then (some 2) else (if a0_1 > 200 then (some 2) else (if a0_2 < 1 then (some 2) else (if a0_2 > 20 then (some 2) else (if a0_3 < 1 then (some 2) else (if a0_3 > a0_2 then (some 2) else (some 0))))))))
set_option maxHeartbeats 8000000 in
set_option maxRecDepth 100000 in
theorem awardingbodyref27_Check.calls (a0_0 : Int) (a0_1 : Int) (a0_2 : Int) (a0_3 : Int) (r : Int) (w : World) (h : awardingbodyref27_Check.f a0_0 a0_1 a0_2 a0_3 = some r) :
    Calls Try.prog 15 #[.agg #[.int .i64 a0_0, .int .i64 a0_1, .int .i64 a0_2, .int .i64 a0_3]] w fun e w' => e = .returned (.int .i64 r) ∧ Below w.heap.size w w' := by
 have hu24 := Try.underlying24
 have HB := za (Below.refl w.heap.size w)
 have H : (if a0_0 < 0 then (some 2) else (if a0_0 > 200 then (some 2) else (if a0_1 < 0 then (some 2) else (if a0_1 > 200 then (some 2) else (if a0_2 < 1 then (some 2) else (if a0_2 > 20 then (some 2) else (if a0_3 < 1 then (some 2) else (if a0_3 > a0_2 then (some 2) else (some 0))))))))) = some r := h
 clear h
 by_cases c2 : a0_0 < 0
 ·rw [if_pos c2] at H
  have c2b0 : decide (a0_0 < 0) = true := decide_eq_true c2
  clear c2
  obtain rfl := Option.some.inj H
  go_enter Try.func15, Try.ntmps15
  go_wp2_with (first | ((with_reducible refine gate_dst (N := 1) rfl ?_); refine zE 1 #[.int .i64 a0_0, .int .i64 a0_1, .int .i64 a0_2, .int .i64 a0_3] 24 ?_; intro gb197 hg w3 hbox hb; have BK197 := za (hbox); have GW197 := zg HB hg; have GE197 := zg HB hg; replace HB := zs HB hb; clear hb hbox hg; obtain ⟨hcz4_0, hcz4_1, hcz4_2, hcz4_3, hfz4_0, hfz4_1, hfz4_2, hfz4_3⟩ := z4 BK197))
  go_ret
  exact ⟨zf, zm HB⟩
 ·rw [if_neg c2] at H
  have c2b0 : decide (a0_0 < 0) = false := decide_eq_false c2
  clear c2
  by_cases c5 : a0_0 > 200
  ·rw [if_pos c5] at H
   have c5b0 : decide (200 < a0_0) = true := decide_eq_true c5
   clear c5
   obtain rfl := Option.some.inj H
   go_enter Try.func15, Try.ntmps15
   go_wp2_with (first | ((with_reducible refine gate_dst (N := 1) rfl ?_); refine zE 1 #[.int .i64 a0_0, .int .i64 a0_1, .int .i64 a0_2, .int .i64 a0_3] 24 ?_; intro gb197 hg w6 hbox hb; have BK197 := za (hbox); have GW197 := zg HB hg; have GE197 := zg HB hg; replace HB := zs HB hb; clear hb hbox hg; obtain ⟨hcz7_0, hcz7_1, hcz7_2, hcz7_3, hfz7_0, hfz7_1, hfz7_2, hfz7_3⟩ := z4 BK197))
   go_ret
   exact ⟨zf, zm HB⟩
  ·rw [if_neg c5] at H
   have c5b0 : decide (200 < a0_0) = false := decide_eq_false c5
   clear c5
   by_cases c8 : a0_1 < 0
   ·rw [if_pos c8] at H
    have c8b0 : decide (a0_1 < 0) = true := decide_eq_true c8
    clear c8
    obtain rfl := Option.some.inj H
    go_enter Try.func15, Try.ntmps15
    go_wp2_with (first | ((with_reducible refine gate_dst (N := 1) rfl ?_); refine zE 1 #[.int .i64 a0_0, .int .i64 a0_1, .int .i64 a0_2, .int .i64 a0_3] 24 ?_; intro gb197 hg w9 hbox hb; have BK197 := za (hbox); have GW197 := zg HB hg; have GE197 := zg HB hg; replace HB := zs HB hb; clear hb hbox hg; obtain ⟨hcz10_0, hcz10_1, hcz10_2, hcz10_3, hfz10_0, hfz10_1, hfz10_2, hfz10_3⟩ := z4 BK197))
    go_ret
    exact ⟨zf, zm HB⟩
   ·rw [if_neg c8] at H
    have c8b0 : decide (a0_1 < 0) = false := decide_eq_false c8
    clear c8
    by_cases c11 : a0_1 > 200
    ·rw [if_pos c11] at H
     have c11b0 : decide (200 < a0_1) = true := decide_eq_true c11
     clear c11
     obtain rfl := Option.some.inj H
     go_enter Try.func15, Try.ntmps15
     go_wp2_with (first | ((with_reducible refine gate_dst (N := 1) rfl ?_); refine zE 1 #[.int .i64 a0_0, .int .i64 a0_1, .int .i64 a0_2, .int .i64 a0_3] 24 ?_; intro gb197 hg w12 hbox hb; have BK197 := za (hbox); have GW197 := zg HB hg; have GE197 := zg HB hg; replace HB := zs HB hb; clear hb hbox hg; obtain ⟨hcz13_0, hcz13_1, hcz13_2, hcz13_3, hfz13_0, hfz13_1, hfz13_2, hfz13_3⟩ := z4 BK197))
     go_ret
     exact ⟨zf, zm HB⟩
    ·rw [if_neg c11] at H
     have c11b0 : decide (200 < a0_1) = false := decide_eq_false c11
     clear c11
     by_cases c14 : a0_2 < 1
     ·rw [if_pos c14] at H
      have c14b0 : decide (a0_2 < 1) = true := decide_eq_true c14
      clear c14
      obtain rfl := Option.some.inj H
      go_enter Try.func15, Try.ntmps15
      go_wp2_with (first | ((with_reducible refine gate_dst (N := 1) rfl ?_); refine zE 1 #[.int .i64 a0_0, .int .i64 a0_1, .int .i64 a0_2, .int .i64 a0_3] 24 ?_; intro gb197 hg w15 hbox hb; have BK197 := za (hbox); have GW197 := zg HB hg; have GE197 := zg HB hg; replace HB := zs HB hb; clear hb hbox hg; obtain ⟨hcz16_0, hcz16_1, hcz16_2, hcz16_3, hfz16_0, hfz16_1, hfz16_2, hfz16_3⟩ := z4 BK197))
      go_ret
      exact ⟨zf, zm HB⟩
     ·rw [if_neg c14] at H
      have c14b0 : decide (a0_2 < 1) = false := decide_eq_false c14
      clear c14
      by_cases c17 : a0_2 > 20
      ·rw [if_pos c17] at H
       have c17b0 : decide (20 < a0_2) = true := decide_eq_true c17
       clear c17
       obtain rfl := Option.some.inj H
       go_enter Try.func15, Try.ntmps15
       go_wp2_with (first | ((with_reducible refine gate_dst (N := 1) rfl ?_); refine zE 1 #[.int .i64 a0_0, .int .i64 a0_1, .int .i64 a0_2, .int .i64 a0_3] 24 ?_; intro gb197 hg w18 hbox hb; have BK197 := za (hbox); have GW197 := zg HB hg; have GE197 := zg HB hg; replace HB := zs HB hb; clear hb hbox hg; obtain ⟨hcz19_0, hcz19_1, hcz19_2, hcz19_3, hfz19_0, hfz19_1, hfz19_2, hfz19_3⟩ := z4 BK197))
       go_ret
       exact ⟨zf, zm HB⟩
      ·rw [if_neg c17] at H
       have c17b0 : decide (20 < a0_2) = false := decide_eq_false c17
       clear c17
       by_cases c20 : a0_3 < 1
       ·rw [if_pos c20] at H
        have c20b0 : decide (a0_3 < 1) = true := decide_eq_true c20
        clear c20
        obtain rfl := Option.some.inj H
        go_enter Try.func15, Try.ntmps15
        go_wp2_with (first | ((with_reducible refine gate_dst (N := 1) rfl ?_); refine zE 1 #[.int .i64 a0_0, .int .i64 a0_1, .int .i64 a0_2, .int .i64 a0_3] 24 ?_; intro gb197 hg w21 hbox hb; have BK197 := za (hbox); have GW197 := zg HB hg; have GE197 := zg HB hg; replace HB := zs HB hb; clear hb hbox hg; obtain ⟨hcz22_0, hcz22_1, hcz22_2, hcz22_3, hfz22_0, hfz22_1, hfz22_2, hfz22_3⟩ := z4 BK197))
        go_ret
        exact ⟨zf, zm HB⟩
       ·rw [if_neg c20] at H
        have c20b0 : decide (a0_3 < 1) = false := decide_eq_false c20
        clear c20
        by_cases c23 : a0_3 > a0_2
        ·rw [if_pos c23] at H
         have c23b0 : decide (a0_2 < a0_3) = true := decide_eq_true c23
         clear c23
         obtain rfl := Option.some.inj H
         go_enter Try.func15, Try.ntmps15
         go_wp2_with (first | ((with_reducible refine gate_dst (N := 1) rfl ?_); refine zE 1 #[.int .i64 a0_0, .int .i64 a0_1, .int .i64 a0_2, .int .i64 a0_3] 24 ?_; intro gb197 hg w24 hbox hb; have BK197 := za (hbox); have GW197 := zg HB hg; have GE197 := zg HB hg; replace HB := zs HB hb; clear hb hbox hg; obtain ⟨hcz25_0, hcz25_1, hcz25_2, hcz25_3, hfz25_0, hfz25_1, hfz25_2, hfz25_3⟩ := z4 BK197))
         go_ret
         exact ⟨zf, zm HB⟩
        ·rw [if_neg c23] at H
         have c23b0 : decide (a0_2 < a0_3) = false := decide_eq_false c23
         clear c23
         obtain rfl := Option.some.inj H
         go_enter Try.func15, Try.ntmps15
         go_wp2_with (first | ((with_reducible refine gate_dst (N := 1) rfl ?_); refine zE 1 #[.int .i64 a0_0, .int .i64 a0_1, .int .i64 a0_2, .int .i64 a0_3] 24 ?_; intro gb197 hg w26 hbox hb; have BK197 := za (hbox); have GW197 := zg HB hg; have GE197 := zg HB hg; replace HB := zs HB hb; clear hb hbox hg; obtain ⟨hcz27_0, hcz27_1, hcz27_2, hcz27_3, hfz27_0, hfz27_1, hfz27_2, hfz27_3⟩ := z4 BK197))
         go_ret
         exact ⟨zf, zm HB⟩

/-! ### awardingbodyref27_size: function 29 -/
def awardingbodyref27_size.f (a0 : Int) : Option (Int) := if a0 < 0 then (some (wrap64 (-a0))) else (some a0)
set_option maxHeartbeats 8000000 in
set_option maxRecDepth 100000 in
theorem awardingbodyref27_size.calls (a0 : Int) (r : Int) (w : World) (h : awardingbodyref27_size.f a0 = some r) :
    Calls Try.prog 29 #[.int .i64 a0] w fun e w' => e = .returned (.int .i64 r) ∧ Drawn0 w w' := by
 have H : (if a0 < 0 then (some (wrap64 (-a0))) else (some a0)) = some r := h
 clear h
 by_cases c2 : a0 < 0
 ·rw [if_pos c2] at H
  have c2b0 : decide (a0 < 0) = true := decide_eq_true c2
  clear c2
  obtain rfl := Option.some.inj H
  go_enter Try.func29, Try.ntmps29
  go_wp2
  go_ret
  exact ⟨by first | rfl | (simp; done) | (simp [*]; done), by repeat (first | exact Drawn0.refl _ | apply Drawn0.step)⟩
 ·rw [if_neg c2] at H
  have c2b0 : decide (a0 < 0) = false := decide_eq_false c2
  clear c2
  obtain rfl := Option.some.inj H
  go_enter Try.func29, Try.ntmps29
  go_wp2
  go_ret
  exact ⟨by first | rfl | (simp; done) | (simp [*]; done), by repeat (first | exact Drawn0.refl _ | apply Drawn0.step)⟩

/-! ### awardingbodyref27_Good: function 17 -/
mutual
def awardingbodyref27_Good.j0 : Nat → List Int → List Int → Bool → Int → Int → Int → Int → Option (Bool)
  | 0, _, _, _, _, _, _, _ => none
  | k + 1, x1, x2, x24, x199000, x199001, x199002, x199003 => if x24 = true then (some false) else (awardingbodyref27_Good.l0 k x1 x2 0 0 x199000 x199001 x199002 x199003)
def awardingbodyref27_Good.l0 : Nat → List Int → List Int → Int → Int → Int → Int → Int → Int → Option (Bool)
  | 0, _, _, _, _, _, _, _, _ => none
  | k + 1, x1, x2, x7, x8, x199000, x199001, x199002, x199003 => if x8 < (x1.length : Int) then (if 0 ≤ x8 then (if (rd x1 x8) > 200 then (awardingbodyref27_Good.j2 k x1 x2 x7 x8 true x199000 x199001 x199002 x199003) else (if x8 < (x2.length : Int) then (awardingbodyref27_Good.j2 k x1 x2 x7 x8 (decide ((rd x2 x8) > 200)) x199000 x199001 x199002 x199003) else (none))) else (none)) else ((awardingbodyref27_size.f x7).bind fun t200 => (some (decide (t200 ≤ x199001))))
def awardingbodyref27_Good.j2 : Nat → List Int → List Int → Int → Int → Bool → Int → Int → Int → Int → Option (Bool)
  | 0, _, _, _, _, _, _, _, _, _ => none
  | k + 1, x1, x2, x7, x8, x42, x199000, x199001, x199002, x199003 => if x42 = true then (some false) else (if 0 ≤ x8 then (if x8 < (x1.length : Int) then (if x8 < (x2.length : Int) then ((awardingbodyref27_size.f (wrap64 ((mx (rd x1 x8) 0) - (mx (rd x2 x8) 0)))).bind fun t205 => (if t205 > x199000 then (some false) else (awardingbodyref27_Good.l0 k x1 x2 (wrap64 (x7 + (wrap64 ((mx (rd x1 x8) 0) - (mx (rd x2 x8) 0))))) (wrap64 (x8 + 1)) x199000 x199001 x199002 x199003))) else (none)) else (none)) else (none))
end
def awardingbodyref27_Good.f (k : Nat) (a0_0 : Int) (a0_1 : Int) (a0_2 : Int) (a0_3 : Int) (l1 : List Int) (l2 : List Int) : Option (Bool) := (awardingbodyref27_Check.f a0_0 a0_1 a0_2 a0_3).bind fun t199 => (if t199 = 0 then (if (l1.length : Int) = (l2.length : Int) then (awardingbodyref27_Good.j0 k l1 l2 (decide ((l1.length : Int) > 24)) a0_0 a0_1 a0_2 a0_3) else (awardingbodyref27_Good.j0 k l1 l2 true a0_0 a0_1 a0_2 a0_3)) else (awardingbodyref27_Good.j0 k l1 l2 true a0_0 a0_1 a0_2 a0_3))
theorem awardingbodyref27_Good.mono_l : ∀ k, (∀ y0 y1 y2 y3 y4 y5 y6, LeO (awardingbodyref27_Good.j0 k y0 y1 y2 y3 y4 y5 y6) (awardingbodyref27_Good.j0 (k + 1) y0 y1 y2 y3 y4 y5 y6)) ∧ (∀ y0 y1 y2 y3 y4 y5 y6 y7, LeO (awardingbodyref27_Good.l0 k y0 y1 y2 y3 y4 y5 y6 y7) (awardingbodyref27_Good.l0 (k + 1) y0 y1 y2 y3 y4 y5 y6 y7)) ∧ (∀ y0 y1 y2 y3 y4 y5 y6 y7 y8, LeO (awardingbodyref27_Good.j2 k y0 y1 y2 y3 y4 y5 y6 y7 y8) (awardingbodyref27_Good.j2 (k + 1) y0 y1 y2 y3 y4 y5 y6 y7 y8))
  | 0 => ⟨fun _ _ _ _ _ _ _ r h => by simp [awardingbodyref27_Good.j0] at h, fun _ _ _ _ _ _ _ _ r h => by simp [awardingbodyref27_Good.l0] at h, fun _ _ _ _ _ _ _ _ _ r h => by simp [awardingbodyref27_Good.j2] at h⟩
  | k + 1 => by
    obtain ⟨ih0, ih1, ih2⟩ := awardingbodyref27_Good.mono_l k
    refine ⟨?_, ?_, ?_⟩
    · intro y0 y1 y2 y3 y4 y5 y6
      unfold awardingbodyref27_Good.j0
      repeat' first
      | (with_reducible exact ih0 _ _ _ _ _ _ _)
      | (with_reducible exact ih1 _ _ _ _ _ _ _ _)
      | (with_reducible exact ih2 _ _ _ _ _ _ _ _ _)
      | (with_reducible exact LeO.refl _)
      | (with_reducible exact LeO.none _)
      | (with_reducible refine LeO.ite ?_ ?_)
      | (with_reducible refine LeO.bind ?_ (fun _ => ?_))
      | exact ih0 _ _ _ _ _ _ _
      | exact ih1 _ _ _ _ _ _ _ _
      | exact ih2 _ _ _ _ _ _ _ _ _
      | exact LeO.none _
      | refine LeO.ite ?_ ?_
      | refine LeO.bind ?_ (fun _ => ?_)
    · intro y0 y1 y2 y3 y4 y5 y6 y7
      unfold awardingbodyref27_Good.l0
      repeat' first
      | (with_reducible exact ih0 _ _ _ _ _ _ _)
      | (with_reducible exact ih1 _ _ _ _ _ _ _ _)
      | (with_reducible exact ih2 _ _ _ _ _ _ _ _ _)
      | (with_reducible exact LeO.refl _)
      | (with_reducible exact LeO.none _)
      | (with_reducible refine LeO.ite ?_ ?_)
      | (with_reducible refine LeO.bind ?_ (fun _ => ?_))
      | exact ih0 _ _ _ _ _ _ _
      | exact ih1 _ _ _ _ _ _ _ _
      | exact ih2 _ _ _ _ _ _ _ _ _
      | exact LeO.none _
      | refine LeO.ite ?_ ?_
      | refine LeO.bind ?_ (fun _ => ?_)
    · intro y0 y1 y2 y3 y4 y5 y6 y7 y8
      unfold awardingbodyref27_Good.j2
      repeat' first
      | (with_reducible exact ih0 _ _ _ _ _ _ _)
      | (with_reducible exact ih1 _ _ _ _ _ _ _ _)
      | (with_reducible exact ih2 _ _ _ _ _ _ _ _ _)
      | (with_reducible exact LeO.refl _)
      | (with_reducible exact LeO.none _)
      | (with_reducible refine LeO.ite ?_ ?_)
      | (with_reducible refine LeO.bind ?_ (fun _ => ?_))
      | exact ih0 _ _ _ _ _ _ _
      | exact ih1 _ _ _ _ _ _ _ _
      | exact ih2 _ _ _ _ _ _ _ _ _
      | exact LeO.none _
      | refine LeO.ite ?_ ?_
      | refine LeO.bind ?_ (fun _ => ?_)
theorem awardingbodyref27_Good.mono : ∀ a0 a1 a2 a3 a4 a5 k, LeO (awardingbodyref27_Good.f k a0 a1 a2 a3 a4 a5) (awardingbodyref27_Good.f (k + 1) a0 a1 a2 a3 a4 a5) := by
  intro a0 a1 a2 a3 a4 a5 k
  obtain ⟨ih0, ih1, ih2⟩ := awardingbodyref27_Good.mono_l k
  unfold awardingbodyref27_Good.f
  repeat' first
      | (with_reducible exact ih0 _ _ _ _ _ _ _)
      | (with_reducible exact ih1 _ _ _ _ _ _ _ _)
      | (with_reducible exact ih2 _ _ _ _ _ _ _ _ _)
      | (with_reducible exact LeO.refl _)
      | (with_reducible exact LeO.none _)
      | (with_reducible refine LeO.ite ?_ ?_)
      | (with_reducible refine LeO.bind ?_ (fun _ => ?_))
      | exact ih0 _ _ _ _ _ _ _
      | exact ih1 _ _ _ _ _ _ _ _
      | exact ih2 _ _ _ _ _ _ _ _ _
      | exact LeO.none _
      | refine LeO.ite ?_ ?_
      | refine LeO.bind ?_ (fun _ => ?_)
set_option maxHeartbeats 8000000 in
set_option maxRecDepth 100000 in
theorem awardingbodyref27_Good.calls (k : Nat) (a0_0 : Int) (a0_1 : Int) (a0_2 : Int) (a0_3 : Int) (A1 : Option Addr) (c1 : Nat) (l1 : List Int) (A2 : Option Addr) (c2 : Nat) (l2 : List Int) (r : Bool) (w : World) (hr1 : Kd.C (Kd.int .i64) w A1 l1.length l1) (hc1 : l1.length ≤ c1) (hr2 : Kd.C (Kd.int .i64) w A2 l2.length l2) (hc2 : l2.length ≤ c2) (h : awardingbodyref27_Good.f k a0_0 a0_1 a0_2 a0_3 l1 l2 = some r) :
    Calls Try.prog 17 #[.agg #[.int .i64 a0_0, .int .i64 a0_1, .int .i64 a0_2, .int .i64 a0_3], .slice A1 l1.length c1, .slice A2 l2.length c2] w fun e w' => e = .returned (.bool r) ∧ Below w.heap.size w w' := by
 have hu24 := Try.underlying24
 have HR1 := za hr1
 have HC1 := za hc1
 clear hr1 hc1
 have HR2 := za hr2
 have HC2 := za hc2
 clear hr2 hc2
 have HB := za (Below.refl w.heap.size w)
 have H : ((awardingbodyref27_Check.f a0_0 a0_1 a0_2 a0_3).bind fun t199 => (if t199 = 0 then (if (l1.length : Int) = (l2.length : Int) then (awardingbodyref27_Good.j0 k l1 l2 (decide ((l1.length : Int) > 24)) a0_0 a0_1 a0_2 a0_3) else (awardingbodyref27_Good.j0 k l1 l2 true a0_0 a0_1 a0_2 a0_3)) else (awardingbodyref27_Good.j0 k l1 l2 true a0_0 a0_1 a0_2 a0_3))) = some r := h
 clear h
 have HC4 := za H
 clear H
 go_enter Try.func17, Try.ntmps17
 go_upto_region 1 with (first | ((with_reducible refine gate_dst (N := 3) rfl ?_); (try (refine gate_guard (by rfl) ?_; dsimp only)); refine zE 3 #[.int .i64 a0_0, .int .i64 a0_1, .int .i64 a0_2, .int .i64 a0_3] 24 ?_; intro gb198 hg w5 hbox hb; have BK198 := za (hbox); have GW198 := zg HB hg; have GE198 := zg HB hg; replace HB := zs HB hb; clear hb hbox hg))
 repeat (go_quiet (first | ((with_reducible refine gate_dst (N := 3) rfl ?_); (try (refine gate_guard (by rfl) ?_; dsimp only)); refine zE 3 #[.int .i64 a0_0, .int .i64 a0_1, .int .i64 a0_2, .int .i64 a0_3] 24 ?_; intro gb198 hg w5 hbox hb; have BK198 := za (hbox); have GW198 := zg HB hg; have GE198 := zg HB hg; replace HB := zs HB hb; clear hb hbox hg)); go_upto_region 1 with (first | ((with_reducible refine gate_dst (N := 3) rfl ?_); (try (refine gate_guard (by rfl) ?_; dsimp only)); refine zE 3 #[.int .i64 a0_0, .int .i64 a0_1, .int .i64 a0_2, .int .i64 a0_3] 24 ?_; intro gb198 hg w5 hbox hb; have BK198 := za (hbox); have GW198 := zg HB hg; have GE198 := zg HB hg; replace HB := zs HB hb; clear hb hbox hg)))
 (try simp only [Act.put, List.setIfInBounds_toArray, List.set_cons_zero, List.set_cons_succ])
 go_cut [24] (fun v24 wc => ∃ (kq : Nat) (x24_3 : Bool), v24 = .bool x24_3 ∧ Aside0 (awardingbodyref27_Good.j0 kq l1 l2 x24_3 a0_0 a0_1 a0_2 a0_3 = some r) ∧ Aside0 (kq ≤ k) ∧ Aside0 (wc.heap[gb198]? = some (.cells #[.int .i64 a0_0, .int .i64 a0_1, .int .i64 a0_2, .int .i64 a0_3] 24 (0, 0))) ∧ Aside0 (Below w.heap.size w wc))
 case first =>
  have H := HC4.out
  clear HC4
  replace H := Option.bind_eq_some_iff.mp H
  obtain ⟨t199, A60, H⟩ := H
  replace H : (if t199 = 0 then (if (l1.length : Int) = (l2.length : Int) then (awardingbodyref27_Good.j0 k l1 l2 (decide ((l1.length : Int) > 24)) a0_0 a0_1 a0_2 a0_3) else (awardingbodyref27_Good.j0 k l1 l2 true a0_0 a0_1 a0_2 a0_3)) else (awardingbodyref27_Good.j0 k l1 l2 true a0_0 a0_1 a0_2 a0_3)) = some r := H
  have A6 := za A60
  clear A60
  by_cases c7 : t199 = 0
  ·rw [if_pos c7] at H
   have c7b0 : (t199 == 0) = true := beq_iff_eq.mpr c7
   have c7b1 : (t199 != 0) = false := bne_eq_false_iff_eq.mpr c7
   clear c7
   (first | rw [c7b0] | (simp only [i64_w, i32_w]; rw [c7b0]) | skip)
   by_cases c8 : (l1.length : Int) = (l2.length : Int)
   ·rw [if_pos c8] at H
    have c8b0 : ((l1.length : Int) == (l2.length : Int)) = true := beq_iff_eq.mpr c8
    have c8b1 : ((l1.length : Int) != (l2.length : Int)) = false := bne_eq_false_iff_eq.mpr c8
    have c8b2 : (l1.length == l2.length) = true := by first | simpa using c8 | (simp at c8 ⊢; omega)
    clear c8
    have H' := za H
    clear H
    obtain ⟨hcz9_0, hcz9_1, hcz9_2, hcz9_3, hfz9_0, hfz9_1, hfz9_2, hfz9_3⟩ := z4 BK198
    go_wp2_with (first | (go_at_call 15; (with_reducible refine (awardingbodyref27_Check.calls a0_0 a0_1 a0_2 a0_3 t199 _ A6.out).mono ?_); rintro e w10 ⟨rfl, hb⟩; replace BK198 := zb BK198 hb; replace HB := zs HB hb; (try clear hb); (try clear hb2); (try clear hk); (try clear hi)))
    repeat (go_quiet (first | (go_at_call 15; (with_reducible refine (awardingbodyref27_Check.calls a0_0 a0_1 a0_2 a0_3 t199 _ A6.out).mono ?_); rintro e w10 ⟨rfl, hb⟩; replace BK198 := zb BK198 hb; replace HB := zs HB hb; (try clear hb); (try clear hb2); (try clear hk); (try clear hi))); try go_wp2_with (first | (go_at_call 15; (with_reducible refine (awardingbodyref27_Check.calls a0_0 a0_1 a0_2 a0_3 t199 _ A6.out).mono ?_); rintro e w10 ⟨rfl, hb⟩; replace BK198 := zb BK198 hb; replace HB := zs HB hb; (try clear hb); (try clear hb2); (try clear hk); (try clear hi))))
    go_meet
    case rel => exact ⟨_, (decide ((l1.length : Int) > 24)), (by first | rfl | (simp; done) | (simp [*]; done)), H', ⟨by first | omega | exact Nat.le_refl _⟩, ⟨by (with_reducible repeat (first | refine blk_drewN ?_ _ | refine blk_drew ?_ | refine blk_alloc ?_ _)); exact BK198.out⟩, ⟨zm HB⟩⟩
   ·rw [if_neg c8] at H
    have c8b0 : ((l1.length : Int) == (l2.length : Int)) = false := beq_eq_false_iff_ne.mpr c8
    have c8b1 : ((l1.length : Int) != (l2.length : Int)) = true := bne_iff_ne.mpr c8
    have c8b2 : (l1.length == l2.length) = false := by first | simpa using c8 | (simp at c8 ⊢; omega)
    have H' := za H
    clear H
    obtain ⟨hcz11_0, hcz11_1, hcz11_2, hcz11_3, hfz11_0, hfz11_1, hfz11_2, hfz11_3⟩ := z4 BK198
    go_wp2_with (first | (go_at_call 15; (with_reducible refine (awardingbodyref27_Check.calls a0_0 a0_1 a0_2 a0_3 t199 _ A6.out).mono ?_); rintro e w12 ⟨rfl, hb⟩; replace BK198 := zb BK198 hb; replace HB := zs HB hb; (try clear hb); (try clear hb2); (try clear hk); (try clear hi)))
    repeat (go_quiet (first | (go_at_call 15; (with_reducible refine (awardingbodyref27_Check.calls a0_0 a0_1 a0_2 a0_3 t199 _ A6.out).mono ?_); rintro e w12 ⟨rfl, hb⟩; replace BK198 := zb BK198 hb; replace HB := zs HB hb; (try clear hb); (try clear hb2); (try clear hk); (try clear hi))); try go_wp2_with (first | (go_at_call 15; (with_reducible refine (awardingbodyref27_Check.calls a0_0 a0_1 a0_2 a0_3 t199 _ A6.out).mono ?_); rintro e w12 ⟨rfl, hb⟩; replace BK198 := zb BK198 hb; replace HB := zs HB hb; (try clear hb); (try clear hb2); (try clear hk); (try clear hi))))
    go_meet
    case rel => exact ⟨_, (true), (by first | rfl | (simp; done) | (simp [*]; done)), H', ⟨by first | omega | exact Nat.le_refl _⟩, ⟨by (with_reducible repeat (first | refine blk_drewN ?_ _ | refine blk_drew ?_ | refine blk_alloc ?_ _)); exact BK198.out⟩, ⟨zm HB⟩⟩
  ·rw [if_neg c7] at H
   have c7b0 : (t199 == 0) = false := beq_eq_false_iff_ne.mpr c7
   have c7b1 : (t199 != 0) = true := bne_iff_ne.mpr c7
   (first | rw [c7b0] | (simp only [i64_w, i32_w]; rw [c7b0]) | skip)
   have H' := za H
   clear H
   obtain ⟨hcz13_0, hcz13_1, hcz13_2, hcz13_3, hfz13_0, hfz13_1, hfz13_2, hfz13_3⟩ := z4 BK198
   go_wp2_with (first | (go_at_call 15; (with_reducible refine (awardingbodyref27_Check.calls a0_0 a0_1 a0_2 a0_3 t199 _ A6.out).mono ?_); rintro e w14 ⟨rfl, hb⟩; replace BK198 := zb BK198 hb; replace HB := zs HB hb; (try clear hb); (try clear hb2); (try clear hk); (try clear hi)))
   repeat (go_quiet (first | (go_at_call 15; (with_reducible refine (awardingbodyref27_Check.calls a0_0 a0_1 a0_2 a0_3 t199 _ A6.out).mono ?_); rintro e w14 ⟨rfl, hb⟩; replace BK198 := zb BK198 hb; replace HB := zs HB hb; (try clear hb); (try clear hb2); (try clear hk); (try clear hi))); try go_wp2_with (first | (go_at_call 15; (with_reducible refine (awardingbodyref27_Check.calls a0_0 a0_1 a0_2 a0_3 t199 _ A6.out).mono ?_); rintro e w14 ⟨rfl, hb⟩; replace BK198 := zb BK198 hb; replace HB := zs HB hb; (try clear hb); (try clear hb2); (try clear hk); (try clear hi))))
   go_meet
   case rel => exact ⟨_, (true), (by first | rfl | (simp; done) | (simp [*]; done)), H', ⟨by first | omega | exact Nat.le_refl _⟩, ⟨by (with_reducible repeat (first | refine blk_drewN ?_ _ | refine blk_drew ?_ | refine blk_alloc ?_ _)); exact BK198.out⟩, ⟨zm HB⟩⟩
 case rest =>
  clear HC4
  try clear c1
  try clear c2
  try clear p2
  try clear c7
  try clear c7b0
  try clear c7b1
  try clear c8
  try clear c8b0
  try clear c8b1
  try clear c8b2
  try clear hcz11_0
  try clear hcz11_1
  try clear hcz11_2
  try clear hcz11_3
  try clear hcz13_0
  try clear hcz13_1
  try clear hcz13_2
  try clear hcz13_3
  try clear hcz9_0
  try clear hcz9_1
  try clear hcz9_2
  try clear hcz9_3
  try clear hfz11_0
  try clear hfz11_1
  try clear hfz11_2
  try clear hfz11_3
  try clear hfz13_0
  try clear hfz13_1
  try clear hfz13_2
  try clear hfz13_3
  try clear hfz9_0
  try clear hfz9_1
  try clear hfz9_2
  try clear hfz9_3
  obtain ⟨kq, x24_3, rfl, HA, HJ3, BK198, HB⟩ := hcut
  cases kq with
  | zero => exact absurd HA.out (by simp [awardingbodyref27_Good.j0])
  | succ kj3 =>
   have H := HA.out
   clear HA
   simp only [awardingbodyref27_Good.j0] at H
   by_cases c15 : x24_3 = true
   ·subst c15
    have H1 : (some false) = some r := by rw [if_pos rfl] at H; exact H
    clear H
    have H := H1
    clear H1
    obtain rfl := Option.some.inj H
    go_wp2
    repeat (go_quiet (fail); try go_wp2)
    go_ret
    exact ⟨zf, zm HB⟩
   ·replace c15 := Bool.eq_false_iff.mpr c15
    subst c15
    have H1 : (awardingbodyref27_Good.l0 kj3 l1 l2 0 0 a0_0 a0_1 a0_2 a0_3) = some r := by rw [if_neg (show ¬ (false = true) by decide)] at H; exact H
    clear H
    have H := H1
    clear H1
    have H' := za H
    clear H
    go_wp2
    repeat (go_quiet (fail); try go_wp2)
    go_loopg [7, 8] kj3 (fun kq v7 v8 w' => ∃ (x7_2 : Int) (x8_2 : Int), v7 = .int .i64 x7_2 ∧ v8 = .int .i64 x8_2 ∧ Aside0 (awardingbodyref27_Good.l0 kq l1 l2 x7_2 x8_2 a0_0 a0_1 a0_2 a0_3 = some r) ∧ Aside0 (kq ≤ kj3) ∧ Aside0 (w'.heap[gb198]? = some (.cells #[.int .i64 a0_0, .int .i64 a0_1, .int .i64 a0_2, .int .i64 a0_3] 24 (0, 0))) ∧ Aside0 (Below w.heap.size w w'))
    case atStart => exact ⟨(0), (0), (by first | rfl | (simp; done) | (simp [*]; done)), (by first | rfl | (simp; done) | (simp [*]; done)), H', ⟨Nat.le_refl _⟩, ⟨by (with_reducible repeat (first | refine blk_drewN ?_ _ | refine blk_drew ?_ | refine blk_alloc ?_ _)); exact BK198.out⟩, ⟨zm HB⟩⟩
    case round =>
     clear H'
     try clear c1
     try clear c2
     try clear p2
     try clear c7
     try clear c7b0
     try clear c7b1
     try clear c8
     try clear c8b0
     try clear c8b1
     try clear c8b2
     try clear c15
     try clear hcz11_0
     try clear hcz11_1
     try clear hcz11_2
     try clear hcz11_3
     try clear hcz13_0
     try clear hcz13_1
     try clear hcz13_2
     try clear hcz13_3
     try clear hcz9_0
     try clear hcz9_1
     try clear hcz9_2
     try clear hcz9_3
     try clear hfz11_0
     try clear hfz11_1
     try clear hfz11_2
     try clear hfz11_3
     try clear hfz13_0
     try clear hfz13_1
     try clear hfz13_2
     try clear hfz13_3
     try clear hfz9_0
     try clear hfz9_1
     try clear hfz9_2
     try clear hfz9_3
     try clear p2
     obtain ⟨x7_2, x8_2, rfl, rfl, HA, HK2, BK198, HB⟩ := hrel
     cases gk with
     | zero => exact absurd HA.out (by simp [awardingbodyref27_Good.l0])
     | succ k2 =>
      have H := HA.out
      clear HA
      simp only [awardingbodyref27_Good.l0] at H
      by_cases c16 : x8_2 < (l1.length : Int)
      ·rw [if_pos c16] at H
       have c16b0 : decide (x8_2 < (l1.length : Int)) = true := decide_eq_true c16
       clear c16
       have HC17 := za H
       clear H
       go_upto_region 7 with (fail)
       repeat (go_quiet (fail); go_upto_region 7 with (fail))
       go_cut [42] (fun v42 wc => ∃ (kq : Nat) (x42_16 : Bool), v42 = .bool x42_16 ∧ Aside0 (awardingbodyref27_Good.j2 kq l1 l2 x7_2 x8_2 x42_16 a0_0 a0_1 a0_2 a0_3 = some r) ∧ Aside0 (kq ≤ k2) ∧ Aside0 (wc.heap[gb198]? = some (.cells #[.int .i64 a0_0, .int .i64 a0_1, .int .i64 a0_2, .int .i64 a0_3] 24 (0, 0))) ∧ Aside0 (Below w.heap.size w wc))
       case first =>
        have H := HC17.out
        clear HC17
        by_cases c18 : 0 ≤ x8_2
        ·rw [if_pos c18] at H
         have c18b0 : decide (0 ≤ x8_2) = true := decide_eq_true c18
         clear c18
         (first | rw [c18b0] | (simp only [i64_w, i32_w]; rw [c18b0]) | skip)
         by_cases c19 : (rd l1 x8_2) > 200
         ·rw [if_pos c19] at H
          have c19b0 : decide (200 < (rd l1 x8_2)) = true := decide_eq_true c19
          clear c19
          have H' := za H
          clear H
          have p201 : 0 ≤ (x8_2 : Int) := of_decide_eq_true (by first | (with_reducible assumption) | assumption)
          have q201 : x8_2 < (l1.length : Int) := of_decide_eq_true (by first | (with_reducible assumption) | assumption)
          obtain ⟨ad201, e201, hx201_0⟩ := Kd.at_int HR1.out x8_2 p201 q201
          cases e201
          replace hx201_0 := zx HB hx201_0
          replace p201 := eq_true p201
          replace q201 := eq_true q201
          go_wp2
          repeat (go_quiet (fail); try go_wp2)
          go_meet
          case rel => exact ⟨_, (true), (by first | rfl | (simp; done) | (simp [*]; done)), H', ⟨by have := HJ3.out; have := HK2.out; first | omega | exact Nat.le_refl _⟩, ⟨by (with_reducible repeat (first | refine blk_drewN ?_ _ | refine blk_drew ?_ | refine blk_alloc ?_ _)); exact BK198.out⟩, ⟨zm HB⟩⟩
         ·rw [if_neg c19] at H
          have c19b0 : decide (200 < (rd l1 x8_2)) = false := decide_eq_false c19
          clear c19
          by_cases c20 : x8_2 < (l2.length : Int)
          ·rw [if_pos c20] at H
           have c20b0 : decide (x8_2 < (l2.length : Int)) = true := decide_eq_true c20
           clear c20
           have H' := za H
           clear H
           have p201 : 0 ≤ (x8_2 : Int) := of_decide_eq_true (by first | (with_reducible assumption) | assumption)
           have q201 : x8_2 < (l1.length : Int) := of_decide_eq_true (by first | (with_reducible assumption) | assumption)
           obtain ⟨ad201, e201, hx201_0⟩ := Kd.at_int HR1.out x8_2 p201 q201
           cases e201
           replace hx201_0 := zx HB hx201_0
           replace p201 := eq_true p201
           replace q201 := eq_true q201
           have p202 : 0 ≤ (x8_2 : Int) := of_decide_eq_true (by first | (with_reducible assumption) | assumption)
           have q202 : x8_2 < (l2.length : Int) := of_decide_eq_true (by first | (with_reducible assumption) | assumption)
           obtain ⟨ad202, e202, hx202_0⟩ := Kd.at_int HR2.out x8_2 p202 q202
           cases e202
           replace hx202_0 := zx HB hx202_0
           replace p202 := eq_true p202
           replace q202 := eq_true q202
           go_wp2
           repeat (go_quiet (fail); try go_wp2)
           go_meet
           case rel => exact ⟨_, (decide ((rd l2 x8_2) > 200)), (by first | rfl | (simp; done) | (simp [*]; done)), H', ⟨by have := HJ3.out; have := HK2.out; first | omega | exact Nat.le_refl _⟩, ⟨by (with_reducible repeat (first | refine blk_drewN ?_ _ | refine blk_drew ?_ | refine blk_alloc ?_ _)); exact BK198.out⟩, ⟨zm HB⟩⟩
          ·rw [if_neg c20] at H
           exact absurd H (by simp)
        ·rw [if_neg c18] at H
         exact absurd H (by simp)
       case rest =>
        clear HC17
        try clear c1
        try clear c2
        try clear p2
        try clear q2
        try clear hx2
        try clear c7
        try clear c7b0
        try clear c7b1
        try clear c8
        try clear c8b0
        try clear c8b1
        try clear c8b2
        try clear c15
        try clear c16
        try clear c16b0
        try clear c17
        try clear c18
        try clear c18b0
        try clear c19
        try clear c19b0
        try clear c20
        try clear c20b0
        try clear p20
        try clear q20
        try clear hx20
        try clear hcz11_0
        try clear hcz11_1
        try clear hcz11_2
        try clear hcz11_3
        try clear hcz13_0
        try clear hcz13_1
        try clear hcz13_2
        try clear hcz13_3
        try clear hcz9_0
        try clear hcz9_1
        try clear hcz9_2
        try clear hcz9_3
        try clear hfz11_0
        try clear hfz11_1
        try clear hfz11_2
        try clear hfz11_3
        try clear hfz13_0
        try clear hfz13_1
        try clear hfz13_2
        try clear hfz13_3
        try clear hfz9_0
        try clear hfz9_1
        try clear hfz9_2
        try clear hfz9_3
        try clear hx201_0
        try clear hx202_0
        try clear p2
        try clear p201
        try clear p202
        try clear q201
        try clear q202
        obtain ⟨kq, x42_16, rfl, HA, HJ16, BK198, HB⟩ := hcut
        cases kq with
        | zero => exact absurd HA.out (by simp [awardingbodyref27_Good.j2])
        | succ kj16 =>
         have H := HA.out
         clear HA
         simp only [awardingbodyref27_Good.j2] at H
         by_cases c21 : x42_16 = true
         ·subst c21
          have H1 : (some false) = some r := by rw [if_pos rfl] at H; exact H
          clear H
          have H := H1
          clear H1
          obtain rfl := Option.some.inj H
          go_wp2
          repeat (go_quiet (fail); try go_wp2)
          go_ret
          exact ⟨zf, zm HB⟩
         ·replace c21 := Bool.eq_false_iff.mpr c21
          subst c21
          have H1 : (if 0 ≤ x8_2 then (if x8_2 < (l1.length : Int) then (if x8_2 < (l2.length : Int) then ((awardingbodyref27_size.f (wrap64 ((mx (rd l1 x8_2) 0) - (mx (rd l2 x8_2) 0)))).bind fun t205 => (if t205 > a0_0 then (some false) else (awardingbodyref27_Good.l0 kj16 l1 l2 (wrap64 (x7_2 + (wrap64 ((mx (rd l1 x8_2) 0) - (mx (rd l2 x8_2) 0))))) (wrap64 (x8_2 + 1)) a0_0 a0_1 a0_2 a0_3))) else (none)) else (none)) else (none)) = some r := by rw [if_neg (show ¬ (false = true) by decide)] at H; exact H
          clear H
          have H := H1
          clear H1
          by_cases c22 : 0 ≤ x8_2
          ·rw [if_pos c22] at H
           have c22b0 : decide (0 ≤ x8_2) = true := decide_eq_true c22
           clear c22
           by_cases c23 : x8_2 < (l1.length : Int)
           ·rw [if_pos c23] at H
            have c23b0 : decide (x8_2 < (l1.length : Int)) = true := decide_eq_true c23
            clear c23
            obtain ⟨ji24, hji24⟩ : ∃ j_ : Int, (mx (rd l1 x8_2) 0) = j_ := ⟨_, rfl⟩
            replace H : (if x8_2 < (l2.length : Int) then ((awardingbodyref27_size.f (wrap64 ((ji24) - (mx (rd l2 x8_2) 0)))).bind fun t205 => (if t205 > a0_0 then (some false) else (awardingbodyref27_Good.l0 kj16 l1 l2 (wrap64 (x7_2 + (wrap64 ((ji24) - (mx (rd l2 x8_2) 0))))) (wrap64 (x8_2 + 1)) a0_0 a0_1 a0_2 a0_3))) else (none)) = some r := by first | (rw [hji24] at H; exact H) | (simp only [hji24] at H ⊢; exact H)
            have hji24_ : (if (rd l1 x8_2) < 0 then 0 else (rd l1 x8_2)) = ji24 := hji24
            by_cases c25 : x8_2 < (l2.length : Int)
            ·rw [if_pos c25] at H
             have c25b0 : decide (x8_2 < (l2.length : Int)) = true := decide_eq_true c25
             clear c25
             obtain ⟨ji26, hji26⟩ : ∃ j_ : Int, (mx (rd l2 x8_2) 0) = j_ := ⟨_, rfl⟩
             replace H : ((awardingbodyref27_size.f (wrap64 ((ji24) - (ji26)))).bind fun t205 => (if t205 > a0_0 then (some false) else (awardingbodyref27_Good.l0 kj16 l1 l2 (wrap64 (x7_2 + (wrap64 ((ji24) - (ji26))))) (wrap64 (x8_2 + 1)) a0_0 a0_1 a0_2 a0_3))) = some r := by first | (rw [hji26] at H; exact H) | (simp only [hji26] at H ⊢; exact H)
             have hji26_ : (if (rd l2 x8_2) < 0 then 0 else (rd l2 x8_2)) = ji26 := hji26
             replace H := Option.bind_eq_some_iff.mp H
             obtain ⟨t205, A270, H⟩ := H
             replace H : (if t205 > a0_0 then (some false) else (awardingbodyref27_Good.l0 kj16 l1 l2 (wrap64 (x7_2 + (wrap64 ((ji24) - (ji26))))) (wrap64 (x8_2 + 1)) a0_0 a0_1 a0_2 a0_3)) = some r := H
             have A27 := za A270
             clear A270
             by_cases c28 : t205 > a0_0
             ·rw [if_pos c28] at H
              have c28b0 : decide (a0_0 < t205) = true := decide_eq_true c28
              clear c28
              obtain rfl := Option.some.inj H
              have p203 : 0 ≤ (x8_2 : Int) := of_decide_eq_true (by first | (with_reducible assumption) | assumption)
              have q203 : x8_2 < (l1.length : Int) := of_decide_eq_true (by first | (with_reducible assumption) | assumption)
              obtain ⟨ad203, e203, hx203_0⟩ := Kd.at_int HR1.out x8_2 p203 q203
              cases e203
              replace hx203_0 := zx HB hx203_0
              replace p203 := eq_true p203
              replace q203 := eq_true q203
              have p204 : 0 ≤ (x8_2 : Int) := of_decide_eq_true (by first | (with_reducible assumption) | assumption)
              have q204 : x8_2 < (l2.length : Int) := of_decide_eq_true (by first | (with_reducible assumption) | assumption)
              obtain ⟨ad204, e204, hx204_0⟩ := Kd.at_int HR2.out x8_2 p204 q204
              cases e204
              replace hx204_0 := zx HB hx204_0
              replace p204 := eq_true p204
              replace q204 := eq_true q204
              go_wp2_with (first | (go_at_call 29; (with_reducible refine (awardingbodyref27_size.calls (wrap64 ((ji24) - (ji26))) t205 _ A27.out).mono ?_); rintro e w' ⟨rfl, ⟨nd, rfl⟩⟩; (try first | exact ⟨rfl, _, World.drewN_drewN _ _ _⟩ | exact ⟨rfl, _, Eq.trans (World.drewN_drewN _ _ _) (congrArg (World.drewN _) (Nat.add_assoc _ _ _))⟩); obtain ⟨hcz29_0, hcz29_1, hcz29_2, hcz29_3, hfz29_0, hfz29_1, hfz29_2, hfz29_3⟩ := z4 BK198))
              repeat (go_quiet (first | (go_at_call 29; (with_reducible refine (awardingbodyref27_size.calls (wrap64 ((ji24) - (ji26))) t205 _ A27.out).mono ?_); rintro e w' ⟨rfl, ⟨nd, rfl⟩⟩; (try first | exact ⟨rfl, _, World.drewN_drewN _ _ _⟩ | exact ⟨rfl, _, Eq.trans (World.drewN_drewN _ _ _) (congrArg (World.drewN _) (Nat.add_assoc _ _ _))⟩); obtain ⟨hcz29_0, hcz29_1, hcz29_2, hcz29_3, hfz29_0, hfz29_1, hfz29_2, hfz29_3⟩ := z4 BK198)); try go_wp2_with (first | (go_at_call 29; (with_reducible refine (awardingbodyref27_size.calls (wrap64 ((ji24) - (ji26))) t205 _ A27.out).mono ?_); rintro e w' ⟨rfl, ⟨nd, rfl⟩⟩; (try first | exact ⟨rfl, _, World.drewN_drewN _ _ _⟩ | exact ⟨rfl, _, Eq.trans (World.drewN_drewN _ _ _) (congrArg (World.drewN _) (Nat.add_assoc _ _ _))⟩); obtain ⟨hcz29_0, hcz29_1, hcz29_2, hcz29_3, hfz29_0, hfz29_1, hfz29_2, hfz29_3⟩ := z4 BK198)))
              go_ret
              exact ⟨by first | rfl | (simp [errW_none, errW_some] <;> rfl) | (simp only [← hji24, ← hji26]; first | rfl | (simp [errW_none, errW_some] <;> rfl)) | (simp [*, errW_none, errW_some] <;> rfl), zm HB⟩
             ·rw [if_neg c28] at H
              have c28b0 : decide (a0_0 < t205) = false := decide_eq_false c28
              clear c28
              have H' := za H
              clear H
              have p203 : 0 ≤ (x8_2 : Int) := of_decide_eq_true (by first | (with_reducible assumption) | assumption)
              have q203 : x8_2 < (l1.length : Int) := of_decide_eq_true (by first | (with_reducible assumption) | assumption)
              obtain ⟨ad203, e203, hx203_0⟩ := Kd.at_int HR1.out x8_2 p203 q203
              cases e203
              replace hx203_0 := zx HB hx203_0
              replace p203 := eq_true p203
              replace q203 := eq_true q203
              have p204 : 0 ≤ (x8_2 : Int) := of_decide_eq_true (by first | (with_reducible assumption) | assumption)
              have q204 : x8_2 < (l2.length : Int) := of_decide_eq_true (by first | (with_reducible assumption) | assumption)
              obtain ⟨ad204, e204, hx204_0⟩ := Kd.at_int HR2.out x8_2 p204 q204
              cases e204
              replace hx204_0 := zx HB hx204_0
              replace p204 := eq_true p204
              replace q204 := eq_true q204
              go_wp2_with (first | (go_at_call 29; (with_reducible refine (awardingbodyref27_size.calls (wrap64 ((ji24) - (ji26))) t205 _ A27.out).mono ?_); rintro e w' ⟨rfl, ⟨nd, rfl⟩⟩; (try first | exact ⟨rfl, _, World.drewN_drewN _ _ _⟩ | exact ⟨rfl, _, Eq.trans (World.drewN_drewN _ _ _) (congrArg (World.drewN _) (Nat.add_assoc _ _ _))⟩); obtain ⟨hcz30_0, hcz30_1, hcz30_2, hcz30_3, hfz30_0, hfz30_1, hfz30_2, hfz30_3⟩ := z4 BK198))
              repeat (go_quiet (first | (go_at_call 29; (with_reducible refine (awardingbodyref27_size.calls (wrap64 ((ji24) - (ji26))) t205 _ A27.out).mono ?_); rintro e w' ⟨rfl, ⟨nd, rfl⟩⟩; (try first | exact ⟨rfl, _, World.drewN_drewN _ _ _⟩ | exact ⟨rfl, _, Eq.trans (World.drewN_drewN _ _ _) (congrArg (World.drewN _) (Nat.add_assoc _ _ _))⟩); obtain ⟨hcz30_0, hcz30_1, hcz30_2, hcz30_3, hfz30_0, hfz30_1, hfz30_2, hfz30_3⟩ := z4 BK198)); try go_wp2_with (first | (go_at_call 29; (with_reducible refine (awardingbodyref27_size.calls (wrap64 ((ji24) - (ji26))) t205 _ A27.out).mono ?_); rintro e w' ⟨rfl, ⟨nd, rfl⟩⟩; (try first | exact ⟨rfl, _, World.drewN_drewN _ _ _⟩ | exact ⟨rfl, _, Eq.trans (World.drewN_drewN _ _ _) (congrArg (World.drewN _) (Nat.add_assoc _ _ _))⟩); obtain ⟨hcz30_0, hcz30_1, hcz30_2, hcz30_3, hfz30_0, hfz30_1, hfz30_2, hfz30_3⟩ := z4 BK198)))
              go_roundg kj16
              case measure => have := HJ3.out; have := HK2.out; have := HJ16.out; omega
              case rel => exact ⟨(wrap64 (x7_2 + (wrap64 ((ji24) - (ji26))))), (wrap64 (x8_2 + 1)), (by first | rfl | (simp; done) | (simp only [← hji24, ← hji26] <;> (first | rfl | simp)) | (simp [*]; done)), (by first | rfl | (simp; done) | (simp [*]; done)), H', ⟨by have := HJ3.out; have := HK2.out; have := HJ16.out; omega⟩, ⟨by (with_reducible repeat (first | refine blk_drewN ?_ _ | refine blk_drew ?_ | refine blk_alloc ?_ _)); exact BK198.out⟩, ⟨zm HB⟩⟩
            ·rw [if_neg c25] at H
             exact absurd H (by simp)
           ·rw [if_neg c23] at H
            exact absurd H (by simp)
          ·rw [if_neg c22] at H
           exact absurd H (by simp)
      ·rw [if_neg c16] at H
       have c16b0 : decide (x8_2 < (l1.length : Int)) = false := decide_eq_false c16
       clear c16
       replace H := Option.bind_eq_some_iff.mp H
       obtain ⟨t200, A310, H⟩ := H
       replace H : (some (decide (t200 ≤ a0_1))) = some r := H
       have A31 := za A310
       clear A310
       obtain rfl := Option.some.inj H
       go_wp2_with (first | (go_at_call 29; (with_reducible refine (awardingbodyref27_size.calls x7_2 t200 _ A31.out).mono ?_); rintro e w' ⟨rfl, ⟨nd, rfl⟩⟩; (try first | exact ⟨rfl, _, World.drewN_drewN _ _ _⟩ | exact ⟨rfl, _, Eq.trans (World.drewN_drewN _ _ _) (congrArg (World.drewN _) (Nat.add_assoc _ _ _))⟩); obtain ⟨hcz32_0, hcz32_1, hcz32_2, hcz32_3, hfz32_0, hfz32_1, hfz32_2, hfz32_3⟩ := z4 BK198))
       repeat (go_quiet (first | (go_at_call 29; (with_reducible refine (awardingbodyref27_size.calls x7_2 t200 _ A31.out).mono ?_); rintro e w' ⟨rfl, ⟨nd, rfl⟩⟩; (try first | exact ⟨rfl, _, World.drewN_drewN _ _ _⟩ | exact ⟨rfl, _, Eq.trans (World.drewN_drewN _ _ _) (congrArg (World.drewN _) (Nat.add_assoc _ _ _))⟩); obtain ⟨hcz32_0, hcz32_1, hcz32_2, hcz32_3, hfz32_0, hfz32_1, hfz32_2, hfz32_3⟩ := z4 BK198)); try go_wp2_with (first | (go_at_call 29; (with_reducible refine (awardingbodyref27_size.calls x7_2 t200 _ A31.out).mono ?_); rintro e w' ⟨rfl, ⟨nd, rfl⟩⟩; (try first | exact ⟨rfl, _, World.drewN_drewN _ _ _⟩ | exact ⟨rfl, _, Eq.trans (World.drewN_drewN _ _ _) (congrArg (World.drewN _) (Nat.add_assoc _ _ _))⟩); obtain ⟨hcz32_0, hcz32_1, hcz32_2, hcz32_3, hfz32_0, hfz32_1, hfz32_2, hfz32_3⟩ := z4 BK198)))
       go_ret
       exact ⟨zf, zm HB⟩

/-! ### awardingbodyref27_fails: function 31 -/
def awardingbodyref27_fails.l0 : Nat → List Bool → Int → Int → Option (Int)
  | 0, _, _, _ => none
  | k + 1, x0, x3, x4 => if x4 < (x0.length : Int) then (if 0 ≤ x4 then (if rdOf false x0 x4 = true then (awardingbodyref27_fails.l0 k x0 x3 (wrap64 (x4 + 1))) else (awardingbodyref27_fails.l0 k x0 (wrap64 (x3 + 1)) (wrap64 (x4 + 1)))) else (none)) else (some x3)
def awardingbodyref27_fails.f (k : Nat) (l0 : List Bool) : Option (Int) := awardingbodyref27_fails.l0 k l0 0 0
theorem awardingbodyref27_fails.mono_l : ∀ k, (∀ y0 y1 y2, LeO (awardingbodyref27_fails.l0 k y0 y1 y2) (awardingbodyref27_fails.l0 (k + 1) y0 y1 y2))
  | 0 => fun _ _ _ r h => by simp [awardingbodyref27_fails.l0] at h
  | k + 1 => by
    have ih0 := awardingbodyref27_fails.mono_l k
    · intro y0 y1 y2
      unfold awardingbodyref27_fails.l0
      repeat' first
      | (with_reducible exact ih0 _ _ _)
      | (with_reducible exact LeO.refl _)
      | (with_reducible exact LeO.none _)
      | (with_reducible refine LeO.ite ?_ ?_)
      | (with_reducible refine LeO.bind ?_ (fun _ => ?_))
      | exact ih0 _ _ _
      | exact LeO.none _
      | refine LeO.ite ?_ ?_
      | refine LeO.bind ?_ (fun _ => ?_)
theorem awardingbodyref27_fails.mono : ∀ a0 k, LeO (awardingbodyref27_fails.f k a0) (awardingbodyref27_fails.f (k + 1) a0) := by
  intro a0 k
  have ih0 := awardingbodyref27_fails.mono_l k
  unfold awardingbodyref27_fails.f
  repeat' first
      | (with_reducible exact ih0 _ _ _)
      | (with_reducible exact LeO.refl _)
      | (with_reducible exact LeO.none _)
      | (with_reducible refine LeO.ite ?_ ?_)
      | (with_reducible refine LeO.bind ?_ (fun _ => ?_))
      | exact ih0 _ _ _
      | exact LeO.none _
      | refine LeO.ite ?_ ?_
      | refine LeO.bind ?_ (fun _ => ?_)
set_option maxHeartbeats 8000000 in
set_option maxRecDepth 100000 in
theorem awardingbodyref27_fails.calls (k : Nat) (A0 : Option Addr) (c0 : Nat) (l0 : List Bool) (r : Int) (w : World) (hr0 : Kd.C Kd.bool w A0 l0.length l0) (hc0 : l0.length ≤ c0) (h : awardingbodyref27_fails.f k l0 = some r) :
    Calls Try.prog 31 #[.slice A0 l0.length c0] w fun e w' => e = .returned (.int .i64 r) ∧ Drawn0 w w' := by
 have HR0 := za hr0
 have HC0 := za hc0
 clear hr0 hc0
 have H : (awardingbodyref27_fails.l0 k l0 0 0) = some r := h
 clear h
 have H' := za H
 clear H
 go_enter Try.func31, Try.ntmps31
 go_wp2
 go_loopg [3, 4] k (fun kq v3 v4 w' => ∃ (x3_1 : Int) (x4_1 : Int), v3 = .int .i64 x3_1 ∧ v4 = .int .i64 x4_1 ∧ Aside0 (awardingbodyref27_fails.l0 kq l0 x3_1 x4_1 = some r) ∧ Aside0 (kq ≤ k) ∧ Drawn0 w w')
 case atStart => exact ⟨(0), (0), (by first | rfl | (simp; done) | (simp [*]; done)), (by first | rfl | (simp; done) | (simp [*]; done)), H', ⟨Nat.le_refl _⟩, by repeat (first | exact Drawn0.refl _ | apply Drawn0.step)⟩
 case round =>
  clear H'
  obtain ⟨x3_1, x4_1, rfl, rfl, HA, HK1, ⟨m1, rfl⟩⟩ := hrel
  cases gk with
  | zero => exact absurd HA.out (by simp [awardingbodyref27_fails.l0])
  | succ k1 =>
   have H := HA.out
   clear HA
   simp only [awardingbodyref27_fails.l0] at H
   by_cases c2 : x4_1 < (l0.length : Int)
   ·rw [if_pos c2] at H
    have c2b0 : decide (x4_1 < (l0.length : Int)) = true := decide_eq_true c2
    clear c2
    by_cases c3 : 0 ≤ x4_1
    ·rw [if_pos c3] at H
     have c3b0 : decide (0 ≤ x4_1) = true := decide_eq_true c3
     clear c3
     obtain ⟨bq4, hbq4⟩ : ∃ b_ : Bool, b_ = (rdOf false l0 x4_1) := ⟨_, rfl⟩
     replace H : (if bq4 = true then (awardingbodyref27_fails.l0 k1 l0 x3_1 (wrap64 (x4_1 + 1))) else (awardingbodyref27_fails.l0 k1 l0 (wrap64 (x3_1 + 1)) (wrap64 (x4_1 + 1)))) = some r := by rw [← hbq4] at H; exact H
     have Nbq4 := za hbq4
     clear hbq4
     by_cases c5 : bq4 = true
     ·subst c5
      have H1 : (awardingbodyref27_fails.l0 k1 l0 x3_1 (wrap64 (x4_1 + 1))) = some r := by rw [if_pos rfl] at H; exact H
      clear H
      have H := H1
      clear H1
      have H' := za H
      clear H
      have p206 : 0 ≤ (x4_1 : Int) := of_decide_eq_true (by first | (with_reducible assumption) | assumption)
      have q206 : x4_1 < (l0.length : Int) := of_decide_eq_true (by first | (with_reducible assumption) | assumption)
      obtain ⟨ad206, e206, hx206_0⟩ := Kd.at_bool HR0.out x4_1 p206 q206
      (try rw [← Nbq4.out] at hx206_0)
      (try rw [← Nbq4.out] at hw206_0)
      cases e206
      replace p206 := eq_true p206
      replace q206 := eq_true q206
      go_wp2
      go_roundg k1
      case measure => have := HK1.out; omega
      case rel => exact ⟨(x3_1), (wrap64 (x4_1 + 1)), (by first | rfl | (simp; done) | (simp [*]; done)), (by first | rfl | (simp; done) | (simp [*]; done)), H', ⟨by have := HK1.out; omega⟩, by repeat (first | exact Drawn0.refl _ | apply Drawn0.step)⟩
     ·replace c5 := Bool.eq_false_iff.mpr c5
      subst c5
      have H1 : (awardingbodyref27_fails.l0 k1 l0 (wrap64 (x3_1 + 1)) (wrap64 (x4_1 + 1))) = some r := by rw [if_neg (show ¬ (false = true) by decide)] at H; exact H
      clear H
      have H := H1
      clear H1
      have H' := za H
      clear H
      have p206 : 0 ≤ (x4_1 : Int) := of_decide_eq_true (by first | (with_reducible assumption) | assumption)
      have q206 : x4_1 < (l0.length : Int) := of_decide_eq_true (by first | (with_reducible assumption) | assumption)
      obtain ⟨ad206, e206, hx206_0⟩ := Kd.at_bool HR0.out x4_1 p206 q206
      (try rw [← Nbq4.out] at hx206_0)
      (try rw [← Nbq4.out] at hw206_0)
      cases e206
      replace p206 := eq_true p206
      replace q206 := eq_true q206
      go_wp2
      go_roundg k1
      case measure => have := HK1.out; omega
      case rel => exact ⟨(wrap64 (x3_1 + 1)), (wrap64 (x4_1 + 1)), (by first | rfl | (simp; done) | (simp [*]; done)), (by first | rfl | (simp; done) | (simp [*]; done)), H', ⟨by have := HK1.out; omega⟩, by repeat (first | exact Drawn0.refl _ | apply Drawn0.step)⟩
    ·rw [if_neg c3] at H
     exact absurd H (by simp)
   ·rw [if_neg c2] at H
    have c2b0 : decide (x4_1 < (l0.length : Int)) = false := decide_eq_false c2
    clear c2
    obtain rfl := Option.some.inj H
    go_wp2
    go_ret
    exact ⟨by first | rfl | (simp; done) | (simp [*]; done), by repeat (first | exact Drawn0.refl _ | apply Drawn0.step)⟩

/-! ### awardingbodyref27_Valid: function 19 -/
def awardingbodyref27_Valid.f (k : Nat) (a0_0 : Int) (a0_1 : Int) (a0_2 : Int) (a0_3 : Int) (l1_0 : List Bool) (a1_1 : Bool) : Option (Bool) := (awardingbodyref27_Check.f a0_0 a0_1 a0_2 a0_3).bind fun t209 => (if t209 = 0 then (if (l1_0.length : Int) ≤ a0_2 then ((awardingbodyref27_fails.f k l1_0).bind fun t210 => (some (a1_1 == (decide (t210 ≥ a0_3))))) else (some false)) else (some false))
theorem awardingbodyref27_Valid.mono : ∀ a0 a1 a2 a3 a4 a5 k, LeO (awardingbodyref27_Valid.f k a0 a1 a2 a3 a4 a5) (awardingbodyref27_Valid.f (k + 1) a0 a1 a2 a3 a4 a5) := by
  intro a0 a1 a2 a3 a4 a5 k
  unfold awardingbodyref27_Valid.f
  repeat' first
      | (with_reducible exact awardingbodyref27_fails.mono _ _)
      | (with_reducible exact LeO.refl _)
      | (with_reducible exact LeO.none _)
      | (with_reducible refine LeO.ite ?_ ?_)
      | (with_reducible refine LeO.bind ?_ (fun _ => ?_))
      | exact awardingbodyref27_fails.mono _ _
      | exact LeO.none _
      | refine LeO.ite ?_ ?_
      | refine LeO.bind ?_ (fun _ => ?_)
def awardingbodyref27_Valid.T1 : Bool × List (List Nat × List Nat) := (true, [([], []), ([0], [0]), ([1], [1]), ([2, 1], [2]), ([3], [3]), ([4, 3], [3, 4]), ([5, 3], [3, 5]), ([3], [3]), ([7, 3], [3, 7]), ([6, 8, 3], [3, 6, 8]), ([3, 9], [3, 9]), ([10, 3], [10]), ([11], [11]), ([12, 11], [11, 12]), ([11], [11]), ([14, 11], [11, 14]), ([15, 11, 11], [11, 15]), ([11], [11]), ([17, 11], [11, 17]), ([16, 18, 11], [11, 16, 18]), ([13, 19, 11], [11, 13, 19]), ([11, 20], [11, 20]), ([21, 16, 0, 1, 2, 3, 4, 5, 6, 7, 8, 9, 10, 11, 12, 13, 14, 15, 16, 17, 18, 19, 20, 21], [21])])
def awardingbodyref27_Valid.B1 : List Nat := [0, 1, 3, 7, 15, 31, 63, 15, 143, 511, 1023, 2047, 4095, 8191, 4095, 20479, 53247, 4095, 135167, 511999, 1048575, 2097151, 4194303]
theorem awardingbodyref27_Valid.tab1 : rtab .any (opsOf Try.f19 1) = awardingbodyref27_Valid.T1 := by kernel_rfl
theorem awardingbodyref27_Valid.bits1 : waitsOk awardingbodyref27_Valid.T1.2 awardingbodyref27_Valid.B1 = true := by kernel_rfl
set_option maxHeartbeats 8000000 in
set_option maxRecDepth 100000 in
theorem awardingbodyref27_Valid.calls (k : Nat) (a0_0 : Int) (a0_1 : Int) (a0_2 : Int) (a0_3 : Int) (A1_0 : Option Addr) (c1_0 : Nat) (l1_0 : List Bool) (a1_1 : Bool) (r : Bool) (w : World) (hr1_0 : Kd.C Kd.bool w A1_0 l1_0.length l1_0) (hc1_0 : l1_0.length ≤ c1_0) (h : awardingbodyref27_Valid.f k a0_0 a0_1 a0_2 a0_3 l1_0 a1_1 = some r) :
    Calls Try.prog 19 #[.agg #[.int .i64 a0_0, .int .i64 a0_1, .int .i64 a0_2, .int .i64 a0_3], .agg #[.slice A1_0 l1_0.length c1_0, .bool a1_1]] w fun e w' => e = .returned (.bool r) ∧ Below w.heap.size w w' := by
 have hu24 := Try.underlying24
 have hu27 := Try.underlying27
 have HR1_0 := za hr1_0
 have HC1_0 := za hc1_0
 clear hr1_0 hc1_0
 have HB := za (Below.refl w.heap.size w)
 have H : ((awardingbodyref27_Check.f a0_0 a0_1 a0_2 a0_3).bind fun t209 => (if t209 = 0 then (if (l1_0.length : Int) ≤ a0_2 then ((awardingbodyref27_fails.f k l1_0).bind fun t210 => (some (a1_1 == (decide (t210 ≥ a0_3))))) else (some false)) else (some false))) = some r := h
 clear h
 replace H := Option.bind_eq_some_iff.mp H
 obtain ⟨t209, A30, H⟩ := H
 replace H : (if t209 = 0 then (if (l1_0.length : Int) ≤ a0_2 then ((awardingbodyref27_fails.f k l1_0).bind fun t210 => (some (a1_1 == (decide (t210 ≥ a0_3))))) else (some false)) else (some false)) = some r := H
 have A3 := za A30
 clear A30
 by_cases c4 : t209 = 0
 ·rw [if_pos c4] at H
  have c4b0 : (t209 == 0) = true := beq_iff_eq.mpr c4
  have c4b1 : (t209 != 0) = false := bne_eq_false_iff_eq.mpr c4
  clear c4
  by_cases c5 : (l1_0.length : Int) ≤ a0_2
  ·rw [if_pos c5] at H
   have c5b0 : decide ((l1_0.length : Int) ≤ a0_2) = true := decide_eq_true c5
   clear c5
   replace H := Option.bind_eq_some_iff.mp H
   obtain ⟨t210, A60, H⟩ := H
   replace H : (some (a1_1 == (decide (t210 ≥ a0_3)))) = some r := H
   have A6 := za A60
   clear A60
   obtain rfl := Option.some.inj H
   go_enter Try.func19, Try.ntmps19
   try go_wp2_with (first | ((with_reducible refine gate_dst (N := 2) rfl ?_); (try (refine gate_guard (by rfl) ?_; dsimp only)); refine zE 2 #[.int .i64 a0_0, .int .i64 a0_1, .int .i64 a0_2, .int .i64 a0_3] 24 ?_; intro gb207 hg w7 hbox hb; have BK207 := za (hbox); have GW207 := zg HB hg; have GE207 := zg HB hg; replace HB := zs HB hb; clear hb hbox hg) | ((with_reducible refine gate_dst (N := 3) rfl ?_); (try (refine gate_guard (by rfl) ?_; dsimp only)); refine zE 3 #[.slice A1_0 l1_0.length c1_0, .bool a1_1] 27 ?_; intro gb208 hg w8 hbox hb; have BK208 := za (hbox); have GW208 := zg HB hg; have GE208 := zg HB hg; have NB207_208 := zl BK207 hg; have NB208_207 := zr BK207 hg; replace BK207 := zb BK207 hb; replace HB := zs HB hb; clear hb hbox hg))
   replace BK207 := za (blk_drew BK207.out)
   replace BK208 := za (blk_drew BK208.out)
   replace HB := za (below_drew1 HB.out)
   refine start_ (n := 23) (S := fun w' => w'.cell? ⟨gb207, 0, none⟩ = some (.int .i64 a0_0) ∧ w'.cell? ⟨gb207, 1, none⟩ = some (.int .i64 a0_1) ∧ w'.cell? ⟨gb207, 2, none⟩ = some (.int .i64 a0_2) ∧ w'.cell? ⟨gb207, 3, none⟩ = some (.int .i64 a0_3) ∧ w'.cell? ⟨gb208, 0, none⟩ = some (.slice A1_0 l1_0.length c1_0) ∧ w'.cell? ⟨gb208, 1, none⟩ = some (.bool a1_1)) (ds := []) #[false, false, false, false, false, false, false, false, false, false, false, false, false, false, false, false, false, false, false, false, false, false, false] (by kernel_rfl) rfl rfl ⟨(blk_cell BK207.out 0).trans rfl, (blk_cell BK207.out 1).trans rfl, (blk_cell BK207.out 2).trans rfl, (blk_cell BK207.out 3).trans rfl, (blk_cell BK208.out 0).trans rfl, (blk_cell BK208.out 1).trans rfl⟩ (fun hHeld => ?_); refine with_tabW awardingbodyref27_Valid.tab1 awardingbodyref27_Valid.bits1 (fun HT_ HW_ => ?_)
   generalize w8.drew = w9 at BK207 BK208 HB hHeld ⊢
   refine take_ (i := 0) (N := some 5) (v := ?_) (a' := ?_) #[true, false, false, false, false, false, false, false, false, false, false, false, false, false, false, false, false, false, false, false, false, false, false] rfl rfl (take_ofW HT_.out HW_.out (by kernel_rfl)) (fun _ _ _ h => h) (Or.inl ⟨by rfl, ?_⟩) hHeld ?_ ?_
   rotate_left
   ·rintro w' ⟨s0, s1, s2, s3, s4, s5⟩
    go_simp
    with_reducible rfl
   rotate_left
   ·simp only [Act.put, List.setIfInBounds_toArray, List.set_cons_zero, List.set_cons_succ, i64_w, i32_w]
    rfl
   refine one_ (i := 1) (N := some 6) #[true, true, false, false, false, false, false, false, false, false, false, false, false, false, false, false, false, false, false, false, false, false, false] rfl rfl (one_of HT_.out (by kernel_rfl)) (by decide) (fun K hK => ?_)
   refine goes_ Try.func15 (by kernel_rfl) rfl #[.agg #[.int .i64 a0_0, .int .i64 a0_1, .int .i64 a0_2, .int .i64 a0_3]] (by rfl) rfl rfl (by (try simp only [List.map_toArray, List.map_cons, List.map_nil]); first | done | rfl | (simp only [List.length_drop, List.length_take]; rfl)) ?_
   with_reducible refine (awardingbodyref27_Check.calls a0_0 a0_1 a0_2 a0_3 t209 _ A3.out).mono ?_
   rintro e w10 ⟨rfl, hb⟩
   refine ⟨_, rfl, ?_⟩
   replace BK207 := zb BK207 hb
   replace BK208 := zb BK208 hb
   replace HB := zs HB hb
   (try clear hb)
   (try clear hb2)
   (try clear hk)
   (try clear hi)
   refine hK.out _ _ ⟨(blk_cell BK207.out 0).trans rfl, (blk_cell BK207.out 1).trans rfl, (blk_cell BK207.out 2).trans rfl, (blk_cell BK207.out 3).trans rfl, (blk_cell BK208.out 0).trans rfl, (blk_cell BK208.out 1).trans rfl⟩ (fun hHeld => ?_)
   clear hK K
   refine norm_ (a' := ?_) ?_ ?_
   rotate_left
   ·show Act.put _ (some 6) _ = _
    simp only [Act.put, List.setIfInBounds_toArray, List.set_cons_zero, List.set_cons_succ, i64_w, i32_w]
    rfl
   refine pure_ (i := 2) (N := some 7) (v := ?_) (a' := ?_) #[true, true, true, false, false, false, false, false, false, false, false, false, false, false, false, false, false, false, false, false, false, false, false] rfl rfl (any_of HT_.out (by kernel_rfl)) (fun _ _ _ h => h) (Or.inl ⟨by rfl, ?_⟩) ?_ ?_
   rotate_left
   ·intro w'
    go_simp
    with_reducible rfl
   rotate_left
   ·simp only [Act.put, List.setIfInBounds_toArray, List.set_cons_zero, List.set_cons_succ, i64_w, i32_w]
    rfl
   refine pure_ (i := 3) (N := some 8) (v := ?_) (a' := ?_) #[true, true, true, true, false, false, false, false, false, false, false, false, false, false, false, false, false, false, false, false, false, false, false] rfl rfl (any_of HT_.out (by kernel_rfl)) (fun _ _ _ h => h) (Or.inl ⟨by rfl, ?_⟩) ?_ ?_
   rotate_left
   ·intro w'
    go_simp
    with_reducible rfl
   rotate_left
   ·simp only [Act.put, List.setIfInBounds_toArray, List.set_cons_zero, List.set_cons_succ, i64_w, i32_w]
    rfl
   refine pure_ (i := 4) (N := some 9) (v := ?_) (a' := ?_) #[true, true, true, true, true, false, false, false, false, false, false, false, false, false, false, false, false, false, false, false, false, false, false] rfl rfl (any_of HT_.out (by kernel_rfl)) (fun _ _ _ h => h) (Or.inl ⟨by rfl, ?_⟩) ?_ ?_
   rotate_left
   ·intro w'
    go_simp
    with_reducible rfl
   rotate_left
   ·simp only [Act.put, List.setIfInBounds_toArray, List.set_cons_zero, List.set_cons_succ, i64_w, i32_w]
    rfl
   refine pure_ (i := 7) (N := some 12) (v := ?_) (a' := ?_) #[true, true, true, true, true, false, false, true, false, false, false, false, false, false, false, false, false, false, false, false, false, false, false] rfl rfl (any_of HT_.out (by kernel_rfl)) (fun _ _ _ h => h) (Or.inl ⟨by rfl, ?_⟩) ?_ ?_
   rotate_left
   ·intro w'
    go_simp
    with_reducible rfl
   rotate_left
   ·simp only [Act.put, List.setIfInBounds_toArray, List.set_cons_zero, List.set_cons_succ, i64_w, i32_w]
    rfl
   refine take_ (i := 5) (N := some 10) (v := ?_) (a' := ?_) #[true, true, true, true, true, true, false, true, false, false, false, false, false, false, false, false, false, false, false, false, false, false, false] rfl rfl (take_ofW HT_.out HW_.out (by kernel_rfl)) (fun _ _ _ h => h) (Or.inl ⟨by rfl, ?_⟩) hHeld ?_ ?_
   rotate_left
   ·rintro w' ⟨s0, s1, s2, s3, s4, s5⟩
    go_simp
    with_reducible rfl
   rotate_left
   ·simp only [Act.put, List.setIfInBounds_toArray, List.set_cons_zero, List.set_cons_succ, i64_w, i32_w]
    rfl
   refine pure_ (i := 6) (N := some 11) (v := ?_) (a' := ?_) #[true, true, true, true, true, true, true, true, false, false, false, false, false, false, false, false, false, false, false, false, false, false, false] rfl rfl (any_of HT_.out (by kernel_rfl)) (fun _ _ _ h => h) (Or.inl ⟨by rfl, ?_⟩) ?_ ?_
   rotate_left
   ·intro w'
    go_simp
    with_reducible rfl
   rotate_left
   ·simp only [Act.put, List.setIfInBounds_toArray, List.set_cons_zero, List.set_cons_succ, i64_w, i32_w]
    rfl
   refine take_ (i := 8) (N := some 13) (v := ?_) (a' := ?_) #[true, true, true, true, true, true, true, true, true, false, false, false, false, false, false, false, false, false, false, false, false, false, false] rfl rfl (take_ofW HT_.out HW_.out (by kernel_rfl)) (fun _ _ _ h => h) (Or.inl ⟨by rfl, ?_⟩) hHeld ?_ ?_
   rotate_left
   ·rintro w' ⟨s0, s1, s2, s3, s4, s5⟩
    go_simp
    with_reducible rfl
   rotate_left
   ·simp only [Act.put, List.setIfInBounds_toArray, List.set_cons_zero, List.set_cons_succ, i64_w, i32_w]
    rfl
   refine pure_ (i := 9) (N := some 14) (v := ?_) (a' := ?_) #[true, true, true, true, true, true, true, true, true, true, false, false, false, false, false, false, false, false, false, false, false, false, false] rfl rfl (any_of HT_.out (by kernel_rfl)) (fun _ _ _ h => h) (Or.inl ⟨by rfl, ?_⟩) ?_ ?_
   rotate_left
   ·intro w'
    go_simp
    with_reducible rfl
   rotate_left
   ·simp only [Act.put, List.setIfInBounds_toArray, List.set_cons_zero, List.set_cons_succ, i64_w, i32_w]
    rfl
   refine pure_ (i := 10) (N := some 15) (v := ?_) (a' := ?_) #[true, true, true, true, true, true, true, true, true, true, true, false, false, false, false, false, false, false, false, false, false, false, false] rfl rfl (any_of HT_.out (by kernel_rfl)) (fun _ _ _ h => h) (Or.inl ⟨by rfl, ?_⟩) ?_ ?_
   rotate_left
   ·intro w'
    go_simp
    with_reducible rfl
   rotate_left
   ·simp only [Act.put, List.setIfInBounds_toArray, List.set_cons_zero, List.set_cons_succ, i64_w, i32_w]
    rfl
   refine pure_ (i := 11) (N := some 16) (v := ?_) (a' := ?_) #[true, true, true, true, true, true, true, true, true, true, true, true, false, false, false, false, false, false, false, false, false, false, false] rfl rfl (any_of HT_.out (by kernel_rfl)) (fun _ _ _ h => h) (Or.inl ⟨by rfl, ?_⟩) ?_ ?_
   rotate_left
   ·intro w'
    go_simp
    with_reducible rfl
   rotate_left
   ·simp only [Act.put, List.setIfInBounds_toArray, List.set_cons_zero, List.set_cons_succ, i64_w, i32_w]
    rfl
   refine pure_ (i := 12) (N := some 17) (v := ?_) (a' := ?_) #[true, true, true, true, true, true, true, true, true, true, true, true, true, false, false, false, false, false, false, false, false, false, false] rfl rfl (any_of HT_.out (by kernel_rfl)) (fun _ _ _ h => h) (Or.inl ⟨by rfl, ?_⟩) ?_ ?_
   rotate_left
   ·intro w'
    go_simp
    with_reducible rfl
   rotate_left
   ·simp only [Act.put, List.setIfInBounds_toArray, List.set_cons_zero, List.set_cons_succ, i64_w, i32_w]
    rfl
   refine pure_ (i := 14) (N := some 19) (v := ?_) (a' := ?_) #[true, true, true, true, true, true, true, true, true, true, true, true, true, false, true, false, false, false, false, false, false, false, false] rfl rfl (any_of HT_.out (by kernel_rfl)) (fun _ _ _ h => h) (Or.inl ⟨by rfl, ?_⟩) ?_ ?_
   rotate_left
   ·intro w'
    go_simp
    with_reducible rfl
   rotate_left
   ·simp only [Act.put, List.setIfInBounds_toArray, List.set_cons_zero, List.set_cons_succ, i64_w, i32_w]
    rfl
   refine pure_ (i := 17) (N := some 22) (v := ?_) (a' := ?_) #[true, true, true, true, true, true, true, true, true, true, true, true, true, false, true, false, false, true, false, false, false, false, false] rfl rfl (any_of HT_.out (by kernel_rfl)) (fun _ _ _ h => h) (Or.inl ⟨by rfl, ?_⟩) ?_ ?_
   rotate_left
   ·intro w'
    go_simp
    with_reducible rfl
   rotate_left
   ·simp only [Act.put, List.setIfInBounds_toArray, List.set_cons_zero, List.set_cons_succ, i64_w, i32_w]
    rfl
   refine take_ (i := 13) (N := some 18) (v := ?_) (a' := ?_) #[true, true, true, true, true, true, true, true, true, true, true, true, true, true, true, false, false, true, false, false, false, false, false] rfl rfl (take_ofW HT_.out HW_.out (by kernel_rfl)) (fun _ _ _ h => h) (Or.inl ⟨by rfl, ?_⟩) hHeld ?_ ?_
   rotate_left
   ·rintro w' ⟨s0, s1, s2, s3, s4, s5⟩
    go_simp
    with_reducible rfl
   rotate_left
   ·simp only [Act.put, List.setIfInBounds_toArray, List.set_cons_zero, List.set_cons_succ, i64_w, i32_w]
    rfl
   refine take_ (i := 15) (N := some 20) (v := ?_) (a' := ?_) #[true, true, true, true, true, true, true, true, true, true, true, true, true, true, true, true, false, true, false, false, false, false, false] rfl rfl (take_ofW HT_.out HW_.out (by kernel_rfl)) (fun _ _ _ h => h) (Or.inl ⟨by rfl, ?_⟩) hHeld ?_ ?_
   rotate_left
   ·rintro w' ⟨s0, s1, s2, s3, s4, s5⟩
    go_simp
    with_reducible rfl
   rotate_left
   ·simp only [Act.put, List.setIfInBounds_toArray, List.set_cons_zero, List.set_cons_succ, i64_w, i32_w]
    rfl
   refine take_ (i := 18) (N := some 23) (v := ?_) (a' := ?_) #[true, true, true, true, true, true, true, true, true, true, true, true, true, true, true, true, false, true, true, false, false, false, false] rfl rfl (take_ofW HT_.out HW_.out (by kernel_rfl)) (fun _ _ _ h => h) (Or.inl ⟨by rfl, ?_⟩) hHeld ?_ ?_
   rotate_left
   ·rintro w' ⟨s0, s1, s2, s3, s4, s5⟩
    go_simp
    with_reducible rfl
   rotate_left
   ·simp only [Act.put, List.setIfInBounds_toArray, List.set_cons_zero, List.set_cons_succ, i64_w, i32_w]
    rfl
   refine one_ (i := 16) (N := some 21) #[true, true, true, true, true, true, true, true, true, true, true, true, true, true, true, true, true, true, true, false, false, false, false] rfl rfl (one_of HT_.out (by kernel_rfl)) (by decide) (fun K hK => ?_)
   refine goes_ Try.func31 (by kernel_rfl) rfl #[.slice A1_0 l1_0.length c1_0] (by rfl) rfl rfl (by (try simp only [List.map_toArray, List.map_cons, List.map_nil]); first | done | rfl | (simp only [List.length_drop, List.length_take]; rfl)) ?_
   with_reducible refine (awardingbodyref27_fails.calls k _ _ l1_0 t210 _ ?side1 ?side2 A6.out).mono ?_
   (case side1 => exact zC HR1_0 HB)
   (case side2 => exact HC1_0.out)
   rintro e w' ⟨rfl, ⟨nd, rfl⟩⟩
   refine ⟨_, rfl, ?_⟩
   refine hK.out _ _ ⟨(blk_cell BK207.out 0).trans rfl, (blk_cell BK207.out 1).trans rfl, (blk_cell BK207.out 2).trans rfl, (blk_cell BK207.out 3).trans rfl, (blk_cell BK208.out 0).trans rfl, (blk_cell BK208.out 1).trans rfl⟩ (fun hHeld => ?_)
   clear hK K
   refine norm_ (a' := ?_) ?_ ?_
   rotate_left
   ·show Act.put _ (some 21) _ = _
    simp only [Act.put, List.setIfInBounds_toArray, List.set_cons_zero, List.set_cons_succ, i64_w, i32_w]
    rfl
   refine pure_ (i := 19) (N := some 24) (v := ?_) (a' := ?_) #[true, true, true, true, true, true, true, true, true, true, true, true, true, true, true, true, true, true, true, true, false, false, false] rfl rfl (any_of HT_.out (by kernel_rfl)) (fun _ _ _ h => h) (Or.inl ⟨by rfl, ?_⟩) ?_ ?_
   rotate_left
   ·intro w'
    go_simp
    with_reducible rfl
   rotate_left
   ·simp only [Act.put, List.setIfInBounds_toArray, List.set_cons_zero, List.set_cons_succ, i64_w, i32_w]
    rfl
   refine pure_ (i := 20) (N := some 25) (v := ?_) (a' := ?_) #[true, true, true, true, true, true, true, true, true, true, true, true, true, true, true, true, true, true, true, true, true, false, false] rfl rfl (any_of HT_.out (by kernel_rfl)) (fun _ _ _ h => h) (Or.inl ⟨by rfl, ?_⟩) ?_ ?_
   rotate_left
   ·intro w'
    go_simp
    with_reducible rfl
   rotate_left
   ·simp only [Act.put, List.setIfInBounds_toArray, List.set_cons_zero, List.set_cons_succ, i64_w, i32_w]
    rfl
   refine pure_ (i := 21) (N := some 26) (v := ?_) (a' := ?_) #[true, true, true, true, true, true, true, true, true, true, true, true, true, true, true, true, true, true, true, true, true, true, false] rfl rfl (any_of HT_.out (by kernel_rfl)) (fun _ _ _ h => h) (Or.inl ⟨by rfl, ?_⟩) ?_ ?_
   rotate_left
   ·intro w'
    go_simp
    with_reducible rfl
   rotate_left
   ·simp only [Act.put, List.setIfInBounds_toArray, List.set_cons_zero, List.set_cons_succ, i64_w, i32_w]
    rfl
   refine pure_ (i := 22) (N := some 4) (v := ?_) (a' := ?_) #[true, true, true, true, true, true, true, true, true, true, true, true, true, true, true, true, true, true, true, true, true, true, true] rfl rfl (any_of HT_.out (by kernel_rfl)) (fun _ _ _ h => h) (Or.inl ⟨by rfl, ?_⟩) ?_ ?_
   rotate_left
   ·intro w'
    go_simp
    with_reducible rfl
   rotate_left
   ·simp only [Act.put, List.setIfInBounds_toArray, List.set_cons_zero, List.set_cons_succ, i64_w, i32_w]
    rfl
   refine done_ (done_of HT_.out (by kernel_rfl)) ?_
   try go_wp2
   go_ret
   exact ⟨zf, zm HB⟩
  ·rw [if_neg c5] at H
   have c5b0 : decide ((l1_0.length : Int) ≤ a0_2) = false := decide_eq_false c5
   clear c5
   obtain rfl := Option.some.inj H
   go_enter Try.func19, Try.ntmps19
   try go_wp2_with (first | ((with_reducible refine gate_dst (N := 2) rfl ?_); (try (refine gate_guard (by rfl) ?_; dsimp only)); refine zE 2 #[.int .i64 a0_0, .int .i64 a0_1, .int .i64 a0_2, .int .i64 a0_3] 24 ?_; intro gb207 hg w11 hbox hb; have BK207 := za (hbox); have GW207 := zg HB hg; have GE207 := zg HB hg; replace HB := zs HB hb; clear hb hbox hg) | ((with_reducible refine gate_dst (N := 3) rfl ?_); (try (refine gate_guard (by rfl) ?_; dsimp only)); refine zE 3 #[.slice A1_0 l1_0.length c1_0, .bool a1_1] 27 ?_; intro gb208 hg w12 hbox hb; have BK208 := za (hbox); have GW208 := zg HB hg; have GE208 := zg HB hg; have NB207_208 := zl BK207 hg; have NB208_207 := zr BK207 hg; replace BK207 := zb BK207 hb; replace HB := zs HB hb; clear hb hbox hg))
   replace BK207 := za (blk_drew BK207.out)
   replace BK208 := za (blk_drew BK208.out)
   replace HB := za (below_drew1 HB.out)
   refine start_ (n := 23) (S := fun w' => w'.cell? ⟨gb207, 0, none⟩ = some (.int .i64 a0_0) ∧ w'.cell? ⟨gb207, 1, none⟩ = some (.int .i64 a0_1) ∧ w'.cell? ⟨gb207, 2, none⟩ = some (.int .i64 a0_2) ∧ w'.cell? ⟨gb207, 3, none⟩ = some (.int .i64 a0_3) ∧ w'.cell? ⟨gb208, 0, none⟩ = some (.slice A1_0 l1_0.length c1_0) ∧ w'.cell? ⟨gb208, 1, none⟩ = some (.bool a1_1)) (ds := []) #[false, false, false, false, false, false, false, false, false, false, false, false, false, false, false, false, false, false, false, false, false, false, false] (by kernel_rfl) rfl rfl ⟨(blk_cell BK207.out 0).trans rfl, (blk_cell BK207.out 1).trans rfl, (blk_cell BK207.out 2).trans rfl, (blk_cell BK207.out 3).trans rfl, (blk_cell BK208.out 0).trans rfl, (blk_cell BK208.out 1).trans rfl⟩ (fun hHeld => ?_); refine with_tabW awardingbodyref27_Valid.tab1 awardingbodyref27_Valid.bits1 (fun HT_ HW_ => ?_)
   generalize w12.drew = w13 at BK207 BK208 HB hHeld ⊢
   refine take_ (i := 0) (N := some 5) (v := ?_) (a' := ?_) #[true, false, false, false, false, false, false, false, false, false, false, false, false, false, false, false, false, false, false, false, false, false, false] rfl rfl (take_ofW HT_.out HW_.out (by kernel_rfl)) (fun _ _ _ h => h) (Or.inl ⟨by rfl, ?_⟩) hHeld ?_ ?_
   rotate_left
   ·rintro w' ⟨s0, s1, s2, s3, s4, s5⟩
    go_simp
    with_reducible rfl
   rotate_left
   ·simp only [Act.put, List.setIfInBounds_toArray, List.set_cons_zero, List.set_cons_succ, i64_w, i32_w]
    rfl
   refine one_ (i := 1) (N := some 6) #[true, true, false, false, false, false, false, false, false, false, false, false, false, false, false, false, false, false, false, false, false, false, false] rfl rfl (one_of HT_.out (by kernel_rfl)) (by decide) (fun K hK => ?_)
   refine goes_ Try.func15 (by kernel_rfl) rfl #[.agg #[.int .i64 a0_0, .int .i64 a0_1, .int .i64 a0_2, .int .i64 a0_3]] (by rfl) rfl rfl (by (try simp only [List.map_toArray, List.map_cons, List.map_nil]); first | done | rfl | (simp only [List.length_drop, List.length_take]; rfl)) ?_
   with_reducible refine (awardingbodyref27_Check.calls a0_0 a0_1 a0_2 a0_3 t209 _ A3.out).mono ?_
   rintro e w14 ⟨rfl, hb⟩
   refine ⟨_, rfl, ?_⟩
   replace BK207 := zb BK207 hb
   replace BK208 := zb BK208 hb
   replace HB := zs HB hb
   (try clear hb)
   (try clear hb2)
   (try clear hk)
   (try clear hi)
   refine hK.out _ _ ⟨(blk_cell BK207.out 0).trans rfl, (blk_cell BK207.out 1).trans rfl, (blk_cell BK207.out 2).trans rfl, (blk_cell BK207.out 3).trans rfl, (blk_cell BK208.out 0).trans rfl, (blk_cell BK208.out 1).trans rfl⟩ (fun hHeld => ?_)
   clear hK K
   refine norm_ (a' := ?_) ?_ ?_
   rotate_left
   ·show Act.put _ (some 6) _ = _
    simp only [Act.put, List.setIfInBounds_toArray, List.set_cons_zero, List.set_cons_succ, i64_w, i32_w]
    rfl
   refine pure_ (i := 2) (N := some 7) (v := ?_) (a' := ?_) #[true, true, true, false, false, false, false, false, false, false, false, false, false, false, false, false, false, false, false, false, false, false, false] rfl rfl (any_of HT_.out (by kernel_rfl)) (fun _ _ _ h => h) (Or.inl ⟨by rfl, ?_⟩) ?_ ?_
   rotate_left
   ·intro w'
    go_simp
    with_reducible rfl
   rotate_left
   ·simp only [Act.put, List.setIfInBounds_toArray, List.set_cons_zero, List.set_cons_succ, i64_w, i32_w]
    rfl
   refine pure_ (i := 3) (N := some 8) (v := ?_) (a' := ?_) #[true, true, true, true, false, false, false, false, false, false, false, false, false, false, false, false, false, false, false, false, false, false, false] rfl rfl (any_of HT_.out (by kernel_rfl)) (fun _ _ _ h => h) (Or.inl ⟨by rfl, ?_⟩) ?_ ?_
   rotate_left
   ·intro w'
    go_simp
    with_reducible rfl
   rotate_left
   ·simp only [Act.put, List.setIfInBounds_toArray, List.set_cons_zero, List.set_cons_succ, i64_w, i32_w]
    rfl
   refine pure_ (i := 4) (N := some 9) (v := ?_) (a' := ?_) #[true, true, true, true, true, false, false, false, false, false, false, false, false, false, false, false, false, false, false, false, false, false, false] rfl rfl (any_of HT_.out (by kernel_rfl)) (fun _ _ _ h => h) (Or.inl ⟨by rfl, ?_⟩) ?_ ?_
   rotate_left
   ·intro w'
    go_simp
    with_reducible rfl
   rotate_left
   ·simp only [Act.put, List.setIfInBounds_toArray, List.set_cons_zero, List.set_cons_succ, i64_w, i32_w]
    rfl
   refine pure_ (i := 7) (N := some 12) (v := ?_) (a' := ?_) #[true, true, true, true, true, false, false, true, false, false, false, false, false, false, false, false, false, false, false, false, false, false, false] rfl rfl (any_of HT_.out (by kernel_rfl)) (fun _ _ _ h => h) (Or.inl ⟨by rfl, ?_⟩) ?_ ?_
   rotate_left
   ·intro w'
    go_simp
    with_reducible rfl
   rotate_left
   ·simp only [Act.put, List.setIfInBounds_toArray, List.set_cons_zero, List.set_cons_succ, i64_w, i32_w]
    rfl
   refine take_ (i := 5) (N := some 10) (v := ?_) (a' := ?_) #[true, true, true, true, true, true, false, true, false, false, false, false, false, false, false, false, false, false, false, false, false, false, false] rfl rfl (take_ofW HT_.out HW_.out (by kernel_rfl)) (fun _ _ _ h => h) (Or.inl ⟨by rfl, ?_⟩) hHeld ?_ ?_
   rotate_left
   ·rintro w' ⟨s0, s1, s2, s3, s4, s5⟩
    go_simp
    with_reducible rfl
   rotate_left
   ·simp only [Act.put, List.setIfInBounds_toArray, List.set_cons_zero, List.set_cons_succ, i64_w, i32_w]
    rfl
   refine pure_ (i := 6) (N := some 11) (v := ?_) (a' := ?_) #[true, true, true, true, true, true, true, true, false, false, false, false, false, false, false, false, false, false, false, false, false, false, false] rfl rfl (any_of HT_.out (by kernel_rfl)) (fun _ _ _ h => h) (Or.inl ⟨by rfl, ?_⟩) ?_ ?_
   rotate_left
   ·intro w'
    go_simp
    with_reducible rfl
   rotate_left
   ·simp only [Act.put, List.setIfInBounds_toArray, List.set_cons_zero, List.set_cons_succ, i64_w, i32_w]
    rfl
   refine take_ (i := 8) (N := some 13) (v := ?_) (a' := ?_) #[true, true, true, true, true, true, true, true, true, false, false, false, false, false, false, false, false, false, false, false, false, false, false] rfl rfl (take_ofW HT_.out HW_.out (by kernel_rfl)) (fun _ _ _ h => h) (Or.inl ⟨by rfl, ?_⟩) hHeld ?_ ?_
   rotate_left
   ·rintro w' ⟨s0, s1, s2, s3, s4, s5⟩
    go_simp
    with_reducible rfl
   rotate_left
   ·simp only [Act.put, List.setIfInBounds_toArray, List.set_cons_zero, List.set_cons_succ, i64_w, i32_w]
    rfl
   refine pure_ (i := 9) (N := some 14) (v := ?_) (a' := ?_) #[true, true, true, true, true, true, true, true, true, true, false, false, false, false, false, false, false, false, false, false, false, false, false] rfl rfl (any_of HT_.out (by kernel_rfl)) (fun _ _ _ h => h) (Or.inl ⟨by rfl, ?_⟩) ?_ ?_
   rotate_left
   ·intro w'
    go_simp
    with_reducible rfl
   rotate_left
   ·simp only [Act.put, List.setIfInBounds_toArray, List.set_cons_zero, List.set_cons_succ, i64_w, i32_w]
    rfl
   refine pure_ (i := 10) (N := some 15) (v := ?_) (a' := ?_) #[true, true, true, true, true, true, true, true, true, true, true, false, false, false, false, false, false, false, false, false, false, false, false] rfl rfl (any_of HT_.out (by kernel_rfl)) (fun _ _ _ h => h) (Or.inl ⟨by rfl, ?_⟩) ?_ ?_
   rotate_left
   ·intro w'
    go_simp
    with_reducible rfl
   rotate_left
   ·simp only [Act.put, List.setIfInBounds_toArray, List.set_cons_zero, List.set_cons_succ, i64_w, i32_w]
    rfl
   refine pure_ (i := 11) (N := some 16) (v := ?_) (a' := ?_) #[true, true, true, true, true, true, true, true, true, true, true, true, false, false, false, false, false, false, false, false, false, false, false] rfl rfl (any_of HT_.out (by kernel_rfl)) (fun _ _ _ h => h) (Or.inl ⟨by rfl, ?_⟩) ?_ ?_
   rotate_left
   ·intro w'
    go_simp
    with_reducible rfl
   rotate_left
   ·simp only [Act.put, List.setIfInBounds_toArray, List.set_cons_zero, List.set_cons_succ, i64_w, i32_w]
    rfl
   refine pure_ (i := 12) (N := some 17) (v := undef) (a' := ?_) #[true, true, true, true, true, true, true, true, true, true, true, true, true, false, false, false, false, false, false, false, false, false, false] rfl rfl (any_of HT_.out (by kernel_rfl)) (fun _ _ _ h => h) (Or.inr ⟨by rfl, rfl⟩) ?_ ?_
   rotate_left
   ·simp only [Act.put, List.setIfInBounds_toArray, List.set_cons_zero, List.set_cons_succ, i64_w, i32_w]
    rfl
   refine pure_ (i := 13) (N := some 18) (v := undef) (a' := ?_) #[true, true, true, true, true, true, true, true, true, true, true, true, true, true, false, false, false, false, false, false, false, false, false] rfl rfl (any_of HT_.out (by kernel_rfl)) (fun _ _ _ h => h) (Or.inr ⟨by rfl, rfl⟩) ?_ ?_
   rotate_left
   ·simp only [Act.put, List.setIfInBounds_toArray, List.set_cons_zero, List.set_cons_succ, i64_w, i32_w]
    rfl
   refine pure_ (i := 14) (N := some 19) (v := undef) (a' := ?_) #[true, true, true, true, true, true, true, true, true, true, true, true, true, true, true, false, false, false, false, false, false, false, false] rfl rfl (any_of HT_.out (by kernel_rfl)) (fun _ _ _ h => h) (Or.inr ⟨by rfl, rfl⟩) ?_ ?_
   rotate_left
   ·simp only [Act.put, List.setIfInBounds_toArray, List.set_cons_zero, List.set_cons_succ, i64_w, i32_w]
    rfl
   refine pure_ (i := 15) (N := some 20) (v := undef) (a' := ?_) #[true, true, true, true, true, true, true, true, true, true, true, true, true, true, true, true, false, false, false, false, false, false, false] rfl rfl (any_of HT_.out (by kernel_rfl)) (fun _ _ _ h => h) (Or.inr ⟨by rfl, rfl⟩) ?_ ?_
   rotate_left
   ·simp only [Act.put, List.setIfInBounds_toArray, List.set_cons_zero, List.set_cons_succ, i64_w, i32_w]
    rfl
   refine pure_ (i := 16) (N := some 21) (v := undef) (a' := ?_) #[true, true, true, true, true, true, true, true, true, true, true, true, true, true, true, true, true, false, false, false, false, false, false] rfl rfl (any_of HT_.out (by kernel_rfl)) (fun _ _ _ h => h) (Or.inr ⟨by rfl, rfl⟩) ?_ ?_
   rotate_left
   ·simp only [Act.put, List.setIfInBounds_toArray, List.set_cons_zero, List.set_cons_succ, i64_w, i32_w]
    rfl
   refine pure_ (i := 17) (N := some 22) (v := undef) (a' := ?_) #[true, true, true, true, true, true, true, true, true, true, true, true, true, true, true, true, true, true, false, false, false, false, false] rfl rfl (any_of HT_.out (by kernel_rfl)) (fun _ _ _ h => h) (Or.inr ⟨by rfl, rfl⟩) ?_ ?_
   rotate_left
   ·simp only [Act.put, List.setIfInBounds_toArray, List.set_cons_zero, List.set_cons_succ, i64_w, i32_w]
    rfl
   refine pure_ (i := 18) (N := some 23) (v := undef) (a' := ?_) #[true, true, true, true, true, true, true, true, true, true, true, true, true, true, true, true, true, true, true, false, false, false, false] rfl rfl (any_of HT_.out (by kernel_rfl)) (fun _ _ _ h => h) (Or.inr ⟨by rfl, rfl⟩) ?_ ?_
   rotate_left
   ·simp only [Act.put, List.setIfInBounds_toArray, List.set_cons_zero, List.set_cons_succ, i64_w, i32_w]
    rfl
   refine pure_ (i := 19) (N := some 24) (v := undef) (a' := ?_) #[true, true, true, true, true, true, true, true, true, true, true, true, true, true, true, true, true, true, true, true, false, false, false] rfl rfl (any_of HT_.out (by kernel_rfl)) (fun _ _ _ h => h) (Or.inr ⟨by rfl, rfl⟩) ?_ ?_
   rotate_left
   ·simp only [Act.put, List.setIfInBounds_toArray, List.set_cons_zero, List.set_cons_succ, i64_w, i32_w]
    rfl
   refine pure_ (i := 20) (N := some 25) (v := undef) (a' := ?_) #[true, true, true, true, true, true, true, true, true, true, true, true, true, true, true, true, true, true, true, true, true, false, false] rfl rfl (any_of HT_.out (by kernel_rfl)) (fun _ _ _ h => h) (Or.inr ⟨by rfl, rfl⟩) ?_ ?_
   rotate_left
   ·simp only [Act.put, List.setIfInBounds_toArray, List.set_cons_zero, List.set_cons_succ, i64_w, i32_w]
    rfl
   refine pure_ (i := 21) (N := some 26) (v := ?_) (a' := ?_) #[true, true, true, true, true, true, true, true, true, true, true, true, true, true, true, true, true, true, true, true, true, true, false] rfl rfl (any_of HT_.out (by kernel_rfl)) (fun _ _ _ h => h) (Or.inl ⟨by rfl, ?_⟩) ?_ ?_
   rotate_left
   ·intro w'
    go_simp
    with_reducible rfl
   rotate_left
   ·simp only [Act.put, List.setIfInBounds_toArray, List.set_cons_zero, List.set_cons_succ, i64_w, i32_w]
    rfl
   refine pure_ (i := 22) (N := some 4) (v := ?_) (a' := ?_) #[true, true, true, true, true, true, true, true, true, true, true, true, true, true, true, true, true, true, true, true, true, true, true] rfl rfl (any_of HT_.out (by kernel_rfl)) (fun _ _ _ h => h) (Or.inl ⟨by rfl, ?_⟩) ?_ ?_
   rotate_left
   ·intro w'
    go_simp
    with_reducible rfl
   rotate_left
   ·simp only [Act.put, List.setIfInBounds_toArray, List.set_cons_zero, List.set_cons_succ, i64_w, i32_w]
    rfl
   refine done_ (done_of HT_.out (by kernel_rfl)) ?_
   try go_wp2
   go_ret
   exact ⟨zf, zm HB⟩
 ·rw [if_neg c4] at H
  have c4b0 : (t209 == 0) = false := beq_eq_false_iff_ne.mpr c4
  have c4b1 : (t209 != 0) = true := bne_iff_ne.mpr c4
  obtain rfl := Option.some.inj H
  go_enter Try.func19, Try.ntmps19
  try go_wp2_with (first | ((with_reducible refine gate_dst (N := 2) rfl ?_); (try (refine gate_guard (by rfl) ?_; dsimp only)); refine zE 2 #[.int .i64 a0_0, .int .i64 a0_1, .int .i64 a0_2, .int .i64 a0_3] 24 ?_; intro gb207 hg w15 hbox hb; have BK207 := za (hbox); have GW207 := zg HB hg; have GE207 := zg HB hg; replace HB := zs HB hb; clear hb hbox hg) | ((with_reducible refine gate_dst (N := 3) rfl ?_); (try (refine gate_guard (by rfl) ?_; dsimp only)); refine zE 3 #[.slice A1_0 l1_0.length c1_0, .bool a1_1] 27 ?_; intro gb208 hg w16 hbox hb; have BK208 := za (hbox); have GW208 := zg HB hg; have GE208 := zg HB hg; have NB207_208 := zl BK207 hg; have NB208_207 := zr BK207 hg; replace BK207 := zb BK207 hb; replace HB := zs HB hb; clear hb hbox hg))
  replace BK207 := za (blk_drew BK207.out)
  replace BK208 := za (blk_drew BK208.out)
  replace HB := za (below_drew1 HB.out)
  refine start_ (n := 23) (S := fun w' => w'.cell? ⟨gb207, 0, none⟩ = some (.int .i64 a0_0) ∧ w'.cell? ⟨gb207, 1, none⟩ = some (.int .i64 a0_1) ∧ w'.cell? ⟨gb207, 2, none⟩ = some (.int .i64 a0_2) ∧ w'.cell? ⟨gb207, 3, none⟩ = some (.int .i64 a0_3)) (ds := []) #[false, false, false, false, false, false, false, false, false, false, false, false, false, false, false, false, false, false, false, false, false, false, false] (by kernel_rfl) rfl rfl ⟨(blk_cell BK207.out 0).trans rfl, (blk_cell BK207.out 1).trans rfl, (blk_cell BK207.out 2).trans rfl, (blk_cell BK207.out 3).trans rfl⟩ (fun hHeld => ?_); refine with_tabW awardingbodyref27_Valid.tab1 awardingbodyref27_Valid.bits1 (fun HT_ HW_ => ?_)
  generalize w16.drew = w17 at BK207 BK208 HB hHeld ⊢
  refine take_ (i := 0) (N := some 5) (v := ?_) (a' := ?_) #[true, false, false, false, false, false, false, false, false, false, false, false, false, false, false, false, false, false, false, false, false, false, false] rfl rfl (take_ofW HT_.out HW_.out (by kernel_rfl)) (fun _ _ _ h => h) (Or.inl ⟨by rfl, ?_⟩) hHeld ?_ ?_
  rotate_left
  ·rintro w' ⟨s0, s1, s2, s3⟩
   go_simp
   with_reducible rfl
  rotate_left
  ·simp only [Act.put, List.setIfInBounds_toArray, List.set_cons_zero, List.set_cons_succ, i64_w, i32_w]
   rfl
  refine one_ (i := 1) (N := some 6) #[true, true, false, false, false, false, false, false, false, false, false, false, false, false, false, false, false, false, false, false, false, false, false] rfl rfl (one_of HT_.out (by kernel_rfl)) (by decide) (fun K hK => ?_)
  refine goes_ Try.func15 (by kernel_rfl) rfl #[.agg #[.int .i64 a0_0, .int .i64 a0_1, .int .i64 a0_2, .int .i64 a0_3]] (by rfl) rfl rfl (by (try simp only [List.map_toArray, List.map_cons, List.map_nil]); first | done | rfl | (simp only [List.length_drop, List.length_take]; rfl)) ?_
  with_reducible refine (awardingbodyref27_Check.calls a0_0 a0_1 a0_2 a0_3 t209 _ A3.out).mono ?_
  rintro e w18 ⟨rfl, hb⟩
  refine ⟨_, rfl, ?_⟩
  replace BK207 := zb BK207 hb
  replace BK208 := zb BK208 hb
  replace HB := zs HB hb
  (try clear hb)
  (try clear hb2)
  (try clear hk)
  (try clear hi)
  refine hK.out _ _ ⟨(blk_cell BK207.out 0).trans rfl, (blk_cell BK207.out 1).trans rfl, (blk_cell BK207.out 2).trans rfl, (blk_cell BK207.out 3).trans rfl⟩ (fun hHeld => ?_)
  clear hK K
  refine norm_ (a' := ?_) ?_ ?_
  rotate_left
  ·show Act.put _ (some 6) _ = _
   simp only [Act.put, List.setIfInBounds_toArray, List.set_cons_zero, List.set_cons_succ, i64_w, i32_w]
   rfl
  refine pure_ (i := 2) (N := some 7) (v := ?_) (a' := ?_) #[true, true, true, false, false, false, false, false, false, false, false, false, false, false, false, false, false, false, false, false, false, false, false] rfl rfl (any_of HT_.out (by kernel_rfl)) (fun _ _ _ h => h) (Or.inl ⟨by rfl, ?_⟩) ?_ ?_
  rotate_left
  ·intro w'
   go_simp
   with_reducible rfl
  rotate_left
  ·simp only [Act.put, List.setIfInBounds_toArray, List.set_cons_zero, List.set_cons_succ, i64_w, i32_w]
   rfl
  refine pure_ (i := 3) (N := some 8) (v := ?_) (a' := ?_) #[true, true, true, true, false, false, false, false, false, false, false, false, false, false, false, false, false, false, false, false, false, false, false] rfl rfl (any_of HT_.out (by kernel_rfl)) (fun _ _ _ h => h) (Or.inl ⟨by rfl, ?_⟩) ?_ ?_
  rotate_left
  ·intro w'
   go_simp
   with_reducible rfl
  rotate_left
  ·simp only [Act.put, List.setIfInBounds_toArray, List.set_cons_zero, List.set_cons_succ, i64_w, i32_w]
   rfl
  refine pure_ (i := 4) (N := some 9) (v := undef) (a' := ?_) #[true, true, true, true, true, false, false, false, false, false, false, false, false, false, false, false, false, false, false, false, false, false, false] rfl rfl (any_of HT_.out (by kernel_rfl)) (fun _ _ _ h => h) (Or.inr ⟨by rfl, rfl⟩) ?_ ?_
  rotate_left
  ·simp only [Act.put, List.setIfInBounds_toArray, List.set_cons_zero, List.set_cons_succ, i64_w, i32_w]
   rfl
  refine pure_ (i := 5) (N := some 10) (v := undef) (a' := ?_) #[true, true, true, true, true, true, false, false, false, false, false, false, false, false, false, false, false, false, false, false, false, false, false] rfl rfl (any_of HT_.out (by kernel_rfl)) (fun _ _ _ h => h) (Or.inr ⟨by rfl, rfl⟩) ?_ ?_
  rotate_left
  ·simp only [Act.put, List.setIfInBounds_toArray, List.set_cons_zero, List.set_cons_succ, i64_w, i32_w]
   rfl
  refine pure_ (i := 6) (N := some 11) (v := undef) (a' := ?_) #[true, true, true, true, true, true, true, false, false, false, false, false, false, false, false, false, false, false, false, false, false, false, false] rfl rfl (any_of HT_.out (by kernel_rfl)) (fun _ _ _ h => h) (Or.inr ⟨by rfl, rfl⟩) ?_ ?_
  rotate_left
  ·simp only [Act.put, List.setIfInBounds_toArray, List.set_cons_zero, List.set_cons_succ, i64_w, i32_w]
   rfl
  refine pure_ (i := 7) (N := some 12) (v := undef) (a' := ?_) #[true, true, true, true, true, true, true, true, false, false, false, false, false, false, false, false, false, false, false, false, false, false, false] rfl rfl (any_of HT_.out (by kernel_rfl)) (fun _ _ _ h => h) (Or.inr ⟨by rfl, rfl⟩) ?_ ?_
  rotate_left
  ·simp only [Act.put, List.setIfInBounds_toArray, List.set_cons_zero, List.set_cons_succ, i64_w, i32_w]
   rfl
  refine pure_ (i := 8) (N := some 13) (v := undef) (a' := ?_) #[true, true, true, true, true, true, true, true, true, false, false, false, false, false, false, false, false, false, false, false, false, false, false] rfl rfl (any_of HT_.out (by kernel_rfl)) (fun _ _ _ h => h) (Or.inr ⟨by rfl, rfl⟩) ?_ ?_
  rotate_left
  ·simp only [Act.put, List.setIfInBounds_toArray, List.set_cons_zero, List.set_cons_succ, i64_w, i32_w]
   rfl
  refine pure_ (i := 9) (N := some 14) (v := undef) (a' := ?_) #[true, true, true, true, true, true, true, true, true, true, false, false, false, false, false, false, false, false, false, false, false, false, false] rfl rfl (any_of HT_.out (by kernel_rfl)) (fun _ _ _ h => h) (Or.inr ⟨by rfl, rfl⟩) ?_ ?_
  rotate_left
  ·simp only [Act.put, List.setIfInBounds_toArray, List.set_cons_zero, List.set_cons_succ, i64_w, i32_w]
   rfl
  refine pure_ (i := 10) (N := some 15) (v := ?_) (a' := ?_) #[true, true, true, true, true, true, true, true, true, true, true, false, false, false, false, false, false, false, false, false, false, false, false] rfl rfl (any_of HT_.out (by kernel_rfl)) (fun _ _ _ h => h) (Or.inl ⟨by rfl, ?_⟩) ?_ ?_
  rotate_left
  ·intro w'
   go_simp
   with_reducible rfl
  rotate_left
  ·simp only [Act.put, List.setIfInBounds_toArray, List.set_cons_zero, List.set_cons_succ, i64_w, i32_w]
   rfl
  refine pure_ (i := 11) (N := some 16) (v := ?_) (a' := ?_) #[true, true, true, true, true, true, true, true, true, true, true, true, false, false, false, false, false, false, false, false, false, false, false] rfl rfl (any_of HT_.out (by kernel_rfl)) (fun _ _ _ h => h) (Or.inl ⟨by rfl, ?_⟩) ?_ ?_
  rotate_left
  ·intro w'
   go_simp
   with_reducible rfl
  rotate_left
  ·simp only [Act.put, List.setIfInBounds_toArray, List.set_cons_zero, List.set_cons_succ, i64_w, i32_w]
   rfl
  refine pure_ (i := 12) (N := some 17) (v := undef) (a' := ?_) #[true, true, true, true, true, true, true, true, true, true, true, true, true, false, false, false, false, false, false, false, false, false, false] rfl rfl (any_of HT_.out (by kernel_rfl)) (fun _ _ _ h => h) (Or.inr ⟨by rfl, rfl⟩) ?_ ?_
  rotate_left
  ·simp only [Act.put, List.setIfInBounds_toArray, List.set_cons_zero, List.set_cons_succ, i64_w, i32_w]
   rfl
  refine pure_ (i := 13) (N := some 18) (v := undef) (a' := ?_) #[true, true, true, true, true, true, true, true, true, true, true, true, true, true, false, false, false, false, false, false, false, false, false] rfl rfl (any_of HT_.out (by kernel_rfl)) (fun _ _ _ h => h) (Or.inr ⟨by rfl, rfl⟩) ?_ ?_
  rotate_left
  ·simp only [Act.put, List.setIfInBounds_toArray, List.set_cons_zero, List.set_cons_succ, i64_w, i32_w]
   rfl
  refine pure_ (i := 14) (N := some 19) (v := undef) (a' := ?_) #[true, true, true, true, true, true, true, true, true, true, true, true, true, true, true, false, false, false, false, false, false, false, false] rfl rfl (any_of HT_.out (by kernel_rfl)) (fun _ _ _ h => h) (Or.inr ⟨by rfl, rfl⟩) ?_ ?_
  rotate_left
  ·simp only [Act.put, List.setIfInBounds_toArray, List.set_cons_zero, List.set_cons_succ, i64_w, i32_w]
   rfl
  refine pure_ (i := 15) (N := some 20) (v := undef) (a' := ?_) #[true, true, true, true, true, true, true, true, true, true, true, true, true, true, true, true, false, false, false, false, false, false, false] rfl rfl (any_of HT_.out (by kernel_rfl)) (fun _ _ _ h => h) (Or.inr ⟨by rfl, rfl⟩) ?_ ?_
  rotate_left
  ·simp only [Act.put, List.setIfInBounds_toArray, List.set_cons_zero, List.set_cons_succ, i64_w, i32_w]
   rfl
  refine pure_ (i := 16) (N := some 21) (v := undef) (a' := ?_) #[true, true, true, true, true, true, true, true, true, true, true, true, true, true, true, true, true, false, false, false, false, false, false] rfl rfl (any_of HT_.out (by kernel_rfl)) (fun _ _ _ h => h) (Or.inr ⟨by rfl, rfl⟩) ?_ ?_
  rotate_left
  ·simp only [Act.put, List.setIfInBounds_toArray, List.set_cons_zero, List.set_cons_succ, i64_w, i32_w]
   rfl
  refine pure_ (i := 17) (N := some 22) (v := undef) (a' := ?_) #[true, true, true, true, true, true, true, true, true, true, true, true, true, true, true, true, true, true, false, false, false, false, false] rfl rfl (any_of HT_.out (by kernel_rfl)) (fun _ _ _ h => h) (Or.inr ⟨by rfl, rfl⟩) ?_ ?_
  rotate_left
  ·simp only [Act.put, List.setIfInBounds_toArray, List.set_cons_zero, List.set_cons_succ, i64_w, i32_w]
   rfl
  refine pure_ (i := 18) (N := some 23) (v := undef) (a' := ?_) #[true, true, true, true, true, true, true, true, true, true, true, true, true, true, true, true, true, true, true, false, false, false, false] rfl rfl (any_of HT_.out (by kernel_rfl)) (fun _ _ _ h => h) (Or.inr ⟨by rfl, rfl⟩) ?_ ?_
  rotate_left
  ·simp only [Act.put, List.setIfInBounds_toArray, List.set_cons_zero, List.set_cons_succ, i64_w, i32_w]
   rfl
  refine pure_ (i := 19) (N := some 24) (v := undef) (a' := ?_) #[true, true, true, true, true, true, true, true, true, true, true, true, true, true, true, true, true, true, true, true, false, false, false] rfl rfl (any_of HT_.out (by kernel_rfl)) (fun _ _ _ h => h) (Or.inr ⟨by rfl, rfl⟩) ?_ ?_
  rotate_left
  ·simp only [Act.put, List.setIfInBounds_toArray, List.set_cons_zero, List.set_cons_succ, i64_w, i32_w]
   rfl
  refine pure_ (i := 20) (N := some 25) (v := undef) (a' := ?_) #[true, true, true, true, true, true, true, true, true, true, true, true, true, true, true, true, true, true, true, true, true, false, false] rfl rfl (any_of HT_.out (by kernel_rfl)) (fun _ _ _ h => h) (Or.inr ⟨by rfl, rfl⟩) ?_ ?_
  rotate_left
  ·simp only [Act.put, List.setIfInBounds_toArray, List.set_cons_zero, List.set_cons_succ, i64_w, i32_w]
   rfl
  refine pure_ (i := 21) (N := some 26) (v := ?_) (a' := ?_) #[true, true, true, true, true, true, true, true, true, true, true, true, true, true, true, true, true, true, true, true, true, true, false] rfl rfl (any_of HT_.out (by kernel_rfl)) (fun _ _ _ h => h) (Or.inl ⟨by rfl, ?_⟩) ?_ ?_
  rotate_left
  ·intro w'
   go_simp
   with_reducible rfl
  rotate_left
  ·simp only [Act.put, List.setIfInBounds_toArray, List.set_cons_zero, List.set_cons_succ, i64_w, i32_w]
   rfl
  refine pure_ (i := 22) (N := some 4) (v := ?_) (a' := ?_) #[true, true, true, true, true, true, true, true, true, true, true, true, true, true, true, true, true, true, true, true, true, true, true] rfl rfl (any_of HT_.out (by kernel_rfl)) (fun _ _ _ h => h) (Or.inl ⟨by rfl, ?_⟩) ?_ ?_
  rotate_left
  ·intro w'
   go_simp
   with_reducible rfl
  rotate_left
  ·simp only [Act.put, List.setIfInBounds_toArray, List.set_cons_zero, List.set_cons_succ, i64_w, i32_w]
   rfl
  refine done_ (done_of HT_.out (by kernel_rfl)) ?_
  try go_wp2
  go_ret
  exact ⟨zf, zm HB⟩

end Go.Proofs.Ytdcfjmkeakkfjaa.Print
